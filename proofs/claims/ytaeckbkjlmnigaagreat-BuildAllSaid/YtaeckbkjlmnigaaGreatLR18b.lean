/- Plain laws of layer 18: the reference's streams of a node of a graph that may be. -/
import Derived.Test.YtaeckbkjlmnigaaGreatLR16
import Derived.Test.YtaeckbkjlmnigaaGreatLR18a
namespace Go.V.P
open Go Go.V Go.IntWalk
set_option linter.unusedVariables false
set_option linter.unusedSimpArgs false
set_option maxRecDepth 20000
section
variable {g : Graph} {vals : List I4} {places : List Int}
theorem rvals (hg : okGraph g) (hv : valuesV g = some vals) : ref03_Values g = some (vals, 0) := by
  have hE : valuesE g = (vals, 0) := by
    rcases valuesE_is g with ⟨v, h1, h2⟩ | ⟨h1, _⟩
    · rw [hv] at h1; cases h1; exact h2
    · rw [hv] at h1; cases h1
  rw [ValuesE3 g hg, hE]
theorem Host18_p (hg : okGraph g) (hv : valuesV g = some vals) {i : Nat} (hi : i < g.2.1.length) : ref18_Host g (i : Int) = some (hostC (i : Int) (gt vals ((g.1.length + i : Nat) : Int) dI4), 0) := by
  obtain ⟨hl, hb, hin, _⟩ := values_in hv
  have w : IntKind.wrap .i64 ((g.1.length : Int) + (i : Int)) = ((g.1.length + i : Nat) : Int) := by rw [i64_in _ (by omega)]; omega
  have d1 : (0 : Int) ≤ ((g.1.length + i : Nat) : Int) := by omega
  have d2 : ((g.1.length + i : Nat) : Int) < (vals.length : Int) := by omega
  have h5 : ref18_Host_r5_p g (i : Int) = false := by
    simp only [ref18_Host_r5_p, ref18_Host_r5_q]
    rw [decide_eq_false (by omega), decide_eq_false (by omega)]
    rfl
  unfold ref18_Host
  rw [rvals hg hv]
  simp only [Option.bind_some, bne_self_eq_false, cond_false, h5, ref18_Host_r8_p, w, d1, d2, decide_true, cond_true]
  rfl
theorem l9_p (hg : okGraph g) (hv : valuesV g = some vals) (hp : places.length = vals.length) {i : Nat} (hi : i < g.2.1.length) :
    iterN (ref18_Tiled_l9_p g places (i : Int) (vals, 0)) LL (0, [], []) = some (((gt g.2.1 (i : Int) dNode).2.1.length : Int), innV g vals i, frmV (gt g.2.1 (i : Int) dNode) places) := by
  obtain ⟨hl, hb, hin, _⟩ := values_in hv
  have hok : okNode (gt g.2.1 (i : Int) dNode) := hg.2.1.2 _ (gt_memR hi dNode)
  generalize hn : gt g.2.1 (i : Int) dNode = n at *
  have hloop := iterN_for (p := ref18_Tiled_l9_p g places (i : Int) (vals, 0)) (z := ((n.2.1.length : Int), innV g vals i, frmV n places)) n.2.1.length (fun k => ((k : Int), (n.2.1.take k).map (fun x => gt vals x dI4), (n.2.1.take k).map (fun x => gt places x 0))) LL (LL_lt (by have := hok.1; omega)) (fun k hk => by
    have hm := gt_memR hk (0 : Int)
    have hx := hin i hi (gt n.2.1 (k : Int) 0) (by rw [hn]; exact hm)
    have hge : gt n.2.1 (k : Int) 0 = n.2.1[k] := gt_at (0 : Int) hk
    have d1 : (k : Int) < (n.2.1.length : Int) := by omega
    have d2 : (0 : Int) ≤ (k : Int) := by omega
    have d3 := hx.1
    have d4 : gt n.2.1 (k : Int) 0 < (vals.length : Int) := by omega
    have d6 : gt n.2.1 (k : Int) 0 < (places.length : Int) := by omega
    have w1 : IntKind.wrap .i64 ((k : Int) + 1) = ((k + 1 : Nat) : Int) := by rw [i64_in _ (by have := hok.1; omega)]; omega
    have d5 : ∀ x : I4, ((n.2.1.take k).map fun x => gt vals x dI4).length + [x].length ≤ maxL := fun x => by
      have hm : maxL = 2147483648 := rfl
      have := hok.1
      simp only [List.length_map, List.length_take, List.length_cons, List.length_nil]
      omega
    have d7 : ∀ x : Int, ((n.2.1.take k).map fun x => gt places x 0).length + [x].length ≤ maxL := fun x => by
      have hm : maxL = 2147483648 := rfl
      have := hok.1
      simp only [List.length_map, List.length_take, List.length_cons, List.length_nil]
      omega
    simp only [ref18_Tiled_l9_p, ref18_Tiled_r11_p, ref18_Tiled_r12_p, hn, d1, d2, d3, d4, d5, d6, d7, w1, decide_true, cond_true, Option.bind_some]
    rw [hge, List.take_succ_eq_append_getElem hk, List.map_append, List.map_append]
    rfl) (by
    simp only [ref18_Tiled_l9_p, hn]
    rw [decide_eq_false (Int.lt_irrefl _), List.take_length]
    unfold innV frmV
    rw [hn]
    rfl)
  rw [List.take_zero, List.map_nil, List.map_nil, show ((0 : Nat) : Int) = 0 from rfl] at hloop
  exact hloop
theorem Tiled_p (hg : okGraph g) (hv : valuesV g = some vals) (hp : places.length = vals.length) {i : Nat} (hi : i < g.2.1.length)
    (hT : Tiled (gt g.2.1 (i : Int) dNode) (innV g vals i) (gt vals ((g.1.length + i : Nat) : Int) dI4)) :
    ref18_Tiled g places (i : Int) (bestV (gt g.2.1 (i : Int) dNode) (innV g vals i)) =
      some (streamsC (gt g.2.1 (i : Int) dNode) (innV g vals i) places (tilesV (gt vals ((g.1.length + i : Nat) : Int) dI4) (gt g.2.1 (i : Int) dNode) (innV g vals i)) (bufs (mostV (gt g.2.1 (i : Int) dNode) (innV g vals i)) 0).1 (i : Int) ((g.1.length + i : Nat) : Int) (gt vals ((g.1.length + i : Nat) : Int) dI4), 0) := by
  have hA := node_at (places := places) hg hv hp hi
  have h9 := l9_p hg hv hp hi
  obtain ⟨hl, hb, hin, _⟩ := values_in hv
  obtain ⟨aok, aval, ahl, alen, alies, hto⟩ := hA
  have w : IntKind.wrap .i64 ((g.1.length : Int) + (i : Int)) = ((g.1.length + i : Nat) : Int) := by rw [i64_in _ (by omega)]; omega
  have d1 : (0 : Int) ≤ ((g.1.length + i : Nat) : Int) := by omega
  have d2 : ((g.1.length + i : Nat) : Int) < (vals.length : Int) := by omega
  have d3 : ((g.1.length + i : Nat) : Int) < (places.length : Int) := by omega
  have h7 : ref18_Tiled_r7_p g places (i : Int) (vals, 0) = some () := by
    have e1 : (0 : Int) ≤ (i : Int) := by omega
    have e2 : (i : Int) < (g.2.1.length : Int) := by omega
    simp only [ref18_Tiled_r7_p, w, d1, d2, d3, e1, e2, decide_true, cond_true]
  have h5 : ref18_Tiled_r5_p g places (i : Int) (vals, 0) = some false := by
    have e1 : (0 : Int) ≤ (i : Int) := by omega
    have e2 : (i : Int) < (g.2.1.length : Int) := by omega
    have e3 : ¬ (i : Int) < 0 := by omega
    have e4 : ¬ (i : Int) ≥ (g.2.1.length : Int) := by omega
    have e5 : ((places.length : Int) != (vals.length : Int)) = false := by rw [hp]; simp
    have hnp : ref15_Npu (gt g.2.1 (i : Int) dNode).1 = some true := by
      have hok := value_ok ahl aok.2.2 aval
      obtain ⟨f1, _⟩ := nodeF _ _ hok.node
      obtain ⟨n1, n2⟩ := npu_of (gt g.2.1 (i : Int) dNode).1 f1.1 (by omega)
      rw [n2, ← n1, hT.npu]
    simp only [ref18_Tiled_r5_p, e1, e2, e3, e4, e5, hnp, decide_true, decide_false, cond_true, cond_false, Option.bind_some, Bool.not_true]
  unfold ref18_Tiled
  rw [rvals hg hv]
  simp only [Option.bind_some, bne_self_eq_false, cond_false, h5, h7]
  rw [h9]
  simp only [Option.bind_some, w]
  have hz16 := mayB_iff.1 (value_ok ahl aok.2.2 aval).may
  simp only [vS] at hz16
  generalize hzz : gt vals ((g.1.length + i : Nat) : Int) dI4 = z at *
  generalize hn : gt g.2.1 (i : Int) dNode = n at *
  generalize hinn : innV g vals i = inn at *
  obtain ⟨v, m, e, hM⟩ := Most_at n inn (bestV n inn) ahl aok.2.2
  have hvz : v = (z, 0) := Option.some.inj (hM.val.symm.trans aval)
  subst hvz
  obtain ⟨he, _⟩ := hM.ok rfl hT.best
  subst he
  have hm : mostV n inn = m := by unfold mostV; rw [hM.halo]; rfl
  have hb2 : (bufs (mostV n inn) 0).2 = 0 := by
    unfold bufs
    rw [if_pos rfl, if_neg (by have := hT.fit; omega)]
  have hbu : ref16_Bufs n inn (bestV n inn) = some ((bufs (mostV n inn) 0).1, 0) := by
    rw [rbufs_run hM, ← hm]
    exact congrArg some (Prod.ext rfl hb2)
  have h : TileOK vals places n inn z (tilesV z n inn) := hT.ok ahl aok.2.2 aval vals places alen fun k hk => by have := alies k hk; omega
  have hti : ref15_Tiles z.1 (bestV n inn) = some (tilesV z n inn) := by
    have hbz := hT.best
    rw [← (tiles_eq z.1 (bestV n inn) (by omega) (by omega) (by omega) (by omega)).1]
    exact hT.most.tiles
  have hpos : 0 < (tilesV z n inn).length := List.length_pos_of_mem hT.most.first
  rw [hbu]
  simp only [Option.bind_some, bne_self_eq_false, cond_false, hti]
  generalize tilesV z n inn = tiles at *
  generalize (bufs (mostV n inn) 0).1 = b at *
  have hfew := h.few
  have k0 := loadC_len (n := n) (inn := inn) (places := places) (tiles := tiles) (b := b) 0
  have k1 := loadC_len (n := n) (inn := inn) (places := places) (tiles := tiles) (b := b) 1
  have hm : maxL = 2147483648 := rfl
  have l0 := rload_p (node := (i : Int)) (to := ((g.1.length + i : Nat) : Int)) (b := b) h hpos
  show Option.bind (ref18_Plan_load (pl18 n (i : Int) inn places z ((g.1.length + i : Nat) : Int) tiles b) ((0 : Nat) : Int)) _ = _
  rw [l0]
  simp only [Option.bind_some]
  have hj20 : ref18_Tiled_j20_p g places (i : Int) (vals, 0) ((n.2.1.length : Int), inn, frmV n places) (b, 0) tiles (loadC n inn places tiles b ((0 : Nat) : Int)) = some (dmaS n inn places tiles b ((g.1.length + i : Nat) : Int) z 0) := by
    unfold ref18_Tiled_j20_p
    by_cases h1 : (tiles.length : Int) > 1
    · rw [decide_eq_true h1, cond_true]
      have l1 := rload_p (node := (i : Int)) (to := ((g.1.length + i : Nat) : Int)) (b := b) h (t := 1) (by omega)
      have hr : ref18_Tiled_r21_p g places (i : Int) (vals, 0) ((n.2.1.length : Int), inn, frmV n places) (b, 0) tiles (loadC n inn places tiles b ((0 : Nat) : Int)) = some (dmaS n inn places tiles b ((g.1.length + i : Nat) : Int) z 0) := by
        unfold ref18_Tiled_r21_p
        simp only [w, hn, hzz]
        show Option.bind (ref18_Plan_load (pl18 n (i : Int) inn places z ((g.1.length + i : Nat) : Int) tiles b) ((1 : Nat) : Int)) _ = _
        rw [l1]
        have c0 : (loadC n inn places tiles b 0).length + (loadC n inn places tiles b 1).length ≤ maxL := by omega
        show (bif decide ((loadC n inn places tiles b 0).length + (loadC n inn places tiles b 1).length ≤ maxL) then some (loadC n inn places tiles b 0 ++ loadC n inn places tiles b 1) else none) = _
        rw [decide_eq_true c0]
        rfl
      rw [hr]
      rfl
    · rw [decide_eq_false h1, cond_false]
      have e1 : loadC n inn places tiles b 1 = [] := by unfold loadC; rw [if_pos (by omega)]
      show _ = some (loadC n inn places tiles b 0 ++ loadC n inn places tiles b 1)
      rw [e1, List.append_nil]
      rfl
  rw [hj20]
  simp only [Option.bind_some]
  have e2 := iterN_for (p := ref18_Tiled_l24_p g places (i : Int) (vals, 0) ((n.2.1.length : Int), inn, frmV n places) (b, 0) tiles) (z := (dmaS n inn places tiles b ((g.1.length + i : Nat) : Int) z tiles.length, engS n inn tiles b (i : Int) tiles.length, (tiles.length : Int))) tiles.length
    (fun t => (dmaS n inn places tiles b ((g.1.length + i : Nat) : Int) z t, engS n inn tiles b (i : Int) t, (t : Int))) LL (LL_lt (by omega)) (fun t ht => by
      have q1 := rstore_p (node := (i : Int)) (to := ((g.1.length + i : Nat) : Int)) (b := b) h ht
      have q3 := rtile_p (node := (i : Int)) (to := ((g.1.length + i : Nat) : Int)) (b := b) h ht
      have m1 := dmaS_len (n := n) (inn := inn) (places := places) (tiles := tiles) (b := b) (z := z) ((g.1.length + i : Nat) : Int) t
      have m2 := engS_len (n := n) (inn := inn) (tiles := tiles) (b := b) (i : Int) t
      have m3 := loadC_len (n := n) (inn := inn) (places := places) (tiles := tiles) (b := b) ((t + 2 : Nat) : Int)
      have w2 : IntKind.wrap .i64 ((t : Int) + 2) = ((t + 2 : Nat) : Int) := by rw [i64_in _ (by omega)]; omega
      have w1 : IntKind.wrap .i64 ((t : Int) + 1) = ((t + 1 : Nat) : Int) := by rw [i64_in _ (by omega)]; omega
      have dt : (t : Int) < (tiles.length : Int) := by omega
      have s1 : ref18_wait 1 = wt 1 := rfl
      have s2 : ref18_signal 2 = sg 2 := rfl
      have s3 : ref18_wait 0 = wt 0 := rfl
      have s4 : ref18_wait 2 = wt 2 := rfl
      have s5 : ref18_signal 1 = sg 1 := rfl
      have c1 : ∀ x y w : I14, (dmaS n inn places tiles b ((g.1.length + i : Nat) : Int) z t).length + [x, y, w].length ≤ maxL := fun x y w => by simp only [List.length_cons, List.length_nil]; omega
      have c2 : ∀ x y w : I14, (dmaS n inn places tiles b ((g.1.length + i : Nat) : Int) z t ++ [x, y, w]).length + (loadC n inn places tiles b ((t + 2 : Nat) : Int)).length ≤ maxL := fun x y w => by simp only [List.length_append, List.length_cons, List.length_nil]; omega
      have c3 : ∀ x : I14, (engS n inn tiles b (i : Int) t).length + [x].length ≤ maxL := fun x => by simp only [List.length_cons, List.length_nil]; omega
      have c4 : ∀ x y : I14, (engS n inn tiles b (i : Int) t ++ [x]).length + [y].length ≤ maxL := fun x y => by simp only [List.length_append, List.length_cons, List.length_nil]; omega
      have c5 : ∀ x y w : I14, (engS n inn tiles b (i : Int) t ++ [x]).length + [y, w].length ≤ maxL := fun x y w => by simp only [List.length_append, List.length_cons, List.length_nil]; omega
      have c6 : ∀ x y w v : I14, ((engS n inn tiles b (i : Int) t ++ [x]) ++ [y]).length + [w, v].length ≤ maxL := fun x y w v => by simp only [List.length_append, List.length_cons, List.length_nil]; omega
      have f26 : ref18_Tiled_r26_p g places (i : Int) (vals, 0) ((n.2.1.length : Int), inn, frmV n places) (b, 0) tiles (dmaS n inn places tiles b ((g.1.length + i : Nat) : Int) z t, engS n inn tiles b (i : Int) t, (t : Int)) = some (dmaS n inn places tiles b ((g.1.length + i : Nat) : Int) z t ++ [wt 1, stT places tiles b ((g.1.length + i : Nat) : Int) z t, sg 2]) := by
        unfold ref18_Tiled_r26_p
        simp only [w, hn, hzz]
        show Option.bind (ref18_Plan_store (pl18 n (i : Int) inn places z ((g.1.length + i : Nat) : Int) tiles b) (t : Int)) _ = _
        rw [q1]
        simp only [Option.bind_some, s1, s2, c1, decide_true, cond_true]
      have f27 : ref18_Tiled_j27_p g places (i : Int) (vals, 0) ((n.2.1.length : Int), inn, frmV n places) (b, 0) tiles (dmaS n inn places tiles b ((g.1.length + i : Nat) : Int) z t, engS n inn tiles b (i : Int) t, (t : Int)) (dmaS n inn places tiles b ((g.1.length + i : Nat) : Int) z t ++ [wt 1, stT places tiles b ((g.1.length + i : Nat) : Int) z t, sg 2]) = some (dmaS n inn places tiles b ((g.1.length + i : Nat) : Int) z (t + 1)) := by
        unfold ref18_Tiled_j27_p
        simp only [w2]
        by_cases h1 : ((t + 2 : Nat) : Int) < (tiles.length : Int)
        · have q2 := rload_p (node := (i : Int)) (to := ((g.1.length + i : Nat) : Int)) (b := b) h (t := t + 2) (by omega)
          rw [decide_eq_true h1, cond_true]
          have hr : ref18_Tiled_r28_p g places (i : Int) (vals, 0) ((n.2.1.length : Int), inn, frmV n places) (b, 0) tiles (dmaS n inn places tiles b ((g.1.length + i : Nat) : Int) z t, engS n inn tiles b (i : Int) t, (t : Int)) (dmaS n inn places tiles b ((g.1.length + i : Nat) : Int) z t ++ [wt 1, stT places tiles b ((g.1.length + i : Nat) : Int) z t, sg 2]) = some (dmaS n inn places tiles b ((g.1.length + i : Nat) : Int) z (t + 1)) := by
            unfold ref18_Tiled_r28_p
            simp only [w, w2, hn, hzz]
            show Option.bind (ref18_Plan_load (pl18 n (i : Int) inn places z ((g.1.length + i : Nat) : Int) tiles b) ((t + 2 : Nat) : Int)) _ = _
            rw [q2]
            simp only [Option.bind_some, c2, decide_true, cond_true]
            rfl
          rw [hr]
          rfl
        · rw [decide_eq_false h1, cond_false]
          have e1 : loadC n inn places tiles b ((t + 2 : Nat) : Int) = [] := by unfold loadC; rw [if_pos (by omega)]
          simp only [dmaS]
          rw [e1, List.append_nil]
      have f32 : ∀ l : List I14, l.length + 2 ≤ maxL → ref18_Tiled_r32_p g places (i : Int) (vals, 0) ((n.2.1.length : Int), inn, frmV n places) (b, 0) tiles (dmaS n inn places tiles b ((g.1.length + i : Nat) : Int) z t, engS n inn tiles b (i : Int) t, (t : Int)) l = some (l ++ [tlT n inn tiles b (i : Int) t, sg 1]) := fun l hl => by
        unfold ref18_Tiled_r32_p
        simp only [w, hn, hzz]
        show Option.bind (ref18_Plan_tile (pl18 n (i : Int) inn places z ((g.1.length + i : Nat) : Int) tiles b) (t : Int)) _ = _
        rw [q3]
        have c : ∀ x y : I14, l.length + [x, y].length ≤ maxL := fun x y => hl
        simp only [Option.bind_some, s5, c, decide_true, cond_true]
      simp only [ref18_Tiled_l24_p, f26, f27, ref18_Tiled_r29_p, ref18_Tiled_j30_p, ref18_Tiled_r31_p, dt, w1, s3, s4, c3, decide_true, cond_true, Option.bind_some]
      by_cases h2 : 2 ≤ t
      · have dd : (t : Int) ≥ 2 := by omega
        have ff := f32 ((engS n inn tiles b (i : Int) t ++ [wt 0]) ++ [wt 2]) (by simp only [List.length_append, List.length_cons, List.length_nil]; omega)
        simp only [dd, c4, ff, decide_true, cond_true, Option.bind_some, engS, if_pos h2]
      · have dd : ¬ (t : Int) ≥ 2 := by omega
        have ff := f32 (engS n inn tiles b (i : Int) t ++ [wt 0]) (by simp only [List.length_append, List.length_cons, List.length_nil]; omega)
        simp only [dd, ff, decide_false, cond_false, Option.bind_some, engS, if_neg h2]) (by
      simp only [ref18_Tiled_l24_p]
      rw [decide_eq_false (Int.lt_irrefl _)]
      rfl)
  have m2 := engS_len (n := n) (inn := inn) (tiles := tiles) (b := b) (i : Int) tiles.length
  have e3 := iterN_for (p := ref18_Tiled_l34_p tiles) (z := (engS n inn tiles b (i : Int) tiles.length ++ List.replicate (min tiles.length 2) (wt 2), ((min tiles.length 2 : Nat) : Int))) (min tiles.length 2)
    (fun t => (engS n inn tiles b (i : Int) tiles.length ++ List.replicate t (wt 2), (t : Int))) LL (LL_lt (by omega)) (fun t ht => by
      have d1 : (t : Int) < min (tiles.length : Int) 2 := by omega
      have w1 : IntKind.wrap .i64 ((t : Int) + 1) = ((t + 1 : Nat) : Int) := by rw [i64_in _ (by omega)]; omega
      have s4 : ref18_wait 2 = wt 2 := rfl
      have c1 : ∀ x : I14, (engS n inn tiles b (i : Int) tiles.length ++ List.replicate t (wt 2)).length + [x].length ≤ maxL := fun x => by simp only [List.length_append, List.length_replicate, List.length_cons, List.length_nil]; omega
      simp only [ref18_Tiled_l34_p, ref18_Tiled_r36_p, d1, w1, s4, c1, decide_true, cond_true, Option.bind_some]
      rw [List.replicate_succ', List.append_assoc]) (by
      have d1 : ¬ ((min tiles.length 2 : Nat) : Int) < min (tiles.length : Int) 2 := by omega
      simp only [ref18_Tiled_l34_p, d1, decide_false, cond_false])
  simp only [engS] at e2
  rw [show ((0 : Nat) : Int) = 0 from rfl] at e2 e3
  rw [e2]
  simp only [Option.bind_some]
  rw [List.replicate_zero, List.append_nil] at e3
  rw [e3]
  rfl
theorem Node18_p (hg : okGraph g) (hv : valuesV g = some vals) (hp : places.length = vals.length) {i : Nat} (hi : i < g.2.1.length) :
    ref18_Node g places (i : Int) = some (nodeC (gt g.2.1 (i : Int) dNode) (innV g vals i) places (i : Int) ((g.1.length + i : Nat) : Int) (gt vals ((g.1.length + i : Nat) : Int) dI4), 0) := by
  have hA := node_at (places := places) hg hv hp hi
  have hH := Host18_p hg hv hi
  have hTp := Tiled_p hg hv hp hi
  obtain ⟨hl, hb, hin, _⟩ := values_in hv
  obtain ⟨b1, b2⟩ := best_V hA.hl hA.ok.2.2 hA.val
  have hrb := rbest_run _ _ _ hA.hl hA.ok.2.2 hA.val
  obtain ⟨aok, aval, ahl, alen, alies, hto⟩ := hA
  have e1 : (0 : Int) ≤ (i : Int) := by omega
  have e2 : (i : Int) < (g.2.1.length : Int) := by omega
  have h4 : ref18_Node_r4_p g places (i : Int) (vals, 0) = false := by
    simp only [ref18_Node_r4_p, ref18_Node_r4_q]
    rw [decide_eq_false (by omega), decide_eq_false (by omega), hp]
    simp
  have h8 : ref18_Node_r8_p g (i : Int) = some () := by
    simp only [ref18_Node_r8_p, e1, e2, decide_true, cond_true]
  generalize hzz : gt vals ((g.1.length + i : Nat) : Int) dI4 = z at *
  generalize hn : gt g.2.1 (i : Int) dNode = n at *
  have hloop := iterN_for (p := ref18_Node_l8_p g (i : Int) (vals, 0)) (z := (innV g vals i, (n.2.1.length : Int))) n.2.1.length (fun k => ((n.2.1.take k).map (fun x => gt vals x dI4), (k : Int))) LL (LL_lt (by have := aok.1; omega)) (fun k hk => by
    have hm := gt_memR hk (0 : Int)
    have hx := hin i hi (gt n.2.1 (k : Int) 0) (by rw [hn]; exact hm)
    have hge : gt n.2.1 (k : Int) 0 = n.2.1[k] := gt_at (0 : Int) hk
    have d1 : (k : Int) < (n.2.1.length : Int) := by omega
    have d2 : (0 : Int) ≤ (k : Int) := by omega
    have d3 := hx.1
    have d4 : gt n.2.1 (k : Int) 0 < (vals.length : Int) := by omega
    have w1 : IntKind.wrap .i64 ((k : Int) + 1) = ((k + 1 : Nat) : Int) := by rw [i64_in _ (by have := aok.1; omega)]; omega
    have d5 : ∀ x : I4, ((n.2.1.take k).map fun x => gt vals x dI4).length + [x].length ≤ maxL := fun x => by
      have hm : maxL = 2147483648 := rfl
      have := aok.1
      simp only [List.length_map, List.length_take, List.length_cons, List.length_nil]
      omega
    simp only [ref18_Node_l8_p, ref18_Node_r10_p, h8, hn, e1, e2, d1, d2, d3, d4, d5, w1, decide_true, cond_true, Option.bind_some]
    rw [hge, List.take_succ_eq_append_getElem hk, List.map_append]
    rfl) (by
    simp only [ref18_Node_l8_p, hn, h8, Option.bind_some]
    rw [decide_eq_false (Int.lt_irrefl _), List.take_length]
    unfold innV
    rw [hn]
    rfl)
  rw [List.take_zero, List.map_nil, show ((0 : Nat) : Int) = 0 from rfl] at hloop
  have h11 : ref18_Node_r11_p g (i : Int) (innV g vals i, (n.2.1.length : Int)) = some (bestV n (innV g vals i)) := by
    simp only [ref18_Node_r11_p, e1, e2, hn, hrb, b1, decide_true, cond_true, Option.bind_some]
  unfold ref18_Node
  rw [rvals hg hv]
  simp only [Option.bind_some, bne_self_eq_false, cond_false, h4]
  rw [hloop]
  simp only [Option.bind_some, h11]
  unfold nodeC
  rcases b2 with h0 | hT
  · rw [if_pos h0, h0, hH]
    rfl
  · have hne : bestV n (innV g vals i) ≠ 0 := by have := hT.best; omega
    rw [if_neg hne, show (bestV n (innV g vals i) == 0) = false by simpa using hne]
    simp only [cond_false]
    rw [hTp hT]
    rfl
end
end Go.V.P
