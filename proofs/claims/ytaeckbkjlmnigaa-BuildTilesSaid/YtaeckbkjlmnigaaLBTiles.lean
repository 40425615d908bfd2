/- Plain laws of layer 19: BuildTiles. -/
import Derived.Test.YtaeckbkjlmnigaaLBuild3
import Derived.Test.YtaeckbkjlmnigaaBt3
namespace Go.V.P
open Go Go.V Go.IntWalk
set_option linter.unusedVariables false
set_option linter.unusedSimpArgs false
set_option maxRecDepth 20000
section
variable {g : Graph} {vals : List I4}
theorem tiles_in (hg : okGraph g) (hv : valuesV g = some vals) {i : Nat} (hi : i < g.2.1.length) :
    iterN (law19_BuildTiles_l16_p g (vals, 0) (i : Int)) LL ([], 0) = some (innV g vals i, ((gt g.2.1 (i : Int) dNode).2.1.length : Int)) := by
  obtain ⟨hl, hb, hin, _⟩ := values_in hv
  have hok : okNode (gt g.2.1 (i : Int) dNode) := hg.2.1.2 _ (gt_memR hi dNode)
  generalize hn : gt g.2.1 (i : Int) dNode = n at *
  have hloop := iterN_for (p := law19_BuildTiles_l16_p g (vals, 0) (i : Int)) (z := (innV g vals i, (n.2.1.length : Int))) n.2.1.length (fun k => ((n.2.1.take k).map fun x => gt vals x dI4, (k : Int))) LL (LL_lt (by have := hok.1; omega)) (fun k hk => by
    have hm := gt_memR hk (0 : Int)
    have hx := hin i hi (gt n.2.1 (k : Int) 0) (by rw [hn]; exact hm)
    have hge : gt n.2.1 (k : Int) 0 = n.2.1[k] := gt_at (0 : Int) hk
    have d1 : (k : Int) < (n.2.1.length : Int) := by omega
    have d2 : (0 : Int) ≤ (k : Int) := by omega
    have d3 := hx.1
    have d4 : gt n.2.1 (k : Int) 0 < (vals.length : Int) := by omega
    have w1 : IntKind.wrap .i64 ((k : Int) + 1) = ((k + 1 : Nat) : Int) := by rw [i64_in _ (by have := hok.1; omega)]; omega
    have d5 : ∀ x : I4, ((n.2.1.take k).map fun x => gt vals x dI4).length + [x].length ≤ maxL := fun x => by
      have hm : maxL = 2147483648 := rfl
      have := hok.1
      simp only [List.length_map, List.length_take, List.length_cons, List.length_nil]
      omega
    simp only [law19_BuildTiles_l16_p, law19_BuildTiles_r18_p, hn, d1, d2, d3, d4, d5, w1, decide_true, cond_true, Option.bind_some]
    rw [hge, List.take_succ_eq_append_getElem hk, List.map_append]
    rfl) (by
    simp only [law19_BuildTiles_l16_p, hn]
    rw [decide_eq_false (Int.lt_irrefl _), List.take_length]
    unfold innV
    rw [hn]
    rfl)
  exact hloop
theorem kernels_in (y : Image × Int) (i : Int) (hl : y.1.2.2.2.2.2.2.length < 1000000) :
    iterN (law19_BuildTiles_l25_p y i) LL (0, 0) = some ((y.1.2.2.2.2.2.2.countP (isKn i) : Int), (y.1.2.2.2.2.2.2.length : Int)) := by
  obtain ⟨L, hL⟩ : ∃ L, L = y.1.2.2.2.2.2.2 := ⟨_, rfl⟩
  rw [← hL] at hl ⊢
  have := iterN_for (p := law19_BuildTiles_l25_p y i) (z := ((L.countP (isKn i) : Int), (L.length : Int))) L.length (fun k => (((L.take k).countP (isKn i) : Int), (k : Int))) LL (LL_lt (by omega)) (fun k hk => by
    have d1 : (k : Int) < (L.length : Int) := by omega
    have d2 : (0 : Int) ≤ (k : Int) := by omega
    have hge : gt L (k : Int) dI14 = L[k] := gt_at dI14 hk
    have w1 : IntKind.wrap .i64 ((k : Int) + 1) = ((k + 1 : Nat) : Int) := by rw [i64_in _ (by omega)]; omega
    have hc : (L.take k).countP (isKn i) ≤ k := Nat.le_trans List.countP_le_length (by rw [List.length_take]; omega)
    have w2 : IntKind.wrap .i64 (((L.take k).countP (isKn i) : Int) + 1) = ((L.take k).countP (isKn i) : Int) + 1 := i64_in _ (by omega)
    rw [List.take_succ_eq_append_getElem hk, List.countP_append]
    simp only [law19_BuildTiles_l25_p, law19_BuildTiles_j27_p, law19_BuildTiles_r27_p, ← hL, d1, d2, hge, w1, decide_true, cond_true, Option.bind_some]
    by_cases h4 : L[k].1 = 4
    · by_cases hi : L[k].2.2.1 = i
      · have : isKn i L[k] = true := by unfold isKn; rw [h4, hi]; simp
        rw [show (L[k].1 == 4) = true by simpa using h4, show (L[k].2.2.1 == i) = true by simpa using hi]
        simp only [cond_true, Option.bind_some, w2, List.countP_cons, List.countP_nil, this, if_true]
        rfl
      · have : isKn i L[k] = false := by unfold isKn; rw [show (L[k].2.2.1 == i) = false by simpa using hi, Bool.and_false]
        rw [show (L[k].1 == 4) = true by simpa using h4, show (L[k].2.2.1 == i) = false by simpa using hi]
        simp only [cond_true, cond_false, Option.bind_some, List.countP_cons, List.countP_nil, this]
        rfl
    · have : isKn i L[k] = false := by unfold isKn; rw [show (L[k].1 == 4) = false by simpa using h4, Bool.false_and]
      rw [show (L[k].1 == 4) = false by simpa using h4]
      simp only [cond_false, Option.bind_some, List.countP_cons, List.countP_nil, this]
      rfl) (by
    simp only [law19_BuildTiles_l25_p, ← hL]
    rw [decide_eq_false (Int.lt_irrefl _), List.take_length]
    rfl)
  exact this
theorem BuildTiles_true (g : Graph) (_ : Ts.ok tsGraph g) : law19_BuildTiles g = some true := by
  obtain ⟨m, hm, hg⟩ := less19 g
  unfold law19_BuildTiles
  rw [shown19, hm]
  simp only [Option.bind_some]
  rw [ValuesE3 m hg]
  simp only [Option.bind_some]
  rcases Compile_or hg with ⟨vals, hB⟩ | ⟨e, he, hv, hE, hC⟩
  · rw [hB.run, hB.ve]
    obtain ⟨l, t1, t2, t3⟩ := hB.tiled hg
    obtain ⟨hl, hb, hin, _⟩ := values_in hB.vv
    simp only [Option.bind_some, bne_self_eq_false, cond_false, t1]
    have hr8 : law19_BuildTiles_r8_p m (imgV m vals, 0) l = false := by
      simp only [law19_BuildTiles_r8_p, law19_BuildTiles_r8_q]
      rw [t2]
      simp
    rw [hr8]
    have hloop := iterN_for (p := law19_BuildTiles_l11_p m (vals, 0) (imgV m vals, 0) l) (z := .inl (m.2.1.length : Int)) m.2.1.length (fun k => (k : Int)) LL (LL_lt (by omega)) (fun i hi => by
      have hA := node_at (places := plcV m) hg hB.vv hB.plen hi
      obtain ⟨mo, b, n1, n2, n3⟩ := best_iff hA.hl hA.ok.2.2 hA.val
      have d1 : (i : Int) < (m.2.1.length : Int) := by omega
      have d2 : (0 : Int) ≤ (i : Int) := by omega
      have d3 : (i : Int) < (l.length : Int) := by omega
      have w1 : IntKind.wrap .i64 ((i : Int) + 1) = ((i + 1 : Nat) : Int) := by rw [i64_in _ (by omega)]; omega
      have hfl : gt l (i : Int) false = (b && decide (takes mo ≤ 1024)) := by rw [t3 i hi]; exact n3
      have hst := strS_len hg hB.vv hB.plen m.2.1.length (Nat.le_refl _)
      have hke := kernels_in (imgV m vals, 0) (i : Int) (by simp only [imgV, List.length_append, List.length_cons, List.length_nil]; omega)
      obtain ⟨_, _, _, s4⟩ := strS_T hg hB.vv hB.plen i m.2.1.length (Nat.le_refl _)
      have hcnt : ((imgV m vals, (0 : Int)).1.2.2.2.2.2.2).countP (isKn (i : Int)) = if tiledB m vals i = false then 1 else 0 := by
        show ((strS m vals (plcV m) m.2.1.length).2.2 ++ [hlt]).countP (isKn (i : Int)) = _
        have hh : isKn (i : Int) hlt = false := rfl
        rw [List.countP_append, s4]
        simp only [List.countP_cons, List.countP_nil, hh]
        simp [hi]
      have hr13 : law19_BuildTiles_r13_p m (i : Int) = some () := by simp only [law19_BuildTiles_r13_p, d1, d2, decide_true, cond_true]
      have hr21 : law19_BuildTiles_r21_p l (i : Int) (takes mo, 0) b = some false := by
        simp only [law19_BuildTiles_r21_p, d2, d3, decide_true, cond_true, hfl]
        cases b <;> simp
      simp only [law19_BuildTiles_l11_p, d1, decide_true, cond_true, hr13, Option.bind_some]
      rw [tiles_in hg hB.vv hi]
      simp only [Option.bind_some, n1, n2, hr21, cond_false, hke, hcnt]
      have hr29 : law19_BuildTiles_r29_p l (i : Int) (((if tiledB m vals i = false then 1 else 0 : Nat) : Int), (((imgV m vals, (0 : Int)).1.2.2.2.2.2.2).length : Int)) = some false := by
        simp only [law19_BuildTiles_r29_p, d2, d3, decide_true, cond_true, t3 i hi]
        cases tiledB m vals i <;> rfl
      rw [hr29]
      simp only [Option.bind_some, cond_false, w1]) (by
      simp only [law19_BuildTiles_l11_p]
      rw [decide_eq_false (Int.lt_irrefl _)]
      rfl)
    have hloop' : iterN (law19_BuildTiles_l11_p m (vals, 0) (imgV m vals, 0) l) LL 0 = _ := hloop
    simp only [cond_false]
    rw [hloop']
    rfl
  · rw [hC, hE]
    simp only [Option.bind_some]
    rw [show (e != 0) = true by simpa using he]
    simp [law19_BuildTiles_r6_p, law19_BuildTiles_r6_q]
end
end Go.V.P
