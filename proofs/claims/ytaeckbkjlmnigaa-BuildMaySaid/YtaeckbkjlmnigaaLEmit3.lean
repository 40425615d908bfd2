/- Plain laws of layer 18: a node's streams. -/
import Derived.Test.YtaeckbkjlmnigaaLEmit2
import Derived.Test.YtaeckbkjlmnigaaLEvA
namespace Go.V.P
open Go Go.V Go.IntWalk
set_option linter.unusedVariables false
set_option linter.unusedSimpArgs false
set_option maxRecDepth 20000
section
variable (n : Node) (inn : List I4) (places : List Int) (tiles : List I2) (b : I7) (i : Int) (to : Int) (z : I4)
def stT (t : Nat) : I14 := stC z (gt places to 0) (gt tiles (t : Int) dI2) (par (t : Int) b.2.2.2.2.1 b.2.2.2.2.2.1)
def tlT (t : Nat) : I14 := tlC n i inn (gt tiles (t : Int) dI2) (par (t : Int) b.2.2.2.2.1 b.2.2.2.2.2.1) (par (t : Int) b.1 b.2.1) (par (t : Int) b.2.2.1 b.2.2.2.1)
def dmaS : Nat → List I14
  | 0 => loadC n inn places tiles b 0 ++ loadC n inn places tiles b 1
  | t + 1 => (dmaS t ++ [wt 1, stT places tiles b to z t, sg 2]) ++ loadC n inn places tiles b ((t + 2 : Nat) : Int)
def engS : Nat → List I14
  | 0 => []
  | t + 1 => (if 2 ≤ t then (engS t ++ [wt 0]) ++ [wt 2] else engS t ++ [wt 0]) ++ [tlT n inn tiles b i t, sg 1]
def streamsC : A7 := (dmaS n inn places tiles b to z tiles.length, engS n inn tiles b i tiles.length ++ List.replicate (min tiles.length 2) (wt 2), [])
end
section
variable {g : Graph} {vals : List I4} {places : List Int} {i : Nat} {n : Node} {inn : List I4} {z : I4} {tiles : List I2} {b : I7}
theorem loadC_len (t : Int) : (loadC n inn places tiles b t).length ≤ 3 := by
  unfold loadC ldsC
  split
  · simp
  · split <;> simp
theorem dmaS_len (to : Int) : ∀ t, (dmaS n inn places tiles b to z t).length ≤ 6 + 6 * t
  | 0 => by
    have h0 := loadC_len (n := n) (inn := inn) (places := places) (tiles := tiles) (b := b) 0
    have h1 := loadC_len (n := n) (inn := inn) (places := places) (tiles := tiles) (b := b) 1
    simp only [dmaS, List.length_append]
    omega
  | t + 1 => by
    have h0 := loadC_len (n := n) (inn := inn) (places := places) (tiles := tiles) (b := b) ((t + 2 : Nat) : Int)
    have h1 := dmaS_len to t
    simp only [dmaS, List.length_append, List.length_cons, List.length_nil]
    omega
theorem engS_len (k : Int) : ∀ t, (engS n inn tiles b k t).length ≤ 4 * t
  | 0 => by simp [engS]
  | t + 1 => by
    have h1 := engS_len k t
    simp only [engS]
    split <;> simp only [List.length_append, List.length_cons, List.length_nil] <;> omega
theorem streams_p (h : TileOK vals places n inn z tiles) (ho : ToOK g vals places i z) :
    emit_plan_streams (pln g vals places (i : Int) n inn tiles b) = some (streamsC n inn places tiles b (i : Int) ((g.1.length + i : Nat) : Int) z) := by
  have hfew := h.few
  have l0 := load_p (g := g) (node := (i : Int)) (b := b) h 0
  have l1 := load_p (g := g) (node := (i : Int)) (b := b) h 1
  have k0 := loadC_len (n := n) (inn := inn) (places := places) (tiles := tiles) (b := b) 0
  have k1 := loadC_len (n := n) (inn := inn) (places := places) (tiles := tiles) (b := b) 1
  have hm : maxL = 2147483648 := rfl
  have e1 : emit_plan_streams_r2_p (pln g vals places (i : Int) n inn tiles b) = some (dmaS n inn places tiles b ((g.1.length + i : Nat) : Int) z 0) := by
    unfold emit_plan_streams_r2_p
    have l0' : emit_plan_load (pln g vals places (i : Int) n inn tiles b) 0 = _ := l0
    have l1' : emit_plan_load (pln g vals places (i : Int) n inn tiles b) 1 = _ := l1
    rw [l0', l1']
    have c0 : (loadC n inn places tiles b 0).length + (loadC n inn places tiles b 1).length ≤ maxL := by omega
    show (bif decide ((loadC n inn places tiles b 0).length + (loadC n inn places tiles b 1).length ≤ maxL) then some (loadC n inn places tiles b 0 ++ loadC n inn places tiles b 1) else none) = _
    rw [decide_eq_true c0]
    rfl
  have hlen : (pln g vals places (i : Int) n inn tiles b).2.2.2.2.2.2.2.2.2.2.2.2.2.2.2.2.2.2.2.2.2.1 = tiles := rfl
  have e2 := iterN_for (p := emit_plan_streams_l4_p (pln g vals places (i : Int) n inn tiles b)) (z := ((tiles.length : Int), dmaS n inn places tiles b ((g.1.length + i : Nat) : Int) z tiles.length, engS n inn tiles b (i : Int) tiles.length)) tiles.length
    (fun t => ((t : Int), dmaS n inn places tiles b ((g.1.length + i : Nat) : Int) z t, engS n inn tiles b (i : Int) t)) LL (LL_lt (by omega)) (fun t ht => by
      have q1 := store_p (b := b) h ho ht
      have q2 := load_p (g := g) (node := (i : Int)) (b := b) h (t + 2)
      have q3 := tile_p (g := g) (i := i) (b := b) h ht
      have m1 := dmaS_len (n := n) (inn := inn) (places := places) (tiles := tiles) (b := b) (z := z) ((g.1.length + i : Nat) : Int) t
      have m2 := engS_len (n := n) (inn := inn) (tiles := tiles) (b := b) (i : Int) t
      have m3 := loadC_len (n := n) (inn := inn) (places := places) (tiles := tiles) (b := b) ((t + 2 : Nat) : Int)
      have w2 : IntKind.wrap .i64 ((t : Int) + 2) = ((t + 2 : Nat) : Int) := by rw [i64_in _ (by omega)]; omega
      have w1 : IntKind.wrap .i64 ((t : Int) + 1) = ((t + 1 : Nat) : Int) := by rw [i64_in _ (by omega)]; omega
      have d1 : (t : Int) < (tiles.length : Int) := by omega
      have s1 : emit_sem 5 1 = wt 1 := rfl
      have s2 : emit_sem 6 2 = sg 2 := rfl
      have s3 : emit_sem 5 0 = wt 0 := rfl
      have s4 : emit_sem 5 2 = wt 2 := rfl
      have s5 : emit_sem 6 1 = sg 1 := rfl
      have c1 : ∀ x y w : I14, (dmaS n inn places tiles b ((g.1.length + i : Nat) : Int) z t).length + [x, y, w].length ≤ maxL := fun x y w => by simp only [List.length_cons, List.length_nil]; omega
      have c2 : ∀ x y w : I14, (dmaS n inn places tiles b ((g.1.length + i : Nat) : Int) z t ++ [x, y, w]).length + (loadC n inn places tiles b ((t + 2 : Nat) : Int)).length ≤ maxL := fun x y w => by simp only [List.length_append, List.length_cons, List.length_nil]; omega
      have c3 : ∀ x : I14, (engS n inn tiles b (i : Int) t).length + [x].length ≤ maxL := fun x => by simp only [List.length_cons, List.length_nil]; omega
      have c4 : ∀ x y : I14, (engS n inn tiles b (i : Int) t ++ [x]).length + [y].length ≤ maxL := fun x y => by simp only [List.length_append, List.length_cons, List.length_nil]; omega
      have c5 : ∀ x y w : I14, (engS n inn tiles b (i : Int) t ++ [x]).length + [y, w].length ≤ maxL := fun x y w => by simp only [List.length_append, List.length_cons, List.length_nil]; omega
      have c6 : ∀ x y w v : I14, ((engS n inn tiles b (i : Int) t ++ [x]) ++ [y]).length + [w, v].length ≤ maxL := fun x y w v => by simp only [List.length_append, List.length_cons, List.length_nil]; omega
      simp only [emit_plan_streams_l4_p, emit_plan_streams_r6_p, emit_plan_streams_r7_p, emit_plan_streams_r8_p, emit_plan_streams_j9_p, emit_plan_streams_r10_p, emit_plan_streams_r11_p, hlen, d1, q1, q3, w1, w2, q2, s1, s2, s3, s4, s5, c1, c2, c3, decide_true, cond_true, Option.bind_some]
      by_cases h2 : 2 ≤ t
      · have d2 : (t : Int) ≥ 2 := by omega
        simp only [d2, c4, c6, decide_true, cond_true, Option.bind_some, dmaS, engS, if_pos h2, stT, tlT]
      · have d2 : ¬ (t : Int) ≥ 2 := by omega
        simp only [d2, c5, decide_false, cond_false, decide_true, cond_true, Option.bind_some, dmaS, engS, if_neg h2, stT, tlT]) (by
      simp only [emit_plan_streams_l4_p, hlen]
      rw [decide_eq_false (Int.lt_irrefl _)]
      rfl)
  have m2 := engS_len (n := n) (inn := inn) (tiles := tiles) (b := b) (i : Int) tiles.length
  have e3 := iterN_for (p := emit_plan_streams_l14_p (pln g vals places (i : Int) n inn tiles b)) (z := (((min tiles.length 2 : Nat) : Int), engS n inn tiles b (i : Int) tiles.length ++ List.replicate (min tiles.length 2) (wt 2))) (min tiles.length 2)
    (fun t => ((t : Int), engS n inn tiles b (i : Int) tiles.length ++ List.replicate t (wt 2))) LL (LL_lt (by omega)) (fun t ht => by
      have d1 : (t : Int) < min (tiles.length : Int) 2 := by omega
      have w1 : IntKind.wrap .i64 ((t : Int) + 1) = ((t + 1 : Nat) : Int) := by rw [i64_in _ (by omega)]; omega
      have s4 : emit_sem 5 2 = wt 2 := rfl
      have c1 : ∀ x : I14, (engS n inn tiles b (i : Int) tiles.length ++ List.replicate t (wt 2)).length + [x].length ≤ maxL := fun x => by simp only [List.length_append, List.length_replicate, List.length_cons, List.length_nil]; omega
      simp only [emit_plan_streams_l14_p, emit_plan_streams_r14_p, emit_plan_streams_r14_q, emit_plan_streams_r15_p, hlen, d1, w1, s4, c1, decide_true, cond_true, Option.bind_some]
      rw [List.replicate_succ', List.append_assoc]) (by
      have d1 : ¬ ((min tiles.length 2 : Nat) : Int) < min (tiles.length : Int) 2 := by omega
      simp only [emit_plan_streams_l14_p, emit_plan_streams_r14_p, emit_plan_streams_r14_q, hlen, d1, decide_false, cond_false])
  unfold emit_plan_streams
  rw [e1]
  simp only [Option.bind_some]
  simp only [engS] at e2
  rw [show ((0 : Nat) : Int) = 0 from rfl] at e2 e3
  rw [e2]
  simp only [Option.bind_some]
  rw [List.replicate_zero, List.append_nil] at e3
  rw [e3]
  rfl
end
end Go.V.P
