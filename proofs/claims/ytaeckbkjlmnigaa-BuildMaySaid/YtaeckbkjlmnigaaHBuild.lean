/- Walks by hand: the ranges over functions of layer 19. -/
import Derived.Test.YtaeckbkjlmnigaaV5
import Derived.Test.YtaeckbkjlmnigaaProg
import Derived.RangeFuncNested
import Derived.RangeFuncBox
import Derived.RangeFuncLeaves
import Derived.Shelf.Abstract
import Derived.Shelf.RegionOpen
import Derived.WalkKit
import Derived.OwnWalkIn
import Derived.TacticsInMore
import Derived.LoopNIn
import Derived.LoopIn
namespace Go.V.P
open Go Go.RowKit Go.V Go.Proofs Go.Shelf
set_option linter.unusedVariables false
set_option linter.unusedSimpArgs false
attribute [local go_sem] Oper.semAt_some
abbrev C14 : Type := Int × Int × Int × Int × Int × Int × Int × Int × Int × Int × Int × Int × Int × Int
def cellsC (x : C14) : Array Value := #[.int .i64 x.1, .int .i64 x.2.1, .int .i64 x.2.2.1, .int .i64 x.2.2.2.1, .int .i64 x.2.2.2.2.1, .int .i64 x.2.2.2.2.2.1, .int .i64 x.2.2.2.2.2.2.1, .int .i64 x.2.2.2.2.2.2.2.1, .int .i64 x.2.2.2.2.2.2.2.2.1, .int .i64 x.2.2.2.2.2.2.2.2.2.1, .int .i64 x.2.2.2.2.2.2.2.2.2.2.1, .int .i64 x.2.2.2.2.2.2.2.2.2.2.2.1, .int .i64 x.2.2.2.2.2.2.2.2.2.2.2.2.1, .int .i64 x.2.2.2.2.2.2.2.2.2.2.2.2.2]
def encC (x : C14) : Value := .agg (cellsC x)
def Cmds (n₀ : Nat) (W : World) (v : Value) (xs : List C14) : Prop :=
  ∃ A c, v = .slice A xs.length c ∧ xs.length ≤ c ∧ ∀ (i : Nat) (x : C14), xs[i]? = some x → ∃ b o, A = some ⟨b, o, none⟩ ∧ b < n₀ ∧ ∀ j, j < 14 → W.cell? ⟨b, o + i * 14 + j, none⟩ = (cellsC x)[j]?
theorem Cmds.below {n₀ : Nat} {A B : World} (h : Below n₀ A B) {v : Value} {xs : List C14} : Cmds n₀ A v xs → Cmds n₀ B v xs
  | ⟨a, c, e, hc, hx⟩ => ⟨a, c, e, hc, fun i x hi => let ⟨b, o, e2, hb, hx2⟩ := hx i x hi; ⟨b, o, e2, hb, fun j hj => (h.cell (p := ⟨b, o + i * 14 + j, none⟩) hb).trans (hx2 j hj)⟩⟩
def upC {α : Type} (a b c : List α) : Nat → List α
  | 0 => []
  | 1 => a
  | 2 => a ++ b
  | _ => a ++ b ++ c
theorem index3 {v0 v1 v2 v : Value} {k : Nat} {w : World} (hk : k < 3) (h : (#[v0, v1, v2] : Array Value)[k]? = some v) : (Instr.index 33 (.agg #[v0, v1, v2]) (.int .i64 (k : Int))).run Try.prog w = .ok v w := by
  rcases (by omega : k = 0 ∨ k = 1 ∨ k = 2) with rfl | rfl | rfl <;> (simp only [List.size_toArray, List.length_cons, List.length_nil, List.getElem?_toArray, List.getElem?_cons_zero, List.getElem?_cons_succ, Option.some.injEq] at h; subst h; simp [Instr.index, asIntOf, run_underlying Try.underlying33, part, isAgg, run_underlying Try.underlying32])
set_option maxRecDepth 100000 in
set_option maxHeartbeats 2000000 in
theorem all1_in (l Bs n₀ n : Nat) (hn : 1 ≤ n) (v0 v1 v2 : Value) (xs0 xs1 xs2 : List C14) (J Jx : List C14 → World → Prop) (W : World) (hJ : AbidesFrom W.heap.size J) (hl0 : ∀ m : Nat, m < xs0.length → wrap64 ((m : Int) + 1) = (m : Int) + 1) (hl1 : ∀ m : Nat, m < xs1.length → wrap64 ((m : Int) + 1) = (m : Int) + 1) (hl2 : ∀ m : Nat, m < xs2.length → wrap64 ((m : Int) + 1) = (m : Int) + 1)
    (hY : ∀ pre x W1, J pre W1 → pre.length < xs0.length + xs1.length + xs2.length → YieldAt Fence.wide (n - 1) Try.prog l #[encC x] W1 fun e W' =>
      (e = .returned (.bool true) ∧ J (pre ++ [x]) W' ∧ Below n₀ W1 W') ∨ (e = .returned (.bool false) ∧ Jx (pre ++ [x]) W'))
    (hn₀ : n₀ ≤ W.heap.size)
    (h4 : W.cell? ⟨Bs, 4, none⟩ = some v0) (h5 : W.cell? ⟨Bs, 5, none⟩ = some v1) (h6 : W.cell? ⟨Bs, 6, none⟩ = some v2)
    (c0 : Cmds n₀ W v0 xs0) (c1 : Cmds n₀ W v1 xs1) (c2 : Cmds n₀ W v2 xs2) (h0 : J [] W) :
    CallsIn Fence.wide n Try.prog 47 #[.func (.yield l) #[] #[], .pointer (some ⟨Bs, 0, none⟩)] W fun e W' => (∃ v, e = .returned v) ∧
      ((∃ ys, ys = xs0 ++ xs1 ++ xs2 ∧ J ys W') ∨ (∃ pre, True ∧ Jx pre W')) := by
  refine callsIn_of_wp Try.func47 rfl trivial ?_ rfl
  simp only [Try.ntmps47, List.size_toArray, List.length_cons, List.length_nil, Nat.reduceAdd, Nat.reduceSub, Array.replicate_succ, Array.replicate_zero, List.push_toArray, List.append_toArray, List.nil_append, List.cons_append]
  gi_wp2
  gi_loopw [9] (fun i wr => ∃ k : Nat, k ≤ 3 ∧ i = .int .i64 k ∧ J (upC xs0 xs1 xs2 k) wr ∧ Below n₀ W wr ∧ W.heap.size ≤ wr.heap.size)
    (fun i _ => 3 - (intOf i).toNat)
  case atStart => exact ⟨0, by omega, rfl, h0, Below.refl _ _, Nat.le_refl _⟩
  case round =>
    obtain ⟨k, hk, rfl, hJs, hnx, hsz⟩ := hrel
    by_cases hlt : k < 3
    · obtain ⟨v, xs, hv, hc, hml0, hup, hle⟩ : ∃ v xs, (#[v0, v1, v2] : Array Value)[k]? = some v ∧ Cmds n₀ W v xs ∧ (∀ m : Nat, m < xs.length → wrap64 ((m : Int) + 1) = (m : Int) + 1) ∧ upC xs0 xs1 xs2 (k + 1) = upC xs0 xs1 xs2 k ++ xs ∧ (upC xs0 xs1 xs2 k).length + xs.length ≤ xs0.length + xs1.length + xs2.length := by
        rcases (by omega : k = 0 ∨ k = 1 ∨ k = 2) with rfl | rfl | rfl
        · exact ⟨v0, xs0, rfl, c0, hl0, by simp [upC], by simp [upC]; omega⟩
        · exact ⟨v1, xs1, rfl, c1, hl1, by simp [upC], by simp [upC]⟩
        · exact ⟨v2, xs2, rfl, c2, hl2, by simp [upC], by simp [upC]⟩
      obtain ⟨A, cc, rfl, hcc, hcx⟩ := hc
      have hix := index3 (w := wr) hlt hv
      have hlti : (k : Int) < 3 := by omega
      gi_wp2
      gi_loopw [14] (fun i wr' => ∃ m : Nat, m ≤ xs.length ∧ i = .int .i64 m ∧ J (upC xs0 xs1 xs2 k ++ xs.take m) wr' ∧ Below n₀ W wr' ∧ W.heap.size ≤ wr'.heap.size)
        (fun i _ => xs.length - (intOf i).toNat)
      case atStart => exact ⟨0, Nat.zero_le _, rfl, by simpa using hJs, hnx, hsz⟩
      case round =>
        obtain ⟨m, hm, rfl, hJm, hnm, hsm⟩ := hrel
        by_cases hml : m < xs.length
        · obtain ⟨x, hx⟩ : ∃ x, xs[m]? = some x := ⟨_, List.getElem?_eq_getElem hml⟩
          obtain ⟨b, o, rfl, hbn, hcells⟩ := hcx m x hx
          have hcell : ∀ j, j < 14 → wr.cell? ⟨b, o + m * 14 + j, none⟩ = (cellsC x)[j]? := fun j hj => (hnm.cell (p := ⟨b, o + m * 14 + j, none⟩) hbn).trans (hcells j hj)
          have g0 : wr.cell? ⟨b, o + m * 14, none⟩ = some (.int .i64 x.1) := hcell 0 (by omega)
          have g1 : wr.cell? ⟨b, o + m * 14 + 1, none⟩ = some (.int .i64 x.2.1) := hcell 1 (by omega)
          have g2 : wr.cell? ⟨b, o + m * 14 + 2, none⟩ = some (.int .i64 x.2.2.1) := hcell 2 (by omega)
          have g3 : wr.cell? ⟨b, o + m * 14 + 3, none⟩ = some (.int .i64 x.2.2.2.1) := hcell 3 (by omega)
          have g4 : wr.cell? ⟨b, o + m * 14 + 4, none⟩ = some (.int .i64 x.2.2.2.2.1) := hcell 4 (by omega)
          have g5 : wr.cell? ⟨b, o + m * 14 + 5, none⟩ = some (.int .i64 x.2.2.2.2.2.1) := hcell 5 (by omega)
          have g6 : wr.cell? ⟨b, o + m * 14 + 6, none⟩ = some (.int .i64 x.2.2.2.2.2.2.1) := hcell 6 (by omega)
          have g7 : wr.cell? ⟨b, o + m * 14 + 7, none⟩ = some (.int .i64 x.2.2.2.2.2.2.2.1) := hcell 7 (by omega)
          have g8 : wr.cell? ⟨b, o + m * 14 + 8, none⟩ = some (.int .i64 x.2.2.2.2.2.2.2.2.1) := hcell 8 (by omega)
          have g9 : wr.cell? ⟨b, o + m * 14 + 9, none⟩ = some (.int .i64 x.2.2.2.2.2.2.2.2.2.1) := hcell 9 (by omega)
          have g10 : wr.cell? ⟨b, o + m * 14 + 10, none⟩ = some (.int .i64 x.2.2.2.2.2.2.2.2.2.2.1) := hcell 10 (by omega)
          have g11 : wr.cell? ⟨b, o + m * 14 + 11, none⟩ = some (.int .i64 x.2.2.2.2.2.2.2.2.2.2.2.1) := hcell 11 (by omega)
          have g12 : wr.cell? ⟨b, o + m * 14 + 12, none⟩ = some (.int .i64 x.2.2.2.2.2.2.2.2.2.2.2.2.1) := hcell 12 (by omega)
          have g13 : wr.cell? ⟨b, o + m * 14 + 13, none⟩ = some (.int .i64 x.2.2.2.2.2.2.2.2.2.2.2.2.2) := hcell 13 (by omega)
          clear hcell hcells
          have hJ1 := hJ _ _ _ none hJm (World.grownBy_alloc wr (.cells #[.int .i64 x.1, .int .i64 x.2.1, .int .i64 x.2.2.1, .int .i64 x.2.2.2.1, .int .i64 x.2.2.2.2.1, .int .i64 x.2.2.2.2.2.1, .int .i64 x.2.2.2.2.2.2.1, .int .i64 x.2.2.2.2.2.2.2.1, .int .i64 x.2.2.2.2.2.2.2.2.1, .int .i64 x.2.2.2.2.2.2.2.2.2.1, .int .i64 x.2.2.2.2.2.2.2.2.2.2.1, .int .i64 x.2.2.2.2.2.2.2.2.2.2.2.1, .int .i64 x.2.2.2.2.2.2.2.2.2.2.2.2.1, .int .i64 x.2.2.2.2.2.2.2.2.2.2.2.2.2] 42) none) (fun r e => by cases e)
          obtain ⟨fn, tmps, assign, body, hy, hR⟩ := hY _ x _ hJ1 (by simp; omega)
          simp only [encC, cellsC] at hy
          have htk : xs.take m ++ [x] = xs.take (m + 1) := by
            obtain ⟨_, rfl⟩ := List.getElem?_eq_some_iff.1 hx
            exact List.take_append_getElem hml
          clear hcx hx hJ1
          gi_wp2
          refine hR.mono ?_
          rintro e W3 (⟨rfl, hJ3, hk3⟩ | ⟨rfl, hJx3⟩)
          · have hB3 := (hnm.trans (Below.alloc (Below.refl _ _) (Nat.le_trans hn₀ hsm) _)).trans hk3
            have hm1 : m + 1 ≤ xs.length := hml
            have hi1 : xs.length - (m + 1) < xs.length - m := by omega
            have hwm := hml0 m hml
            rw [List.append_assoc, htk] at hJ3
            gi_wp2
            simp only [hwm]
            go_roundw
            case rel => exact ⟨m + 1, hm1, rfl, hJ3, hB3, hB3.size⟩
            case measure => exact hi1
          · gi_wp2
            refine bodyPost_ret (results_none rfl _ _ _) rfl ?_
            exact ⟨⟨_, rfl⟩, .inr ⟨_, trivial, hJx3⟩⟩
        · obtain rfl : m = xs.length := by omega
          gi_wp2
          refine ⟨⟨k + 1, by omega, by simp, ?_, hnm, hsm⟩, by simp [intOf]; omega⟩
          rw [hup]; simpa using hJm
    · obtain rfl : k = 3 := by omega
      gi_wp2
      go_end0
      exact ⟨⟨_, rfl⟩, .inl ⟨_, rfl, hJs⟩⟩
theorem all_stops (Bs n₀ n : Nat) (hn : 1 ≤ n) (v0 v1 v2 : Value) (xs0 xs1 xs2 : List C14) (w : World) (hBs : Bs < w.heap.size) (hn₀ : n₀ ≤ w.heap.size)
    (hl0 : ∀ m : Nat, m < xs0.length → wrap64 ((m : Int) + 1) = (m : Int) + 1) (hl1 : ∀ m : Nat, m < xs1.length → wrap64 ((m : Int) + 1) = (m : Int) + 1) (hl2 : ∀ m : Nat, m < xs2.length → wrap64 ((m : Int) + 1) = (m : Int) + 1)
    (h4 : w.cell? ⟨Bs, 4, none⟩ = some v0) (h5 : w.cell? ⟨Bs, 5, none⟩ = some v1) (h6 : w.cell? ⟨Bs, 6, none⟩ = some v2)
    (c0 : Cmds n₀ w v0 xs0) (c1 : Cmds n₀ w v1 xs1) (c2 : Cmds n₀ w v2 xs2) :
    SeqStopsK Fence.wide n Try.prog 47 #[.pointer (some ⟨Bs, 0, none⟩)] (fun x : C14 => #[encC x]) (Below n₀) (fun ys => ys = xs0 ++ xs1 ++ xs2) (fun _ => True) (xs0.length + xs1.length + xs2.length) w :=
  fun l J Jx W hW hJ _ hY h0 => all1_in l Bs n₀ n hn v0 v1 v2 xs0 xs1 xs2 J Jx W hJ hl0 hl1 hl2 hY (Nat.le_trans hn₀ hW.size)
    ((hW.cell (p := ⟨Bs, 4, none⟩) hBs).trans h4) ((hW.cell (p := ⟨Bs, 5, none⟩) hBs).trans h5) ((hW.cell (p := ⟨Bs, 6, none⟩) hBs).trans h6) (c0.below (hW.mono hn₀)) (c1.below (hW.mono hn₀)) (c2.below (hW.mono hn₀)) h0
set_option maxHeartbeats 1000000 in
theorem all_in (n : Nat) (a0 a1 a2 a3 v0 v1 v2 : Value) (w : World) :
    CallsIn Fence.wide n Try.prog 32 #[.agg #[a0, a1, a2, a3, v0, v1, v2]] w fun e w' => e = .returned (.func (.func 47) #[] #[.pointer (some ⟨w.heap.size, 0, none⟩)]) ∧ w' = w.alloc (.cells #[a0, a1, a2, a3, v0, v1, v2] 35) := by
  refine callsIn_of_wp Try.func32 rfl trivial ?_ rfl
  simp only [Try.ntmps32, List.size_toArray, List.length_cons, List.length_nil, Nat.reduceAdd, Nat.reduceSub, Array.replicate_succ, Array.replicate_zero, List.push_toArray, List.append_toArray, List.nil_append, List.cons_append]
  gi_wp2
  go_ret
  exact ⟨rfl, rfl⟩
def stepsC (x : C14) : Int := if 1 ≤ x.1 ∧ x.1 ≤ 4 then x.2.2.2.2.1 else 1
set_option maxHeartbeats 1000000 in
theorem steps_in (n : Nat) (x : C14) (w : World) :
    CallsIn Fence.wide n Try.prog 33 #[encC x] w fun e w' => e = .returned (.int .i64 (stepsC x)) ∧ w' = w.alloc (.cells (cellsC x) 42) := by
  refine callsIn_of_wp Try.func33 rfl trivial ?_ rfl
  simp only [encC, cellsC, Try.ntmps33, List.size_toArray, List.length_cons, List.length_nil, Nat.reduceAdd, Nat.reduceSub, Array.replicate_succ, Array.replicate_zero, List.push_toArray, List.append_toArray, List.nil_append, List.cons_append]
  gi_wp2
  · rename_i h1 h4
    go_ret
    refine ⟨?_, rfl⟩
    simp only [stepsC, if_pos (And.intro h1 h4)]
    rfl
  · rename_i h1 h4
    go_ret
    refine ⟨?_, rfl⟩
    simp only [stepsC, if_neg (fun h : 1 ≤ x.1 ∧ x.1 ≤ 4 => absurd h.2 (Int.not_le.2 h4))]
    rfl
  · rename_i h1
    go_ret
    refine ⟨?_, rfl⟩
    simp only [stepsC, if_neg (fun h : 1 ≤ x.1 ∧ x.1 ≤ 4 => absurd h.1 (Int.not_le.2 h1))]
    rfl
def sumC (xs : List C14) : Int := xs.foldl (fun n x => wrap64 (n + stepsC x)) 0
theorem sumC_snoc (pre : List C14) (x : C14) : sumC (pre ++ [x]) = wrap64 (sumC pre + stepsC x) := by simp [sumC]
def BoxC (W : World) (B : Nat) (x : C14) : Prop := W.heap[B]? = some (.cells (cellsC x) 42 (0, 0))
theorem BoxC.lt {W : World} {B : Nat} {x : C14} (h : BoxC W B x) : B < W.heap.size := (Array.getElem?_eq_some_iff.1 h).1
theorem BoxC.alloc {W : World} {B : Nat} {x : C14} (h : BoxC W B x) (o : Obj) : BoxC (W.alloc o) B x := (Below.heap_alloc W o B h.lt).trans h
theorem BoxC.new (W : World) (x : C14) : BoxC (W.alloc (.cells (cellsC x) 42)) W.heap.size x := heap_alloc_new W _
theorem BoxC.cell {W : World} {B : Nat} {x : C14} (h : BoxC W B x) (j : Nat) {v : Value} (hv : (cellsC x)[j]? = some v) : W.cell? ⟨B, j, none⟩ = some v := by
  unfold BoxC at h
  simp only [World.cell?, h]
  exact hv
theorem boxC_own (B : Nat) (x : C14) {W W' : World} {row : Option Nat} (h : BoxC W B x) (hg : W.grownBy W' row) (hr : ∀ r, row = some r → ∃ o : Obj, W.heap[r]? = some o ∧ o.isCells = false) : BoxC W' B x := by
  refine (hg.block B h.lt fun e => ?_).trans h
  obtain ⟨o, h1, h2⟩ := hr B e.symm
  rw [h] at h1
  cases h1
  cases h2
set_option maxRecDepth 100000 in
set_option maxHeartbeats 2000000 in
theorem budget_in (n : Nat) (hn : 3 ≤ n) (a0 a1 a2 a3 v0 v1 v2 : Value) (xs0 xs1 xs2 : List C14) (w : World)
    (hl0 : ∀ m : Nat, m < xs0.length → wrap64 ((m : Int) + 1) = (m : Int) + 1) (hl1 : ∀ m : Nat, m < xs1.length → wrap64 ((m : Int) + 1) = (m : Int) + 1) (hl2 : ∀ m : Nat, m < xs2.length → wrap64 ((m : Int) + 1) = (m : Int) + 1)
    (c0 : Cmds w.heap.size w v0 xs0) (c1 : Cmds w.heap.size w v1 xs1) (c2 : Cmds w.heap.size w v2 xs2) :
    CallsIn Fence.wide n Try.prog 15 #[.agg #[a0, a1, a2, a3, v0, v1, v2]] w fun e W' => e = .returned (.int .i64 (sumC (xs0 ++ xs1 ++ xs2))) ∧ Below w.heap.size w W' := by
  have h1 : 1 ≤ n := by omega
  have h32 : Fence.wide.fn 32 := trivial
  have h33 : Fence.wide.fn 33 := trivial
  refine callsIn_of_wp_marks Try.func15 rfl trivial ?_ rfl
  simp only [Try.ntmps15, List.size_toArray, List.length_cons, List.length_nil, Nat.reduceAdd, Nat.reduceSub, Array.replicate_succ, Array.replicate_zero, List.push_toArray, List.append_toArray, List.nil_append, List.cons_append]
  gi_wp2_with (gi_at_call 32; refine (all_in (n - 1) _ _ _ _ _ _ _ _).mono ?_; rintro e w' ⟨rfl, rfl⟩)
  have bS := Boxed.new (w.alloc (.cells #[a0, a1, a2, a3, v0, v1, v2] 35)) 3 (.int .i64 0)
  rw [World.size_alloc] at bS
  obtain ⟨W0, hW0⟩ : ∃ W0, (((w.alloc (.cells #[a0, a1, a2, a3, v0, v1, v2] 35)).alloc (.cells #[.int .i64 0] 3)).alloc (.cells #[a0, a1, a2, a3, v0, v1, v2] 35)) = W0 := ⟨_, rfl⟩
  have hB0 : Below w.heap.size w W0 := hW0 ▸ (((Below.refl _ w).alloc (Nat.le_refl _) _).alloc (by simp) _).alloc (by simp; omega) _
  have hb2 : ∀ (j : Nat) (v : Value), (#[a0, a1, a2, a3, v0, v1, v2] : Array Value)[j]? = some v → W0.cell? ⟨w.heap.size + 1 + 1, j, none⟩ = some v := fun j v hv => by
    rw [← hW0]
    have := heap_alloc_new ((w.alloc (.cells #[a0, a1, a2, a3, v0, v1, v2] 35)).alloc (.cells #[.int .i64 0] 3)) (.cells #[a0, a1, a2, a3, v0, v1, v2] 35)
    simp only [World.size_alloc] at this
    simp only [World.cell?, this]
    exact hv
  have hsz : W0.heap.size = w.heap.size + 1 + 1 + 1 := by rw [← hW0]; simp
  rw [hW0]
  refine wpIn_rangeFunc_ownH rfl h1 (gf := 47) (lb := #[.pointer (some ⟨w.heap.size + 1 + 1, 0, none⟩)]) rfl trivial (enters_of Try.func47 (by kernel_rfl) rfl)
    (all_stops (w.heap.size + 1 + 1) w.heap.size (n - 1) (by omega) v0 v1 v2 xs0 xs1 xs2 W0 (by omega) (by omega) hl0 hl1 hl2 (hb2 4 v0 rfl) (hb2 5 v1 rfl) (hb2 6 v2 rfl) (c0.below hB0) (c1.below hB0) (c2.below hB0)) belowK_t (belowK_b (by omega)) (Below.refl _ _) (fun _ => rfl)
    (fun pre W => Boxed W (w.heap.size + 1) 3 (.int .i64 (sumC pre)) ∧ Below w.heap.size w W)
    (fun _ _ _ => False)
    (OwnFrom.and (Own.from (boxed_own _ _ _) _) (ownFrom_below (Nat.le_refl _) (by omega)))
    (fun _ _ _ _ _ hs _ _ => hs)
    ⟨hW0 ▸ bS.alloc _, hB0⟩
    (fun x a' W => ∃ Bx, w.heap.size + 1 < Bx ∧ BoxC W Bx x ∧ a' = { tmps := #[.agg #[a0, a1, a2, a3, v0, v1, v2], .pointer (some ⟨w.heap.size, 0, none⟩), .int .i64 0, .pointer (some ⟨w.heap.size + 1, 0, none⟩), .pointer (some ⟨Bx, 0, none⟩), .agg #[a0, a1, a2, a3, v0, v1, v2], .func (.func 47) #[] #[.pointer (some ⟨w.heap.size + 1 + 1, 0, none⟩)], encC x, undef, undef, undef, undef, undef], defers := [] })
    (fun x a' _ X Y row hs hg hr => by obtain ⟨Bx, e1, e2, e3⟩ := hs; exact ⟨Bx, e1, boxC_own Bx x e2 hg (fun r e => (hr r e).2), e3⟩)
    ?assign ?body ?done ?stop
  case assign =>
    rintro l pre x W K ⟨bR1, hB1⟩ hK
    have hK' : K _ (W.alloc (.cells (cellsC x) 42)) := hK _ _ ((KeepsOthers.alloc _ _).from _) ((Below.refl _ W).alloc hB1.size _) ⟨bR1.alloc _, hB1.alloc hB1.size _⟩ ⟨W.heap.size, bR1.lt, BoxC.new W x, rfl⟩
    simp only [encC, cellsC] at hK' ⊢
    clear hK
    gi_wp2
    exact hK'
  case body =>
    rintro l pre x a' W hl ⟨r, hr⟩ ⟨bR1, hB1⟩ ⟨Bx, hBx, bX, rfl⟩ hlt
    have hd : 1 ≤ n - 1 - 1 := by omega
    have hmx : Try.prog.follows .mixedOrders = true := by kernel_rfl
    have cN := bR1.cell
    have fN := bR1.frozen
    have g0 : W.cell? ⟨Bx, 0, none⟩ = some (.int .i64 x.1) := bX.cell 0 rfl
    have g1 : W.cell? ⟨Bx, 1, none⟩ = some (.int .i64 x.2.1) := bX.cell 1 rfl
    have g2 : W.cell? ⟨Bx, 2, none⟩ = some (.int .i64 x.2.2.1) := bX.cell 2 rfl
    have g3 : W.cell? ⟨Bx, 3, none⟩ = some (.int .i64 x.2.2.2.1) := bX.cell 3 rfl
    have g4 : W.cell? ⟨Bx, 4, none⟩ = some (.int .i64 x.2.2.2.2.1) := bX.cell 4 rfl
    have g5 : W.cell? ⟨Bx, 5, none⟩ = some (.int .i64 x.2.2.2.2.2.1) := bX.cell 5 rfl
    have g6 : W.cell? ⟨Bx, 6, none⟩ = some (.int .i64 x.2.2.2.2.2.2.1) := bX.cell 6 rfl
    have g7 : W.cell? ⟨Bx, 7, none⟩ = some (.int .i64 x.2.2.2.2.2.2.2.1) := bX.cell 7 rfl
    have g8 : W.cell? ⟨Bx, 8, none⟩ = some (.int .i64 x.2.2.2.2.2.2.2.2.1) := bX.cell 8 rfl
    have g9 : W.cell? ⟨Bx, 9, none⟩ = some (.int .i64 x.2.2.2.2.2.2.2.2.2.1) := bX.cell 9 rfl
    have g10 : W.cell? ⟨Bx, 10, none⟩ = some (.int .i64 x.2.2.2.2.2.2.2.2.2.2.1) := bX.cell 10 rfl
    have g11 : W.cell? ⟨Bx, 11, none⟩ = some (.int .i64 x.2.2.2.2.2.2.2.2.2.2.2.1) := bX.cell 11 rfl
    have g12 : W.cell? ⟨Bx, 12, none⟩ = some (.int .i64 x.2.2.2.2.2.2.2.2.2.2.2.2.1) := bX.cell 12 rfl
    have g13 : W.cell? ⟨Bx, 13, none⟩ = some (.int .i64 x.2.2.2.2.2.2.2.2.2.2.2.2.2) := bX.cell 13 rfl
    have hst : ∀ W2 : World, CallsIn (Fence.wide.inRound l) (n - 1 - 1 - 1) Try.prog 33 #[encC x] W2 fun e w' => e = .returned (.int .i64 (stepsC x)) ∧ w' = W2.alloc (.cells (cellsC x) 42) := fun W2 => CallsIn.inRound l (steps_in _ x W2)
    have hss := sumC_snoc pre x
    have cN2 := (bR1.alloc (.cells (cellsC x) 42)).cell
    have fN2 := (bR1.alloc (.cells (cellsC x) 42)).frozen
    simp only [encC, cellsC] at hst cN2 fN2 ⊢
    clear bX
    gi_wp2
    gi_region_with_o (gi_at_call 33; refine (hst _).mono ?_; rintro e w' ⟨rfl, rfl⟩)
    all_goals gi_wp2
    all_goals (try go_bits)
    all_goals exact ⟨((KeepsOthers.alloc _ _).trans ((KeepsOthers.setCell _ _ _).trans (KeepsOthers.drew _))).from _, (((Below.refl _ W).alloc hB1.size _).setCell (p := ⟨w.heap.size + 1, 0, none⟩) (Nat.le_succ _) _).drew, hss ▸ (bR1.alloc _).set _, ((hB1.alloc hB1.size _).setCell (p := ⟨w.heap.size + 1, 0, none⟩) (Nat.le_succ _) _).drew⟩
  case done =>
    rintro D ys W hD rfl ⟨bR1, hB1⟩ hK
    have hc := bR1.cell
    gi_wp2
    refine ⟨by simp, .inl ⟨_, _, rfl, run_takeDeferred hK, ?_⟩⟩
    exact ⟨_, results_tmp rfl _ _ _, (by rw [List.append_assoc]; rfl), hB1.trans (belowK_b (w := w) (Nat.le_refl _) W D _ _ (by omega) hK rfl rfl)⟩
  case stop =>
    rintro D c pre W _ _ h _
    exact h.elim
def tileC (l : List Bool) (x : C14) : List Bool := if x.1 = 3 ∧ 0 ≤ x.2.2.1 ∧ x.2.2.1 < l.length then l.set x.2.2.1.toNat true else l
def tiledC (n : Nat) (xs : List C14) : List Bool := xs.foldl tileC (List.replicate n false)
theorem tiledC_snoc (n : Nat) (pre : List C14) (x : C14) : tiledC n (pre ++ [x]) = tileC (tiledC n pre) x := by simp [tiledC]
theorem tileC_length (l : List Bool) (x : C14) : (tileC l x).length = l.length := by unfold tileC; split <;> simp
theorem tiledC_length (n : Nat) (xs : List C14) : (tiledC n xs).length = n := by
  suffices h : ∀ (xs : List C14) (l : List Bool), (xs.foldl tileC l).length = l.length by simp [tiledC, h]
  intro xs
  induction xs with
  | nil => intro l; rfl
  | cons x xs ih => intro l; rw [List.foldl_cons, ih, tileC_length]
def Flags (W : World) (B : Nat) (l : List Bool) : Prop := ∃ arr, W.heap[B]? = some (.cells arr 4 (0, 0)) ∧ arr.size = l.length ∧ ∀ (i : Nat) (x : Bool), l[i]? = some x → arr[i]? = some (.bool x)
theorem Flags.lt {W : World} {B : Nat} {l : List Bool} (h : Flags W B l) : B < W.heap.size := let ⟨_, h, _⟩ := h; (Array.getElem?_eq_some_iff.1 h).1
theorem Flags.alloc {W : World} {B : Nat} {l : List Bool} (h : Flags W B l) (o : Obj) : Flags (W.alloc o) B l := by
  have hlt := h.lt
  obtain ⟨arr, h1, h2⟩ := h
  exact ⟨arr, (Below.heap_alloc W o B hlt).trans h1, h2⟩
theorem Flags.cell {W : World} {B : Nat} {l : List Bool} (h : Flags W B l) {i : Nat} {x : Bool} (hi : l[i]? = some x) : W.cell? ⟨B, i, none⟩ = some (.bool x) := by
  obtain ⟨arr, h1, _, h3⟩ := h
  simp only [World.cell?, h1]
  exact h3 i x hi
theorem Flags.frozen {W : World} {B : Nat} {l : List Bool} (h : Flags W B l) (i : Nat) : W.frozen? ⟨B, i, none⟩ = false := by
  obtain ⟨arr, h1, _, h3⟩ := h
  simp [World.frozen?, h1]
theorem Flags.other {W : World} {B B' : Nat} {l : List Bool} (h : Flags W B l) (hne : B ≠ B') (j : Nat) (u : Value) : Flags (W.setCell ⟨B', j, none⟩ u) B l := by
  obtain ⟨arr, h1, h2⟩ := h
  exact ⟨arr, (Below.heap_setCell W ⟨B', j, none⟩ u B hne).trans h1, h2⟩
theorem Flags.set {W : World} {B : Nat} {l : List Bool} (h : Flags W B l) (j : Nat) (y : Bool) : Flags (W.setCell ⟨B, j, none⟩ (.bool y)) B (l.set j y) := by
  obtain ⟨arr, h1, h2, h3⟩ := h
  refine ⟨arr.setIfInBounds j (.bool y), ?_, by simp [h2], fun i x hi => ?_⟩
  · simp only [World.setCell, Array.getElem?_modify, if_true, h1]
    rfl
  · rw [List.getElem?_set] at hi
    rw [Array.getElem?_setIfInBounds]
    by_cases hji : j = i
    · subst hji
      by_cases hjl : j < l.length
      · simp only [hjl, if_true, Option.some.injEq] at hi
        subst hi
        simp [h2, hjl]
      · simp [hjl] at hi
    · simp only [hji, if_false] at hi ⊢
      exact h3 i x hi
theorem flags_own (B : Nat) (l : List Bool) {W W' : World} {row : Option Nat} (h : Flags W B l) (hg : W.grownBy W' row) (hr : ∀ r, row = some r → ∃ o : Obj, W.heap[r]? = some o ∧ o.isCells = false) : Flags W' B l := by
  have hlt := h.lt
  obtain ⟨arr, h1, h2⟩ := h
  refine ⟨arr, (hg.block B hlt fun e => ?_).trans h1, h2⟩
  obtain ⟨o, g1, g2⟩ := hr B e.symm
  rw [h1] at g1
  cases g1
  cases g2
theorem mkFlags (nn : Nat) (hnn : nn ≤ maxL) : ∃ arr : Array Value, arr.size = nn ∧ (∀ i, i < nn → arr[i]? = some (.bool false)) ∧ ∀ W : World, (Instr.makeSlice 49 (.int .i64 (nn : Int)) (.int .i64 (nn : Int))).run Try.prog W = .ok (.slice (some ⟨W.heap.size, 0, none⟩) nn nn) (W.alloc (.cells arr 4)) := by
  have h : (Try.prog.info? 4).map (fun i => (i.size, i.bytes, i.zero)) = some (1, 1, some (.bool false)) := by kernel_rfl
  obtain ⟨i, hi, hb⟩ := Option.map_eq_some_iff.1 h
  simp only [Prod.mk.injEq] at hb
  obtain ⟨b1, b2, b3⟩ := hb
  have hm : maxL = 2147483648 := rfl
  refine ⟨madeCells (Value.bool false).cells (nn * i.size), by rw [b1, Nat.mul_one, size_madeCells], fun j hj => ?_, fun W => ?_⟩
  · have hz : (Value.bool false).cells = #[.bool false] := rfl
    rw [b1, Nat.mul_one, hz]
    simp [madeCells, hj, Nat.mod_one]
  · have := run_make (P := Try.prog) W 49 4 i (.bool false) Try.underlying49 hi b3 .i64 .i64 nn nn (by omega) (by omega) (by rw [b2]; omega) (by omega)
    simpa using this
set_option maxRecDepth 100000 in
set_option maxHeartbeats 2000000 in
theorem tiled_in (n : Nat) (hn : 3 ≤ n) (a0 a2 a3 v0 v1 v2 : Value) (A : Option Addr) (nn cc : Nat) (hnn : nn ≤ maxL) (xs0 xs1 xs2 : List C14) (w : World)
    (hl0 : ∀ m : Nat, m < xs0.length → wrap64 ((m : Int) + 1) = (m : Int) + 1) (hl1 : ∀ m : Nat, m < xs1.length → wrap64 ((m : Int) + 1) = (m : Int) + 1) (hl2 : ∀ m : Nat, m < xs2.length → wrap64 ((m : Int) + 1) = (m : Int) + 1)
    (c0 : Cmds w.heap.size w v0 xs0) (c1 : Cmds w.heap.size w v1 xs1) (c2 : Cmds w.heap.size w v2 xs2) :
    CallsIn Fence.wide n Try.prog 19 #[.agg #[a0, .slice A nn cc, a2, a3, v0, v1, v2]] w fun e W' => ∃ b cap, e = .returned (.slice (some ⟨b, 0, none⟩) nn cap) ∧ w.heap.size ≤ b ∧ nn ≤ cap ∧ (∀ (i : Nat) (x : Bool), (tiledC nn (xs0 ++ xs1 ++ xs2))[i]? = some x → W'.cell? ⟨b, i, none⟩ = some (.bool x)) ∧ Below w.heap.size w W' := by
  have h1 : 1 ≤ n := by omega
  have h32 : Fence.wide.fn 32 := trivial
  refine callsIn_of_wp_marks Try.func19 rfl trivial ?_ rfl
  simp only [Try.ntmps19, List.size_toArray, List.length_cons, List.length_nil, Nat.reduceAdd, Nat.reduceSub, Array.replicate_succ, Array.replicate_zero, List.push_toArray, List.append_toArray, List.nil_append, List.cons_append]
  obtain ⟨arr, ha1, ha2, hmk⟩ := mkFlags nn hnn
  gi_wp2_with (gi_at_call 32; refine (all_in (n - 1) _ _ _ _ _ _ _ _).mono ?_; rintro e w' ⟨rfl, rfl⟩)
  obtain ⟨im, him⟩ : ∃ im : Array Value, im = #[a0, .slice A nn cc, a2, a3, v0, v1, v2] := ⟨_, rfl⟩
  have bF : Flags ((w.alloc (.cells im 35)).alloc (.cells arr 4)) (w.heap.size + 1) (List.replicate nn false) := by
    refine ⟨arr, ?_, by simp [ha1], fun j y hj => ?_⟩
    · have := heap_alloc_new (w.alloc (.cells im 35)) (.cells arr 4)
      rwa [World.size_alloc] at this
    · obtain ⟨h1, rfl⟩ : j < nn ∧ y = false := by
        rw [List.getElem?_replicate] at hj
        split at hj
        · exact ⟨by assumption, by simpa using hj.symm⟩
        · cases hj
      exact ha2 j h1
  have bS := Boxed.new ((w.alloc (.cells im 35)).alloc (.cells arr 4)) 49 (.slice (some ⟨w.heap.size + 1, 0, none⟩) nn nn)
  simp only [World.size_alloc] at bS
  rw [← him]
  obtain ⟨W0, hW0⟩ : ∃ W0, ((((w.alloc (.cells im 35)).alloc (.cells arr 4)).alloc (.cells #[.slice (some ⟨w.heap.size + 1, 0, none⟩) nn nn] 49)).alloc (.cells im 35)) = W0 := ⟨_, rfl⟩
  have hB0 : Below w.heap.size w W0 := hW0 ▸ ((((Below.refl _ w).alloc (Nat.le_refl _) _).alloc (by simp) _).alloc (by simp; omega) _).alloc (by simp; omega) _
  have hb2 : ∀ (j : Nat) (v : Value), im[j]? = some v → W0.cell? ⟨w.heap.size + 1 + 1 + 1, j, none⟩ = some v := fun j v hv => by
    rw [← hW0]
    have := heap_alloc_new (((w.alloc (.cells im 35)).alloc (.cells arr 4)).alloc (.cells #[.slice (some ⟨w.heap.size + 1, 0, none⟩) nn nn] 49)) (.cells im 35)
    simp only [World.size_alloc] at this
    simp only [World.cell?, this]
    exact hv
  have hsz : W0.heap.size = w.heap.size + 1 + 1 + 1 + 1 := by rw [← hW0]; simp
  rw [hW0]
  refine wpIn_rangeFunc_ownH rfl h1 (gf := 47) (lb := #[.pointer (some ⟨w.heap.size + 1 + 1 + 1, 0, none⟩)]) rfl trivial (enters_of Try.func47 (by kernel_rfl) rfl)
    (all_stops (w.heap.size + 1 + 1 + 1) w.heap.size (n - 1) (by omega) v0 v1 v2 xs0 xs1 xs2 W0 (by omega) (by omega) hl0 hl1 hl2 (hb2 4 v0 (him ▸ rfl)) (hb2 5 v1 (him ▸ rfl)) (hb2 6 v2 (him ▸ rfl)) (c0.below hB0) (c1.below hB0) (c2.below hB0)) belowK_t (belowK_b (by omega)) (Below.refl _ _) (fun _ => rfl)
    (fun pre W => (Boxed W (w.heap.size + 1 + 1) 49 (.slice (some ⟨w.heap.size + 1, 0, none⟩) nn nn) ∧ Flags W (w.heap.size + 1) (tiledC nn pre)) ∧ Below w.heap.size w W)
    (fun _ _ _ => False)
    (OwnFrom.and (OwnFrom.and (Own.from (boxed_own _ _ (fun _ => Value.slice (some ⟨w.heap.size + 1, 0, none⟩) nn nn)) _) (Own.from (fun s X Y row hs hg hr => flags_own (w.heap.size + 1) (tiledC nn s) hs hg hr) _)) (ownFrom_below (Nat.le_refl _) (by omega)))
    (fun _ _ _ _ _ hs _ _ => hs)
    ⟨⟨hW0 ▸ bS.alloc _, hW0 ▸ ((bF.alloc _).alloc _)⟩, hB0⟩
    (fun x a' W => ∃ Bx, w.heap.size + 1 + 1 < Bx ∧ BoxC W Bx x ∧ a' = { tmps := #[.agg im, .pointer (some ⟨w.heap.size, 0, none⟩), .slice none 0 0, .pointer (some ⟨w.heap.size + 1 + 1, 0, none⟩), .pointer (some ⟨Bx, 0, none⟩), .pointer (some ⟨w.heap.size, 0, none⟩), .pointer (some ⟨w.heap.size, 1, none⟩), .slice A nn cc, .int .i64 (nn : Int), .slice (some ⟨w.heap.size + 1, 0, none⟩) nn nn, .agg im, .func (.func 47) #[] #[.pointer (some ⟨w.heap.size + 1 + 1 + 1, 0, none⟩)], encC x, undef, undef, undef, undef, undef, undef, undef, undef, undef, undef, undef, undef, undef, undef, undef, undef, undef, undef, undef, undef], defers := [] })
    (fun x a' _ X Y row hs hg hr => by obtain ⟨Bx, e1, e2, e3⟩ := hs; exact ⟨Bx, e1, boxC_own Bx x e2 hg (fun r e => (hr r e).2), e3⟩)
    ?assign ?body ?done ?stop
  case assign =>
    rintro l pre x W K ⟨⟨bR1, bF1⟩, hB1⟩ hK
    have hK' : K _ (W.alloc (.cells (cellsC x) 42)) := hK _ _ ((KeepsOthers.alloc _ _).from _) ((Below.refl _ W).alloc hB1.size _) ⟨⟨bR1.alloc _, bF1.alloc _⟩, hB1.alloc hB1.size _⟩ ⟨W.heap.size, bR1.lt, BoxC.new W x, rfl⟩
    simp only [encC, cellsC] at hK' ⊢
    clear hK him
    gi_wp2
    exact hK'
  case body =>
    rintro l pre x a' W hl ⟨r, hr⟩ ⟨⟨bR1, bF1⟩, hB1⟩ ⟨Bx, hBx, bX, rfl⟩ hlt
    have cN := bR1.cell
    have g0 : W.cell? ⟨Bx, 0, none⟩ = some (.int .i64 x.1) := bX.cell 0 rfl
    have g2 : W.cell? ⟨Bx, 2, none⟩ = some (.int .i64 x.2.2.1) := bX.cell 2 rfl
    have hss := tiledC_snoc nn pre x
    have hlen := tiledC_length nn pre
    have same : ¬(x.1 = 3 ∧ 0 ≤ x.2.2.1 ∧ x.2.2.1 < nn) → tiledC nn (pre ++ [x]) = tiledC nn pre := fun h => by rw [hss]; simp only [tileC, hlen]; exact if_neg h
    by_cases h3 : x.1 = 3
    · by_cases h0 : 0 ≤ x.2.2.1
      · by_cases hn1 : x.2.2.1 < nn
        · obtain ⟨j, hj⟩ : ∃ j : Nat, x.2.2.1 = (j : Int) := ⟨x.2.2.1.toNat, by omega⟩
          have hjl : j < (tiledC nn pre).length := by rw [hlen]; omega
          have cF := bF1.cell (List.getElem?_eq_getElem hjl)
          have fF := bF1.frozen j
          have hnew : tiledC nn (pre ++ [x]) = (tiledC nn pre).set j true := by
            rw [hss]
            simp only [tileC, hlen]
            rw [if_pos ⟨h3, h0, hn1⟩, hj]
            rfl
          have hjn : (j : Int) < nn := hj ▸ hn1
          rw [hj] at g2
          rw [h3] at g0
          clear same hss
          gi_wp2
          exact ⟨(KeepsOthers.setCell _ _ _).from _, (Below.refl _ W).setCell (p := ⟨w.heap.size + 1, j, none⟩) (Nat.le_succ _) _, ⟨(Below.heap_setCell W ⟨w.heap.size + 1, j, none⟩ _ _ (by simp)).trans bR1, hnew ▸ bF1.set j true⟩, hB1.setCell (p := ⟨w.heap.size + 1, j, none⟩) (Nat.le_succ _) _⟩
        · have hs := same fun h => hn1 h.2.2
          rw [h3] at g0
          clear same hss
          gi_wp2
          exact ⟨KeepsFrom.refl _ _, Below.refl _ _, ⟨bR1, hs ▸ bF1⟩, hB1⟩
      · have hs := same fun h => h0 h.2.1
        rw [h3] at g0
        clear same hss
        gi_wp2
        exact ⟨KeepsFrom.refl _ _, Below.refl _ _, ⟨bR1, hs ▸ bF1⟩, hB1⟩
    · have hs := same fun h => h3 h.1
      clear same hss
      gi_wp2
      exact ⟨KeepsFrom.refl _ _, Below.refl _ _, ⟨bR1, hs ▸ bF1⟩, hB1⟩
  case done =>
    rintro D ys W hD rfl ⟨⟨bR1, bF1⟩, hB1⟩ hK
    have hc := bR1.cell
    gi_wp2
    refine ⟨by simp, .inl ⟨_, _, rfl, run_takeDeferred hK, ?_⟩⟩
    have hB2 := belowK_b (w := w) (Nat.le_refl _) W D (.deferred (some [])) (.deferred none) (by omega) hK rfl rfl
    have bF2 := flags_own _ _ bF1 (grownBy_putObj' W D (.deferred none)) (fun r e => by cases e; exact ⟨_, hK, rfl⟩)
    exact ⟨_, results_tmp rfl _ _ _, _, _, rfl, Nat.le_succ _, Nat.le_refl _, fun i x hx => bF2.cell (by simpa using hx), hB1.trans hB2⟩
  case stop =>
    rintro D c pre W _ _ h _
    exact h.elim
end Go.V.P
