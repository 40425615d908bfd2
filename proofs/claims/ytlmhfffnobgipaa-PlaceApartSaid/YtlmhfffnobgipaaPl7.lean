/- What functions compute. -/
import Derived.Test.YtlmhfffnobgipaaPl5
namespace Go.V.P
open Go.RowKit Go.V Go.Proofs
set_option linter.unusedVariables false
set_option maxRecDepth 100000
section
variable {α β : Type} (g_ : Graph) (y2344 : Bool) (y2345 : Graph) (y2346 : ((List I4) × Int)) (y2347 : ((List Int) × Int)) (y2348 : ((List I2) × Int)) (s2488 : (Int × Int)) (y2516 : Int) (s2536 : Int) (y2539 : Bool) (y2543 : (Int × Int)) (s2622 : Int) (s2640 : Int) (s2660 : Int) (y2665 : (Int × Int)) (k : St → Option α) (q : Kont α)
noncomputable abbrev C71 := codeOf E.P 4
noncomputable abbrev P71 := @preK α E 4 cp67 ce3
noncomputable abbrev R71 := @runCode α E 4 cp67 ce3
theorem law17_PlaceApart_r1 : P71 2 C71 ⟨[(0, rA tsGraph g_)], [], [], 241⟩ k = Option.bind law17_shown fun y2344 : Bool => k ⟨[(1, rF 0), (3, rb y2344)], [(tsGraph.leaves g_)], [], 241⟩ := by kernel_rfl
theorem law17_PlaceApart_r2 : P71 1 C71.r.r ⟨[(1, rF 0), (3, rb y2344)], [(tsGraph.leaves g_)], [], 241⟩ k = Option.bind (law17_less g_) fun y2345 : Graph => k ⟨[(1, rF 0), (3, rb y2344)], [(tsGraph.leaves y2345)], [], 241⟩ := by kernel_rfl
abbrev S71_0 : St := ⟨[(1, rF 0), (3, rb y2344), (4, rO tsI4 y2346.1 4), (5, ri y2346.2)], [(tsGraph.leaves y2345)], [], 241⟩
theorem law17_PlaceApart_r3 : P71 1 C71.r.r.r ⟨[(1, rF 0), (3, rb y2344)], [(tsGraph.leaves y2345)], [], 241⟩ k = Option.bind (ref03_Values y2345) fun y2346 : ((List I4) × Int) => k (S71_0 y2344 y2345 y2346) := by kernel_rfl
abbrev S71_1 : St := ⟨[(1, rF 0), (3, rb y2344), (4, rO tsI4 y2346.1 4), (5, ri y2346.2), (6, .one (.ow (.one (.int .i64)) y2347.1 (.v 6))), (7, ri y2347.2)], [(tsGraph.leaves y2345)], [], 241⟩
theorem law17_PlaceApart_r4 : P71 1 C71.r.r.r.r (S71_0 y2344 y2345 y2346) k = Option.bind (place_Places y2345) fun y2347 : ((List Int) × Int) => k (S71_1 y2344 y2345 y2346 y2347) := by kernel_rfl
abbrev S71_2 : St := ⟨[(1, rF 0), (3, rb y2344), (4, rO tsI4 y2346.1 4), (5, ri y2346.2), (6, .one (.ow (.one (.int .i64)) y2347.1 (.v 6))), (7, ri y2347.2), (8, rO tsI2 y2348.1 8), (9, ri y2348.2)], [(tsGraph.leaves y2345)], [], 241⟩
theorem law17_PlaceApart_r5 : P71 1 C71.r.r.r.r.r (S71_1 y2344 y2345 y2346 y2347) k = Option.bind (place_Live y2345) fun y2348 : ((List I2) × Int) => k (S71_2 y2344 y2345 y2346 y2347 y2348) := by kernel_rfl
theorem law17_PlaceApart_f1000007 : P71 1 C71.r.r.r.r.r.r.l (S71_2 y2344 y2345 y2346 y2347 y2348) k = k ⟨[(1, rF 0), (3, rb y2344), (4, rO tsI4 y2346.1 4), (5, ri y2346.2), (6, .one (.ow (.one (.int .i64)) y2347.1 (.v 6))), (7, ri y2347.2), (8, rO tsI2 y2348.1 8), (9, ri y2348.2), (39, rb (y2346.2 != 0))], [(tsGraph.leaves y2345)], [], 241⟩ := by kernel_rfl
def law17_PlaceApart_r7_q (K : Bool → β) : β := (bif y2344 then (bif (y2347.2 == y2346.2) then (bif (y2348.2 == y2346.2) then (K ((y2347.1.length : Int) == 0)) else (K false)) else (K false)) else (K false))
def law17_PlaceApart_r7_p : Bool := law17_PlaceApart_r7_q y2344 y2346 y2347 y2348 (fun y => y)
theorem law17_PlaceApart_r7_n (K : Bool → β) : law17_PlaceApart_r7_q y2344 y2346 y2347 y2348 K = K (law17_PlaceApart_r7_p y2344 y2346 y2347 y2348) := (bif_k K (bif_k K (bif_k K rfl rfl) rfl) rfl)
theorem law17_PlaceApart_r7 : P71 1 C71.r.r.r.r.r.r.l.r.t (S71_2 y2344 y2345 y2346 y2347 y2348) k = k ⟨[(2, rb (law17_PlaceApart_r7_p y2344 y2346 y2347 y2348))], [[]], [], 241⟩ := Eq.trans (by kernel_rfl) (law17_PlaceApart_r7_n y2344 y2346 y2347 y2348 (fun y2350 : Bool => k ⟨[(2, rb y2350)], [[]], [], 241⟩))
def law17_PlaceApart_r8_q (K : Bool → β) : β := (bif (y2347.2 != 0) then (K true) else (bif (y2348.2 != 0) then (K true) else (bif ((y2347.1.length : Int) != (y2346.1.length : Int)) then (K true) else (K ((y2348.1.length : Int) != (y2346.1.length : Int))))))
def law17_PlaceApart_r8_p : Bool := law17_PlaceApart_r8_q y2346 y2347 y2348 (fun y => y)
theorem law17_PlaceApart_r8_n (K : Bool → β) : law17_PlaceApart_r8_q y2346 y2347 y2348 K = K (law17_PlaceApart_r8_p y2346 y2347 y2348) := (bif_k K rfl (bif_k K rfl (bif_k K rfl rfl)))
abbrev S71_3 : St := ⟨[(1, rF 0), (3, rb y2344), (4, rO tsI4 y2346.1 4), (6, .one (.ow (.one (.int .i64)) y2347.1 (.v 6))), (7, ri y2347.2), (8, rO tsI2 y2348.1 8), (9, ri y2348.2)], [(tsGraph.leaves y2345)], [], 241⟩
theorem law17_PlaceApart_r8 : P71 1 C71.r.r.r.r.r.r.r.l (S71_3 y2344 y2345 y2346 y2347 y2348) k = k ⟨[(1, rF 0), (3, rb y2344), (4, rO tsI4 y2346.1 4), (6, .one (.ow (.one (.int .i64)) y2347.1 (.v 6))), (8, rO tsI2 y2348.1 8), (75, rb (law17_PlaceApart_r8_p y2346 y2347 y2348))], [(tsGraph.leaves y2345)], [], 241⟩ := Eq.trans (by kernel_rfl) (law17_PlaceApart_r8_n y2346 y2347 y2348 (fun y2352 : Bool => k ⟨[(1, rF 0), (3, rb y2344), (4, rO tsI4 y2346.1 4), (6, .one (.ow (.one (.int .i64)) y2347.1 (.v 6))), (8, rO tsI2 y2348.1 8), (75, rb y2352)], [(tsGraph.leaves y2345)], [], 241⟩))
abbrev S71_4 : St := ⟨[(1, rF 0), (3, rb y2344), (4, rO tsI4 y2346.1 4), (6, .one (.ow (.one (.int .i64)) y2347.1 (.v 6))), (8, rO tsI2 y2348.1 8)], [(tsGraph.leaves y2345)], [], 241⟩
abbrev S71_5 : St := ⟨[(2, rb false)], [[]], [], 241⟩
theorem law17_PlaceApart_fz : P71 1 C71.r.r.r.r.r.r.r.l.r.t (S71_4 y2344 y2345 y2346 y2347 y2348) k = k S71_5 := by kernel_rfl
abbrev S71_6 : St := ⟨[(1, rF 0), (3, rb y2344), (4, rO tsI4 y2346.1 4), (6, .one (.ow (.one (.int .i64)) y2347.1 (.v 6))), (8, rO tsI2 y2348.1 8), (10, ri 0)], [(tsGraph.leaves y2345)], [], 241⟩
theorem law17_PlaceApart_f11 : P71 1 C71.r.r.r.r.r.r.r.r (S71_4 y2344 y2345 y2346 y2347 y2348) k = k (S71_6 y2344 y2345 y2346 y2347 y2348) := by kernel_rfl
abbrev S71_7 : St := ⟨[(1, rF 0), (3, rb y2344), (4, rO tsI4 y2346.1 4), (6, .one (.ow (.one (.int .i64)) y2347.1 (.v 6))), (8, rO tsI2 y2348.1 8), (10, ri 0), (11, ri 0)], [(tsGraph.leaves y2345)], [], 241⟩
theorem law17_PlaceApart_f12 : P71 1 C71.r.r.r.r.r.r.r.r.r.l (S71_6 y2344 y2345 y2346 y2347 y2348) k = k (S71_7 y2344 y2345 y2346 y2347 y2348) := by kernel_rfl
abbrev S71_8 : St := ⟨[(1, rF 0), (3, rb y2344), (4, rO tsI4 y2346.1 4), (6, .one (.ow (.one (.int .i64)) y2347.1 (.v 6))), (8, rO tsI2 y2348.1 8), (10, ri s2488.1), (11, ri s2488.2)], [(tsGraph.leaves y2345)], [], 241⟩
theorem law17_PlaceApart_fzx1 : P71 1 C71.r.r.r.r.r.r.r.r.r.l.r.b.b.l (S71_8 y2344 y2345 y2346 y2347 y2348 s2488) k = k ⟨[(1, rF 0), (3, rb y2344), (4, rO tsI4 y2346.1 4), (6, .one (.ow (.one (.int .i64)) y2347.1 (.v 6))), (8, rO tsI2 y2348.1 8), (10, ri s2488.1), (11, ri s2488.2), (79, rb (decide (s2488.2 < (y2346.1.length : Int))))], [(tsGraph.leaves y2345)], [], 241⟩ := by kernel_rfl
def law17_PlaceApart_r14_p : Option Int := (bif (decide ((0 : Int) ≤ s2488.2)) then (bif (decide (s2488.2 < (y2346.1.length : Int))) then (some (ref02_Size ((gt y2346.1 s2488.2 dI4).1, (gt y2346.1 s2488.2 dI4).2.1, (gt y2346.1 s2488.2 dI4).2.2.1))) else none) else none)
abbrev S71_9 : St := ⟨[(1, rF 0), (3, rb y2344), (4, rO tsI4 y2346.1 4), (6, .one (.ow (.one (.int .i64)) y2347.1 (.v 6))), (8, rO tsI2 y2348.1 8), (10, ri s2488.1), (11, ri s2488.2), (12, ri y2516)], [(tsGraph.leaves y2345)], [], 241⟩
theorem law17_PlaceApart_r14 : P71 1 C71.r.r.r.r.r.r.r.r.r.l.r.b.b.r.l.b (S71_8 y2344 y2345 y2346 y2347 y2348 s2488) k = Option.bind (law17_PlaceApart_r14_p y2346 s2488) (fun y2516 : Int => k (S71_9 y2344 y2345 y2346 y2347 y2348 s2488 y2516)) := .trans (by kernel_rfl) (bif_b (bif_b some_b none_b) none_b)
def law17_PlaceApart_r15_p : Option Bool := (bif (decide ((0 : Int) ≤ s2488.2)) then (bif (decide (s2488.2 < (y2347.1.length : Int))) then (bif (decide ((gt y2347.1 s2488.2 (0 : Int)) < 0)) then (some true) else (bif (decide ((0 : Int) ≤ s2488.2)) then (bif (decide (s2488.2 < (y2347.1.length : Int))) then (bif (decide ((gt y2347.1 s2488.2 (0 : Int)) > s2488.1)) then (some true) else (bif (decide ((0 : Int) ≤ s2488.2)) then (bif (decide (s2488.2 < (y2348.1.length : Int))) then (bif (decide ((0 : Int) ≤ s2488.2)) then (bif (decide (s2488.2 < (y2348.1.length : Int))) then (some (decide (((gt y2348.1 s2488.2 dI2).1) > ((gt y2348.1 s2488.2 dI2).2)))) else none) else none) else none) else none)) else none) else none)) else none) else none)
theorem law17_PlaceApart_r15 : P71 1 C71.r.r.r.r.r.r.r.r.r.l.r.b.b.r.l.b.r.l (S71_9 y2344 y2345 y2346 y2347 y2348 s2488 y2516) k = Option.bind (law17_PlaceApart_r15_p y2347 y2348 s2488) (fun y2518 : Bool => k ⟨[(1, rF 0), (3, rb y2344), (4, rO tsI4 y2346.1 4), (6, .one (.ow (.one (.int .i64)) y2347.1 (.v 6))), (8, rO tsI2 y2348.1 8), (10, ri s2488.1), (11, ri s2488.2), (12, ri y2516), (113, rb y2518)], [(tsGraph.leaves y2345)], [], 241⟩) := .trans (by kernel_rfl) (bif_b (bif_b (bif_b some_b (bif_b (bif_b (bif_b some_b (bif_b (bif_b (bif_b (bif_b some_b none_b) none_b) none_b) none_b)) none_b) none_b)) none_b) none_b)
theorem law17_PlaceApart_fzx2 : P71 1 C71.r.r.r.r.r.r.r.r.r.l.r.b.b.r.l.b.r.l.r.t (S71_9 y2344 y2345 y2346 y2347 y2348 s2488 y2516) k = k S71_5 := by kernel_rfl
abbrev S71_10 : St := ⟨[(1, rF 0), (3, rb y2344), (4, rO tsI4 y2346.1 4), (6, .one (.ow (.one (.int .i64)) y2347.1 (.v 6))), (8, rO tsI2 y2348.1 8), (10, ri s2488.1), (11, ri s2488.2), (12, ri y2516), (13, ri 0)], [(tsGraph.leaves y2345)], [], 241⟩
theorem law17_PlaceApart_f18 : P71 1 C71.r.r.r.r.r.r.r.r.r.l.r.b.b.r.l.b.r.r.l (S71_9 y2344 y2345 y2346 y2347 y2348 s2488 y2516) k = k (S71_10 y2344 y2345 y2346 y2347 y2348 s2488 y2516) := by kernel_rfl
abbrev S71_11 : St := ⟨[(1, rF 0), (3, rb y2344), (4, rO tsI4 y2346.1 4), (6, .one (.ow (.one (.int .i64)) y2347.1 (.v 6))), (8, rO tsI2 y2348.1 8), (10, ri s2488.1), (11, ri s2488.2), (12, ri y2516), (13, ri s2536)], [(tsGraph.leaves y2345)], [], 241⟩
theorem law17_PlaceApart_fzx3 : P71 1 C71.r.r.r.r.r.r.r.r.r.l.r.b.b.r.l.b.r.r.l.r.b.b.l (S71_11 y2344 y2345 y2346 y2347 y2348 s2488 y2516 s2536) k = k ⟨[(1, rF 0), (3, rb y2344), (4, rO tsI4 y2346.1 4), (6, .one (.ow (.one (.int .i64)) y2347.1 (.v 6))), (8, rO tsI2 y2348.1 8), (10, ri s2488.1), (11, ri s2488.2), (12, ri y2516), (13, ri s2536), (116, rb (decide (s2536 < s2488.2)))], [(tsGraph.leaves y2345)], [], 241⟩ := by kernel_rfl
def law17_PlaceApart_r20_p : Option Bool := (bif (decide ((0 : Int) ≤ s2536)) then (bif (decide (s2536 < (y2347.1.length : Int))) then (bif (decide ((0 : Int) ≤ s2488.2)) then (bif (decide (s2488.2 < (y2347.1.length : Int))) then (bif (decide ((0 : Int) ≤ s2536)) then (bif (decide (s2536 < (y2347.1.length : Int))) then (bif (decide ((0 : Int) ≤ s2536)) then (bif (decide (s2536 < (y2346.1.length : Int))) then (bif (decide ((0 : Int) ≤ s2488.2)) then (bif (decide (s2488.2 < (y2347.1.length : Int))) then (some (decide ((max (gt y2347.1 s2536 (0 : Int)) (gt y2347.1 s2488.2 (0 : Int))) < (min (IntKind.wrap .i64 ((gt y2347.1 s2536 (0 : Int)) + (ref02_Size ((gt y2346.1 s2536 dI4).1, (gt y2346.1 s2536 dI4).2.1, (gt y2346.1 s2536 dI4).2.2.1)))) (IntKind.wrap .i64 ((gt y2347.1 s2488.2 (0 : Int)) + y2516)))))) else none) else none) else none) else none) else none) else none) else none) else none) else none) else none)
abbrev S71_12 : St := ⟨[(1, rF 0), (3, rb y2344), (4, rO tsI4 y2346.1 4), (6, .one (.ow (.one (.int .i64)) y2347.1 (.v 6))), (8, rO tsI2 y2348.1 8), (10, ri s2488.1), (11, ri s2488.2), (12, ri y2516), (13, ri s2536), (14, rb y2539)], [(tsGraph.leaves y2345)], [], 241⟩
theorem law17_PlaceApart_r20 : P71 1 C71.r.r.r.r.r.r.r.r.r.l.r.b.b.r.l.b.r.r.l.r.b.b.r.l.b (S71_11 y2344 y2345 y2346 y2347 y2348 s2488 y2516 s2536) k = Option.bind (law17_PlaceApart_r20_p y2346 y2347 s2488 y2516 s2536) (fun y2539 : Bool => k (S71_12 y2344 y2345 y2346 y2347 y2348 s2488 y2516 s2536 y2539)) := .trans (by kernel_rfl) (bif_b (bif_b (bif_b (bif_b (bif_b (bif_b (bif_b (bif_b (bif_b (bif_b some_b none_b) none_b) none_b) none_b) none_b) none_b) none_b) none_b) none_b) none_b)
def law17_PlaceApart_r21_p : Option Bool := (bif y2539 then (bif (decide ((0 : Int) ≤ s2536)) then (bif (decide (s2536 < (y2348.1.length : Int))) then (bif (decide ((0 : Int) ≤ s2488.2)) then (bif (decide (s2488.2 < (y2348.1.length : Int))) then (some (ref17_Together (gt y2348.1 s2536 dI2) (gt y2348.1 s2488.2 dI2))) else none) else none) else none) else none) else (some false))
theorem law17_PlaceApart_r21 : P71 1 C71.r.r.r.r.r.r.r.r.r.l.r.b.b.r.l.b.r.r.l.r.b.b.r.l.b.r (S71_12 y2344 y2345 y2346 y2347 y2348 s2488 y2516 s2536 y2539) k = Option.bind (law17_PlaceApart_r21_p y2348 s2488 s2536 y2539) (fun y2540 : Bool => k ⟨[(1, rF 0), (3, rb y2344), (4, rO tsI4 y2346.1 4), (6, .one (.ow (.one (.int .i64)) y2347.1 (.v 6))), (8, rO tsI2 y2348.1 8), (10, ri s2488.1), (11, ri s2488.2), (12, ri y2516), (13, ri s2536), (158, rb y2540)], [(tsGraph.leaves y2345)], [], 241⟩) := .trans (by kernel_rfl) (bif_b (bif_b (bif_b (bif_b (bif_b some_b none_b) none_b) none_b) none_b) some_b)
theorem law17_PlaceApart_fzx4 : P71 1 C71.r.r.r.r.r.r.r.r.r.l.r.b.b.r.l.b.r.r.l.r.b.b.r.l.b.r.r.t (S71_11 y2344 y2345 y2346 y2347 y2348 s2488 y2516 s2536) k = k S71_5 := by kernel_rfl
theorem law17_PlaceApart_r19 : R71 C71.r.r.r.r.r.r.r.r.r.l.r.b.b.r.l.b.r.r.l.r.b.b.r.r (S71_11 y2344 y2345 y2346 y2347 y2348 s2488 y2516 s2536) q = q .normal ⟨[(1, rF 0), (3, rb y2344), (4, rO tsI4 y2346.1 4), (6, .one (.ow (.one (.int .i64)) y2347.1 (.v 6))), (8, rO tsI2 y2348.1 8), (10, ri s2488.1), (11, ri s2488.2), (12, ri y2516), (13, ri (IntKind.wrap .i64 (s2536 + 1)))], [(tsGraph.leaves y2345)], [], 241⟩ := by kernel_rfl
def law17_PlaceApart_l18_p : Option (Int ⊕ (Int ⊕ Unit)) := (bif (decide (s2536 < s2488.2)) then (Option.bind (law17_PlaceApart_r20_p y2346 y2347 s2488 y2516 s2536) (fun y2539 : Bool => (Option.bind (law17_PlaceApart_r21_p y2348 s2488 s2536 y2539) (fun y2540 : Bool => (bif y2540 then (some (Sum.inr (Sum.inr ()))) else (some (Sum.inl (IntKind.wrap .i64 (s2536 + 1))))))))) else (some (Sum.inr (Sum.inl s2536))))
abbrev S71_13 (y2541 : Int) : St := ⟨[(1, rF 0), (3, rb y2344), (4, rO tsI4 y2346.1 4), (6, .one (.ow (.one (.int .i64)) y2347.1 (.v 6))), (8, rO tsI2 y2348.1 8), (10, ri s2488.1), (11, ri s2488.2), (12, ri y2516), (13, ri y2541)], [(tsGraph.leaves y2345)], [], 241⟩
theorem law17_PlaceApart_l18_b : R71 C71.r.r.r.r.r.r.r.r.r.l.r.b.b.r.l.b.r.r.l.r.b.b (S71_11 y2344 y2345 y2346 y2347 y2348 s2488 y2516 s2536) (loopKont 1 q) = Option.bind (law17_PlaceApart_l18_p y2346 y2347 y2348 s2488 y2516 s2536) (either (fun y : Int => q .normal ⟨[(1, rF 0), (3, rb y2344), (4, rO tsI4 y2346.1 4), (6, .one (.ow (.one (.int .i64)) y2347.1 (.v 6))), (8, rO tsI2 y2348.1 8), (10, ri s2488.1), (11, ri s2488.2), (12, ri y2516), (13, ri y)], [(tsGraph.leaves y2345)], [], 241⟩) (either (fun y2541 : Int => q (.exit 2) (S71_13 y2344 y2345 y2346 y2347 y2348 s2488 y2516 y2541)) (fun y2542 : Unit => q .ret S71_5))) := by
  refine .trans ?_ (bif_b (bind_b fun y2539 => (bind_b fun y2540 => (bif_b e3_2 e3_0))) e3_1)
  refine .trans seq_push ?_
  refine (pre1 (law17_PlaceApart_fzx3 y2344 y2345 y2346 y2347 y2348 s2488 y2516 s2536 _)).trans ?_
  refine (cond_e (b := (decide (s2536 < s2488.2))) (st' := (S71_11 y2344 y2345 y2346 y2347 y2348 s2488 y2516 s2536)) ).trans (bif_g ?_ ?_)
  · refine (skip_eq).trans ?_
    refine (seqC_normal (st' := (S71_11 y2344 y2345 y2346 y2347 y2348 s2488 y2516 s2536))).trans ?_
    refine .trans seq_push ?_
    refine (block_push (id := 3)).trans ?_
    refine (pre1 (law17_PlaceApart_r20 y2344 y2345 y2346 y2347 y2348 s2488 y2516 s2536 _)).trans (bind_g fun y2539 => ?_)
    refine (pre1 (law17_PlaceApart_r21 y2344 y2345 y2346 y2347 y2348 s2488 y2516 s2536 y2539 _)).trans (bind_g fun y2540 => ?_)
    refine (cond_e (b := y2540) (st' := (S71_11 y2344 y2345 y2346 y2347 y2348 s2488 y2516 s2536)) ).trans (bif_g ?_ ?_)
    · refine (pre1 (law17_PlaceApart_fzx4 y2344 y2345 y2346 y2347 y2348 s2488 y2516 s2536 _)).trans ?_
      refine (ret_eq).trans ?_
      refine block_ret.trans ?_
      refine seqC_ret.trans ?_
      kernel_rfl
    · refine (skip_eq).trans ?_
      refine block_normal.trans ?_
      refine (seqC_normal (st' := (S71_11 y2344 y2345 y2346 y2347 y2348 s2488 y2516 s2536))).trans ?_
      refine (law17_PlaceApart_r19 y2344 y2345 y2346 y2347 y2348 s2488 y2516 s2536 _).trans ?_
      kernel_rfl
  · refine ((exit_eq (j := 2))).trans ?_
    refine seqC_exit.trans ?_
    kernel_rfl
theorem law17_PlaceApart_l18 : R71 C71.r.r.r.r.r.r.r.r.r.l.r.b.b.r.l.b.r.r.l.r.b (S71_10 y2344 y2345 y2346 y2347 y2348 s2488 y2516) q = Option.bind (iterN (law17_PlaceApart_l18_p y2346 y2347 y2348 s2488 y2516) LL (0 : Int)) (either (fun y2541 : Int => q (.exit 2) (S71_13 y2344 y2345 y2346 y2347 y2348 s2488 y2516 y2541)) (fun y2542 : Unit => q .ret S71_5)) :=
  Eq.trans (by kernel_rfl) (loop_iter2 (S := fun s2536 : Int => (S71_11 y2344 y2345 y2346 y2347 y2348 s2488 y2516 s2536)) (Y1 := fun y2541 : Int => ((.exit 2), (S71_13 y2344 y2345 y2346 y2347 y2348 s2488 y2516 y2541))) (Y2 := fun y2542 : Unit => (.ret, S71_5)) (fun s q => law17_PlaceApart_l18_b y2344 y2345 y2346 y2347 y2348 s2488 y2516 s q) (fun z => rfl) (fun z => rfl) LL (0 : Int))
abbrev S71_14 : St := ⟨[(1, rF 0), (3, rb y2344), (4, rO tsI4 y2346.1 4), (6, .one (.ow (.one (.int .i64)) y2347.1 (.v 6))), (8, rO tsI2 y2348.1 8), (10, ri (IntKind.wrap .i64 (s2488.1 + y2516))), (11, ri s2488.2)], [(tsGraph.leaves y2345)], [], 241⟩
theorem law17_PlaceApart_r23 : R71 C71.r.r.r.r.r.r.r.r.r.l.r.b.b.r.l.b.r.r.r (S71_9 y2344 y2345 y2346 y2347 y2348 s2488 y2516) q = q .normal (S71_14 y2344 y2345 y2346 y2347 y2348 s2488 y2516) := by kernel_rfl
theorem law17_PlaceApart_r13 : R71 C71.r.r.r.r.r.r.r.r.r.l.r.b.b.r.r (S71_14 y2344 y2345 y2346 y2347 y2348 s2488 y2516) q = q .normal ⟨[(1, rF 0), (3, rb y2344), (4, rO tsI4 y2346.1 4), (6, .one (.ow (.one (.int .i64)) y2347.1 (.v 6))), (8, rO tsI2 y2348.1 8), (10, ri (IntKind.wrap .i64 (s2488.1 + y2516))), (11, ri (IntKind.wrap .i64 (s2488.2 + 1)))], [(tsGraph.leaves y2345)], [], 241⟩ := by kernel_rfl
def law17_PlaceApart_l12_p : Option ((Int × Int) ⊕ ((Int × Int) ⊕ Unit)) := (bif (decide (s2488.2 < (y2346.1.length : Int))) then (Option.bind (law17_PlaceApart_r14_p y2346 s2488) (fun y2516 : Int => (Option.bind (law17_PlaceApart_r15_p y2347 y2348 s2488) (fun y2518 : Bool => (bif y2518 then (some (Sum.inr (Sum.inr ()))) else (Option.bind (iterN (law17_PlaceApart_l18_p y2346 y2347 y2348 s2488 y2516) LL (0 : Int)) (either (fun y2541 : Int => (some (Sum.inl ((IntKind.wrap .i64 (s2488.1 + y2516)), (IntKind.wrap .i64 (s2488.2 + 1)))))) (fun y2542 : Unit => (some (Sum.inr (Sum.inr ()))))))))))) else (some (Sum.inr (Sum.inl s2488))))
abbrev S71_15 : St := ⟨[(1, rF 0), (3, rb y2344), (4, rO tsI4 y2346.1 4), (6, .one (.ow (.one (.int .i64)) y2347.1 (.v 6))), (8, rO tsI2 y2348.1 8), (10, ri y2543.1), (11, ri y2543.2)], [(tsGraph.leaves y2345)], [], 241⟩
theorem law17_PlaceApart_l12_b : R71 C71.r.r.r.r.r.r.r.r.r.l.r.b.b (S71_8 y2344 y2345 y2346 y2347 y2348 s2488) (loopKont 1 q) = Option.bind (law17_PlaceApart_l12_p y2346 y2347 y2348 s2488) (either (fun y : (Int × Int) => q .normal ⟨[(1, rF 0), (3, rb y2344), (4, rO tsI4 y2346.1 4), (6, .one (.ow (.one (.int .i64)) y2347.1 (.v 6))), (8, rO tsI2 y2348.1 8), (10, ri y.1), (11, ri y.2)], [(tsGraph.leaves y2345)], [], 241⟩) (either (fun y2543 : (Int × Int) => q (.exit 0) (S71_15 y2344 y2345 y2346 y2347 y2348 y2543)) (fun y2544 : Unit => q .ret S71_5))) := by
  refine .trans ?_ (bif_b (bind_b fun y2516 => (bind_b fun y2518 => (bif_b e3_2 (bind_b (either_b (fun y2541 => e3_0) (fun y2542 => e3_2)))))) e3_1)
  refine .trans seq_push ?_
  refine (pre1 (law17_PlaceApart_fzx1 y2344 y2345 y2346 y2347 y2348 s2488 _)).trans ?_
  refine (cond_e (b := (decide (s2488.2 < (y2346.1.length : Int)))) (st' := (S71_8 y2344 y2345 y2346 y2347 y2348 s2488)) ).trans (bif_g ?_ ?_)
  · refine (skip_eq).trans ?_
    refine (seqC_normal (st' := (S71_8 y2344 y2345 y2346 y2347 y2348 s2488))).trans ?_
    refine .trans seq_push ?_
    refine (block_push (id := 1)).trans ?_
    refine (pre1 (law17_PlaceApart_r14 y2344 y2345 y2346 y2347 y2348 s2488 _)).trans (bind_g fun y2516 => ?_)
    refine .trans seq_push ?_
    refine (pre1 (law17_PlaceApart_r15 y2344 y2345 y2346 y2347 y2348 s2488 y2516 _)).trans (bind_g fun y2518 => ?_)
    refine (cond_e (b := y2518) (st' := (S71_9 y2344 y2345 y2346 y2347 y2348 s2488 y2516)) ).trans (bif_g ?_ ?_)
    · refine (pre1 (law17_PlaceApart_fzx2 y2344 y2345 y2346 y2347 y2348 s2488 y2516 _)).trans ?_
      refine (ret_eq).trans ?_
      refine seqC_ret.trans ?_
      refine block_ret.trans ?_
      refine seqC_ret.trans ?_
      kernel_rfl
    · refine (skip_eq).trans ?_
      refine (seqC_normal (st' := (S71_9 y2344 y2345 y2346 y2347 y2348 s2488 y2516))).trans ?_
      refine .trans seq_push ?_
      refine (pre1 (law17_PlaceApart_f18 y2344 y2345 y2346 y2347 y2348 s2488 y2516 _)).trans ?_
      refine (block_push (id := 2)).trans ?_
      refine (law17_PlaceApart_l18 y2344 y2345 y2346 y2347 y2348 s2488 y2516 _).trans (bind_g (either_g (fun y2541 => ?_) (fun y2542 => ?_)))
      · refine block_same.trans ?_
        refine (seqC_normal (st' := (S71_9 y2344 y2345 y2346 y2347 y2348 s2488 y2516))).trans ?_
        refine (law17_PlaceApart_r23 y2344 y2345 y2346 y2347 y2348 s2488 y2516 _).trans ?_
        refine block_normal.trans ?_
        refine (seqC_normal (st' := (S71_14 y2344 y2345 y2346 y2347 y2348 s2488 y2516))).trans ?_
        refine (law17_PlaceApart_r13 y2344 y2345 y2346 y2347 y2348 s2488 y2516 _).trans ?_
        kernel_rfl
      · refine block_ret.trans ?_
        refine seqC_ret.trans ?_
        refine block_ret.trans ?_
        refine seqC_ret.trans ?_
        kernel_rfl
  · refine ((exit_eq (j := 0))).trans ?_
    refine seqC_exit.trans ?_
    kernel_rfl
theorem law17_PlaceApart_l12 : R71 C71.r.r.r.r.r.r.r.r.r.l.r.b (S71_7 y2344 y2345 y2346 y2347 y2348) q = Option.bind (iterN (law17_PlaceApart_l12_p y2346 y2347 y2348) LL ((0 : Int), (0 : Int))) (either (fun y2543 : (Int × Int) => q (.exit 0) (S71_15 y2344 y2345 y2346 y2347 y2348 y2543)) (fun y2544 : Unit => q .ret S71_5)) :=
  Eq.trans (by kernel_rfl) (loop_iter2 (S := fun s2488 : (Int × Int) => (S71_8 y2344 y2345 y2346 y2347 y2348 s2488)) (Y1 := fun y2543 : (Int × Int) => ((.exit 0), (S71_15 y2344 y2345 y2346 y2347 y2348 y2543))) (Y2 := fun y2544 : Unit => (.ret, S71_5)) (fun s q => law17_PlaceApart_l12_b y2344 y2345 y2346 y2347 y2348 s q) (fun z => rfl) (fun z => rfl) LL ((0 : Int), (0 : Int)))
abbrev S71_16 : St := ⟨[(1, rF 0), (3, rb y2344), (8, rO tsI2 y2348.1 8), (10, ri y2543.1)], [(tsGraph.leaves y2345)], [], 241⟩
abbrev S71_17 : St := ⟨[(1, rF 0), (3, rb y2344), (8, rO tsI2 y2348.1 8), (10, ri y2543.1), (15, ri 0)], [(tsGraph.leaves y2345)], [], 241⟩
theorem law17_PlaceApart_f25 : P71 1 C71.r.r.r.r.r.r.r.r.r.r.l (S71_16 y2344 y2345 y2348 y2543) k = k (S71_17 y2344 y2345 y2348 y2543) := by kernel_rfl
abbrev S71_18 : St := ⟨[(1, rF 0), (3, rb y2344), (8, rO tsI2 y2348.1 8), (10, ri y2543.1), (15, ri s2622)], [(tsGraph.leaves y2345)], [], 241⟩
theorem law17_PlaceApart_fzx5 : P71 1 C71.r.r.r.r.r.r.r.r.r.r.l.r.b.b.l (S71_18 y2344 y2345 y2348 y2543 s2622) k = k ⟨[(1, rF 0), (3, rb y2344), (8, rO tsI2 y2348.1 8), (10, ri y2543.1), (15, ri s2622), (166, rb (decide (s2622 < (y2345.2.1.length : Int))))], [(tsGraph.leaves y2345)], [], 241⟩ := by kernel_rfl
abbrev S71_19 : St := ⟨[(1, rF 0), (3, rb y2344), (8, rO tsI2 y2348.1 8), (10, ri y2543.1), (15, ri s2622), (16, ri 0)], [(tsGraph.leaves y2345)], [], 241⟩
theorem law17_PlaceApart_f28 : P71 1 C71.r.r.r.r.r.r.r.r.r.r.l.r.b.b.r.l.b (S71_18 y2344 y2345 y2348 y2543 s2622) k = k (S71_19 y2344 y2345 y2348 y2543 s2622) := by kernel_rfl
def law17_PlaceApart_r28_p : Option Unit := (bif (decide ((0 : Int) ≤ s2622)) then (bif (decide (s2622 < (y2345.2.1.length : Int))) then (some ()) else none) else none)
abbrev S71_20 : St := ⟨[(1, rF 0), (3, rb y2344), (8, rO tsI2 y2348.1 8), (10, ri y2543.1), (15, ri s2622), (16, ri s2640)], [(tsGraph.leaves y2345)], [], 241⟩
theorem law17_PlaceApart_r28 : P71 1 C71.r.r.r.r.r.r.r.r.r.r.l.r.b.b.r.l.b.r.b.b.l (S71_20 y2344 y2345 y2348 y2543 s2622 s2640) k = Option.bind (law17_PlaceApart_r28_p y2345 s2622) (fun y2642 : Unit => k ⟨[(1, rF 0), (3, rb y2344), (8, rO tsI2 y2348.1 8), (10, ri y2543.1), (15, ri s2622), (16, ri s2640), (177, rb (decide (s2640 < (((gt y2345.2.1 s2622 dNode).2.1).length : Int))))], [(tsGraph.leaves y2345)], [], 241⟩) := .trans (by kernel_rfl) (bif_b (bif_b some_b none_b) none_b)
def law17_PlaceApart_r30_p : Option Bool := (bif (decide ((0 : Int) ≤ s2622)) then (bif (decide (s2622 < (y2345.2.1.length : Int))) then (bif (decide ((0 : Int) ≤ s2640)) then (bif (decide (s2640 < (((gt y2345.2.1 s2622 dNode).2.1).length : Int))) then (bif (decide ((0 : Int) ≤ (gt ((gt y2345.2.1 s2622 dNode).2.1) s2640 (0 : Int)))) then (bif (decide ((gt ((gt y2345.2.1 s2622 dNode).2.1) s2640 (0 : Int)) < (y2348.1.length : Int))) then (bif (decide ((0 : Int) ≤ (IntKind.wrap .i64 ((y2345.1.length : Int) + s2622)))) then (bif (decide ((IntKind.wrap .i64 ((y2345.1.length : Int) + s2622)) < (y2348.1.length : Int))) then (some (!(ref17_Together (gt y2348.1 (gt ((gt y2345.2.1 s2622 dNode).2.1) s2640 (0 : Int)) dI2) (gt y2348.1 (IntKind.wrap .i64 ((y2345.1.length : Int) + s2622)) dI2)))) else none) else none) else none) else none) else none) else none) else none) else none)
theorem law17_PlaceApart_r30 : P71 1 C71.r.r.r.r.r.r.r.r.r.r.l.r.b.b.r.l.b.r.b.b.r.l.b (S71_20 y2344 y2345 y2348 y2543 s2622 s2640) k = Option.bind (law17_PlaceApart_r30_p y2345 y2348 s2622 s2640) (fun y2644 : Bool => k ⟨[(1, rF 0), (3, rb y2344), (8, rO tsI2 y2348.1 8), (10, ri y2543.1), (15, ri s2622), (16, ri s2640), (201, rb y2644)], [(tsGraph.leaves y2345)], [], 241⟩) := .trans (by kernel_rfl) (bif_b (bif_b (bif_b (bif_b (bif_b (bif_b (bif_b (bif_b some_b none_b) none_b) none_b) none_b) none_b) none_b) none_b) none_b)
theorem law17_PlaceApart_fzx6 : P71 1 C71.r.r.r.r.r.r.r.r.r.r.l.r.b.b.r.l.b.r.b.b.r.l.b.r.t (S71_20 y2344 y2345 y2348 y2543 s2622 s2640) k = k S71_5 := by kernel_rfl
theorem law17_PlaceApart_r29 : R71 C71.r.r.r.r.r.r.r.r.r.r.l.r.b.b.r.l.b.r.b.b.r.r (S71_20 y2344 y2345 y2348 y2543 s2622 s2640) q = q .normal ⟨[(1, rF 0), (3, rb y2344), (8, rO tsI2 y2348.1 8), (10, ri y2543.1), (15, ri s2622), (16, ri (IntKind.wrap .i64 (s2640 + 1)))], [(tsGraph.leaves y2345)], [], 241⟩ := by kernel_rfl
def law17_PlaceApart_l28_p : Option (Int ⊕ (Int ⊕ Unit)) := (Option.bind (law17_PlaceApart_r28_p y2345 s2622) (fun y2642 : Unit => (bif (decide (s2640 < (((gt y2345.2.1 s2622 dNode).2.1).length : Int))) then (Option.bind (law17_PlaceApart_r30_p y2345 y2348 s2622 s2640) (fun y2644 : Bool => (bif y2644 then (some (Sum.inr (Sum.inr ()))) else (some (Sum.inl (IntKind.wrap .i64 (s2640 + 1))))))) else (some (Sum.inr (Sum.inl s2640))))))
abbrev S71_21 (y2645 : Int) : St := ⟨[(1, rF 0), (3, rb y2344), (8, rO tsI2 y2348.1 8), (10, ri y2543.1), (15, ri s2622), (16, ri y2645)], [(tsGraph.leaves y2345)], [], 241⟩
theorem law17_PlaceApart_l28_b : R71 C71.r.r.r.r.r.r.r.r.r.r.l.r.b.b.r.l.b.r.b.b (S71_20 y2344 y2345 y2348 y2543 s2622 s2640) (loopKont 1 q) = Option.bind (law17_PlaceApart_l28_p y2345 y2348 s2622 s2640) (either (fun y : Int => q .normal ⟨[(1, rF 0), (3, rb y2344), (8, rO tsI2 y2348.1 8), (10, ri y2543.1), (15, ri s2622), (16, ri y)], [(tsGraph.leaves y2345)], [], 241⟩) (either (fun y2645 : Int => q (.exit 6) (S71_21 y2344 y2345 y2348 y2543 s2622 y2645)) (fun y2646 : Unit => q .ret S71_5))) := by
  refine .trans ?_ (bind_b fun y2642 => (bif_b (bind_b fun y2644 => (bif_b e3_2 e3_0)) e3_1))
  refine .trans seq_push ?_
  refine (pre1 (law17_PlaceApart_r28 y2344 y2345 y2348 y2543 s2622 s2640 _)).trans (bind_g fun y2642 => ?_)
  refine (cond_e (b := (decide (s2640 < (((gt y2345.2.1 s2622 dNode).2.1).length : Int)))) (st' := (S71_20 y2344 y2345 y2348 y2543 s2622 s2640)) ).trans (bif_g ?_ ?_)
  · refine (skip_eq).trans ?_
    refine (seqC_normal (st' := (S71_20 y2344 y2345 y2348 y2543 s2622 s2640))).trans ?_
    refine .trans seq_push ?_
    refine (block_push (id := 7)).trans ?_
    refine (pre1 (law17_PlaceApart_r30 y2344 y2345 y2348 y2543 s2622 s2640 _)).trans (bind_g fun y2644 => ?_)
    refine (cond_e (b := y2644) (st' := (S71_20 y2344 y2345 y2348 y2543 s2622 s2640)) ).trans (bif_g ?_ ?_)
    · refine (pre1 (law17_PlaceApart_fzx6 y2344 y2345 y2348 y2543 s2622 s2640 _)).trans ?_
      refine (ret_eq).trans ?_
      refine block_ret.trans ?_
      refine seqC_ret.trans ?_
      kernel_rfl
    · refine (skip_eq).trans ?_
      refine block_normal.trans ?_
      refine (seqC_normal (st' := (S71_20 y2344 y2345 y2348 y2543 s2622 s2640))).trans ?_
      refine (law17_PlaceApart_r29 y2344 y2345 y2348 y2543 s2622 s2640 _).trans ?_
      kernel_rfl
  · refine ((exit_eq (j := 6))).trans ?_
    refine seqC_exit.trans ?_
    kernel_rfl
theorem law17_PlaceApart_l28 : R71 C71.r.r.r.r.r.r.r.r.r.r.l.r.b.b.r.l.b.r.b (S71_19 y2344 y2345 y2348 y2543 s2622) q = Option.bind (iterN (law17_PlaceApart_l28_p y2345 y2348 s2622) LL (0 : Int)) (either (fun y2645 : Int => q (.exit 6) (S71_21 y2344 y2345 y2348 y2543 s2622 y2645)) (fun y2646 : Unit => q .ret S71_5)) :=
  Eq.trans (by kernel_rfl) (loop_iter2 (S := fun s2640 : Int => (S71_20 y2344 y2345 y2348 y2543 s2622 s2640)) (Y1 := fun y2645 : Int => ((.exit 6), (S71_21 y2344 y2345 y2348 y2543 s2622 y2645))) (Y2 := fun y2646 : Unit => (.ret, S71_5)) (fun s q => law17_PlaceApart_l28_b y2344 y2345 y2348 y2543 s2622 s q) (fun z => rfl) (fun z => rfl) LL (0 : Int))
theorem law17_PlaceApart_r26 : R71 C71.r.r.r.r.r.r.r.r.r.r.l.r.b.b.r.r (S71_18 y2344 y2345 y2348 y2543 s2622) q = q .normal ⟨[(1, rF 0), (3, rb y2344), (8, rO tsI2 y2348.1 8), (10, ri y2543.1), (15, ri (IntKind.wrap .i64 (s2622 + 1)))], [(tsGraph.leaves y2345)], [], 241⟩ := by kernel_rfl
def law17_PlaceApart_l25_p : Option (Int ⊕ (Int ⊕ Unit)) := (bif (decide (s2622 < (y2345.2.1.length : Int))) then (Option.bind (iterN (law17_PlaceApart_l28_p y2345 y2348 s2622) LL (0 : Int)) (either (fun y2645 : Int => (some (Sum.inl (IntKind.wrap .i64 (s2622 + 1))))) (fun y2646 : Unit => (some (Sum.inr (Sum.inr ())))))) else (some (Sum.inr (Sum.inl s2622))))
abbrev S71_22 (y2647 : Int) : St := ⟨[(1, rF 0), (3, rb y2344), (8, rO tsI2 y2348.1 8), (10, ri y2543.1), (15, ri y2647)], [(tsGraph.leaves y2345)], [], 241⟩
theorem law17_PlaceApart_l25_b : R71 C71.r.r.r.r.r.r.r.r.r.r.l.r.b.b (S71_18 y2344 y2345 y2348 y2543 s2622) (loopKont 1 q) = Option.bind (law17_PlaceApart_l25_p y2345 y2348 s2622) (either (fun y : Int => q .normal ⟨[(1, rF 0), (3, rb y2344), (8, rO tsI2 y2348.1 8), (10, ri y2543.1), (15, ri y)], [(tsGraph.leaves y2345)], [], 241⟩) (either (fun y2647 : Int => q (.exit 4) (S71_22 y2344 y2345 y2348 y2543 y2647)) (fun y2648 : Unit => q .ret S71_5))) := by
  refine .trans ?_ (bif_b (bind_b (either_b (fun y2645 => e3_0) (fun y2646 => e3_2))) e3_1)
  refine .trans seq_push ?_
  refine (pre1 (law17_PlaceApart_fzx5 y2344 y2345 y2348 y2543 s2622 _)).trans ?_
  refine (cond_e (b := (decide (s2622 < (y2345.2.1.length : Int)))) (st' := (S71_18 y2344 y2345 y2348 y2543 s2622)) ).trans (bif_g ?_ ?_)
  · refine (skip_eq).trans ?_
    refine (seqC_normal (st' := (S71_18 y2344 y2345 y2348 y2543 s2622))).trans ?_
    refine .trans seq_push ?_
    refine (block_push (id := 5)).trans ?_
    refine (pre1 (law17_PlaceApart_f28 y2344 y2345 y2348 y2543 s2622 _)).trans ?_
    refine (block_push (id := 6)).trans ?_
    refine (law17_PlaceApart_l28 y2344 y2345 y2348 y2543 s2622 _).trans (bind_g (either_g (fun y2645 => ?_) (fun y2646 => ?_)))
    · refine block_same.trans ?_
      refine block_normal.trans ?_
      refine (seqC_normal (st' := (S71_18 y2344 y2345 y2348 y2543 s2622))).trans ?_
      refine (law17_PlaceApart_r26 y2344 y2345 y2348 y2543 s2622 _).trans ?_
      kernel_rfl
    · refine block_ret.trans ?_
      refine block_ret.trans ?_
      refine seqC_ret.trans ?_
      kernel_rfl
  · refine ((exit_eq (j := 4))).trans ?_
    refine seqC_exit.trans ?_
    kernel_rfl
theorem law17_PlaceApart_l25 : R71 C71.r.r.r.r.r.r.r.r.r.r.l.r.b (S71_17 y2344 y2345 y2348 y2543) q = Option.bind (iterN (law17_PlaceApart_l25_p y2345 y2348) LL (0 : Int)) (either (fun y2647 : Int => q (.exit 4) (S71_22 y2344 y2345 y2348 y2543 y2647)) (fun y2648 : Unit => q .ret S71_5)) :=
  Eq.trans (by kernel_rfl) (loop_iter2 (S := fun s2622 : Int => (S71_18 y2344 y2345 y2348 y2543 s2622)) (Y1 := fun y2647 : Int => ((.exit 4), (S71_22 y2344 y2345 y2348 y2543 y2647))) (Y2 := fun y2648 : Unit => (.ret, S71_5)) (fun s q => law17_PlaceApart_l25_b y2344 y2345 y2348 y2543 s q) (fun z => rfl) (fun z => rfl) LL (0 : Int))
abbrev S71_23 : St := ⟨[(1, rF 0), (3, rb y2344), (8, rO tsI2 y2348.1 8), (10, ri y2543.1), (17, ri 0)], [(tsGraph.leaves y2345)], [], 241⟩
theorem law17_PlaceApart_f33 : P71 1 C71.r.r.r.r.r.r.r.r.r.r.r.l (S71_16 y2344 y2345 y2348 y2543) k = k (S71_23 y2344 y2345 y2348 y2543) := by kernel_rfl
abbrev S71_24 : St := ⟨[(1, rF 0), (3, rb y2344), (8, rO tsI2 y2348.1 8), (10, ri y2543.1), (17, ri s2660)], [(tsGraph.leaves y2345)], [], 241⟩
theorem law17_PlaceApart_fzx7 : P71 1 C71.r.r.r.r.r.r.r.r.r.r.r.l.r.b.b.l (S71_24 y2344 y2345 y2348 y2543 s2660) k = k ⟨[(1, rF 0), (3, rb y2344), (8, rO tsI2 y2348.1 8), (10, ri y2543.1), (17, ri s2660), (206, rb (decide (s2660 < (y2345.2.2.length : Int))))], [(tsGraph.leaves y2345)], [], 241⟩ := by kernel_rfl
def law17_PlaceApart_r35_p : Option Bool := (bif (decide ((0 : Int) ≤ s2660)) then (bif (decide (s2660 < (y2345.2.2.length : Int))) then (bif (decide ((0 : Int) ≤ (gt y2345.2.2 s2660 (0 : Int)))) then (bif (decide ((gt y2345.2.2 s2660 (0 : Int)) < (y2348.1.length : Int))) then (some (decide (((gt y2348.1 (gt y2345.2.2 s2660 (0 : Int)) dI2).2) < (y2345.2.1.length : Int)))) else none) else none) else none) else none)
theorem law17_PlaceApart_r35 : P71 1 C71.r.r.r.r.r.r.r.r.r.r.r.l.r.b.b.r.l.b (S71_24 y2344 y2345 y2348 y2543 s2660) k = Option.bind (law17_PlaceApart_r35_p y2345 y2348 s2660) (fun y2662 : Bool => k ⟨[(1, rF 0), (3, rb y2344), (8, rO tsI2 y2348.1 8), (10, ri y2543.1), (17, ri s2660), (221, rb y2662)], [(tsGraph.leaves y2345)], [], 241⟩) := .trans (by kernel_rfl) (bif_b (bif_b (bif_b (bif_b some_b none_b) none_b) none_b) none_b)
theorem law17_PlaceApart_fzx8 : P71 1 C71.r.r.r.r.r.r.r.r.r.r.r.l.r.b.b.r.l.b.r.t (S71_24 y2344 y2345 y2348 y2543 s2660) k = k S71_5 := by kernel_rfl
theorem law17_PlaceApart_r34 : R71 C71.r.r.r.r.r.r.r.r.r.r.r.l.r.b.b.r.r (S71_24 y2344 y2345 y2348 y2543 s2660) q = q .normal ⟨[(1, rF 0), (3, rb y2344), (8, rO tsI2 y2348.1 8), (10, ri y2543.1), (17, ri (IntKind.wrap .i64 (s2660 + 1)))], [(tsGraph.leaves y2345)], [], 241⟩ := by kernel_rfl
def law17_PlaceApart_l33_p : Option (Int ⊕ (Int ⊕ Unit)) := (bif (decide (s2660 < (y2345.2.2.length : Int))) then (Option.bind (law17_PlaceApart_r35_p y2345 y2348 s2660) (fun y2662 : Bool => (bif y2662 then (some (Sum.inr (Sum.inr ()))) else (some (Sum.inl (IntKind.wrap .i64 (s2660 + 1))))))) else (some (Sum.inr (Sum.inl s2660))))
abbrev S71_25 (y2663 : Int) : St := ⟨[(1, rF 0), (3, rb y2344), (8, rO tsI2 y2348.1 8), (10, ri y2543.1), (17, ri y2663)], [(tsGraph.leaves y2345)], [], 241⟩
theorem law17_PlaceApart_l33_b : R71 C71.r.r.r.r.r.r.r.r.r.r.r.l.r.b.b (S71_24 y2344 y2345 y2348 y2543 s2660) (loopKont 1 q) = Option.bind (law17_PlaceApart_l33_p y2345 y2348 s2660) (either (fun y : Int => q .normal ⟨[(1, rF 0), (3, rb y2344), (8, rO tsI2 y2348.1 8), (10, ri y2543.1), (17, ri y)], [(tsGraph.leaves y2345)], [], 241⟩) (either (fun y2663 : Int => q (.exit 8) (S71_25 y2344 y2345 y2348 y2543 y2663)) (fun y2664 : Unit => q .ret S71_5))) := by
  refine .trans ?_ (bif_b (bind_b fun y2662 => (bif_b e3_2 e3_0)) e3_1)
  refine .trans seq_push ?_
  refine (pre1 (law17_PlaceApart_fzx7 y2344 y2345 y2348 y2543 s2660 _)).trans ?_
  refine (cond_e (b := (decide (s2660 < (y2345.2.2.length : Int)))) (st' := (S71_24 y2344 y2345 y2348 y2543 s2660)) ).trans (bif_g ?_ ?_)
  · refine (skip_eq).trans ?_
    refine (seqC_normal (st' := (S71_24 y2344 y2345 y2348 y2543 s2660))).trans ?_
    refine .trans seq_push ?_
    refine (block_push (id := 9)).trans ?_
    refine (pre1 (law17_PlaceApart_r35 y2344 y2345 y2348 y2543 s2660 _)).trans (bind_g fun y2662 => ?_)
    refine (cond_e (b := y2662) (st' := (S71_24 y2344 y2345 y2348 y2543 s2660)) ).trans (bif_g ?_ ?_)
    · refine (pre1 (law17_PlaceApart_fzx8 y2344 y2345 y2348 y2543 s2660 _)).trans ?_
      refine (ret_eq).trans ?_
      refine block_ret.trans ?_
      refine seqC_ret.trans ?_
      kernel_rfl
    · refine (skip_eq).trans ?_
      refine block_normal.trans ?_
      refine (seqC_normal (st' := (S71_24 y2344 y2345 y2348 y2543 s2660))).trans ?_
      refine (law17_PlaceApart_r34 y2344 y2345 y2348 y2543 s2660 _).trans ?_
      kernel_rfl
  · refine ((exit_eq (j := 8))).trans ?_
    refine seqC_exit.trans ?_
    kernel_rfl
theorem law17_PlaceApart_l33 : R71 C71.r.r.r.r.r.r.r.r.r.r.r.l.r.b (S71_23 y2344 y2345 y2348 y2543) q = Option.bind (iterN (law17_PlaceApart_l33_p y2345 y2348) LL (0 : Int)) (either (fun y2663 : Int => q (.exit 8) (S71_25 y2344 y2345 y2348 y2543 y2663)) (fun y2664 : Unit => q .ret S71_5)) :=
  Eq.trans (by kernel_rfl) (loop_iter2 (S := fun s2660 : Int => (S71_24 y2344 y2345 y2348 y2543 s2660)) (Y1 := fun y2663 : Int => ((.exit 8), (S71_25 y2344 y2345 y2348 y2543 y2663))) (Y2 := fun y2664 : Unit => (.ret, S71_5)) (fun s q => law17_PlaceApart_l33_b y2344 y2345 y2348 y2543 s q) (fun z => rfl) (fun z => rfl) LL (0 : Int))
theorem law17_PlaceApart_r37 : P71 1 C71.r.r.r.r.r.r.r.r.r.r.r.r ⟨[(1, rF 0), (3, rb y2344), (10, ri y2543.1)], [(tsGraph.leaves y2345)], [], 241⟩ k = Option.bind (place_Total y2345) fun y2665 : (Int × Int) => k ⟨[(3, rb y2344), (10, ri y2543.1), (18, ri y2665.1), (19, ri y2665.2)], [[]], [], 241⟩ := by kernel_rfl
def law17_PlaceApart_r38_q (K : Bool → β) : β := (bif y2344 then (bif (y2665.2 == 0) then (bif (decide (y2665.1 ≤ y2543.1)) then (K (decide (y2665.1 ≤ 32768))) else (K false)) else (K false)) else (K false))
def law17_PlaceApart_r38_p : Bool := law17_PlaceApart_r38_q y2344 y2543 y2665 (fun y => y)
theorem law17_PlaceApart_r38_n (K : Bool → β) : law17_PlaceApart_r38_q y2344 y2543 y2665 K = K (law17_PlaceApart_r38_p y2344 y2543 y2665) := (bif_k K (bif_k K (bif_k K rfl rfl) rfl) rfl)
theorem law17_PlaceApart_r38 : P71 1 C71.r.r.r.r.r.r.r.r.r.r.r.r.r ⟨[(3, rb y2344), (10, ri y2543.1), (18, ri y2665.1), (19, ri y2665.2)], [[]], [], 241⟩ k = k ⟨[(2, rb (law17_PlaceApart_r38_p y2344 y2543 y2665))], [[]], [], 241⟩ := Eq.trans (by kernel_rfl) (law17_PlaceApart_r38_n y2344 y2543 y2665 (fun y2666 : Bool => k ⟨[(2, rb y2666)], [[]], [], 241⟩))
/-- quilt/quiltlaw17.PlaceApart -/
def law17_PlaceApart : Option Bool := (Option.bind law17_shown (fun y2344 : Bool => (Option.bind (law17_less g_) (fun y2345 : Graph => (Option.bind (ref03_Values y2345) (fun y2346 : ((List I4) × Int) => (Option.bind (place_Places y2345) (fun y2347 : ((List Int) × Int) => (Option.bind (place_Live y2345) (fun y2348 : ((List I2) × Int) => (bif (y2346.2 != 0) then (some (law17_PlaceApart_r7_p y2344 y2346 y2347 y2348)) else (bif (law17_PlaceApart_r8_p y2346 y2347 y2348) then (some false) else (Option.bind (iterN (law17_PlaceApart_l12_p y2346 y2347 y2348) LL ((0 : Int), (0 : Int))) (either (fun y2543 : (Int × Int) => (Option.bind (iterN (law17_PlaceApart_l25_p y2345 y2348) LL (0 : Int)) (either (fun y2647 : Int => (Option.bind (iterN (law17_PlaceApart_l33_p y2345 y2348) LL (0 : Int)) (either (fun y2663 : Int => (Option.bind (place_Total y2345) (fun y2665 : (Int × Int) => (some (law17_PlaceApart_r38_p y2344 y2543 y2665))))) (fun y2664 : Unit => (some false))))) (fun y2648 : Unit => (some false))))) (fun y2544 : Unit => (some false))))))))))))))))
theorem law17_PlaceApart_is : stepS E cp67 ce3 4 [rA tsGraph g_] = Option.bind (law17_PlaceApart g_) (fun y : Bool => some (rb y : R)) := by
  refine .trans ?_ (bind_b fun y2344 => (bind_b fun y2345 => (bind_b fun y2346 => (bind_b fun y2347 => (bind_b fun y2348 => (bif_b some_b (bif_b some_b (bind_b (either_b (fun y2543 => (bind_b (either_b (fun y2647 => (bind_b (either_b (fun y2663 => (bind_b fun y2665 => some_b)) (fun y2664 => some_b)))) (fun y2648 => some_b)))) (fun y2544 => some_b))))))))))
  refine (stepG_is (nt := 241) (regs := [(0, rA tsGraph g_)])).trans ?_
  refine (pre2 (law17_PlaceApart_r1 g_ _)).trans (bind_g fun y2344 => ?_)
  refine (pre1 (law17_PlaceApart_r2 g_ y2344 _)).trans (bind_g fun y2345 => ?_)
  refine (pre1 (law17_PlaceApart_r3 y2344 y2345 _)).trans (bind_g fun y2346 => ?_)
  refine (pre1 (law17_PlaceApart_r4 y2344 y2345 y2346 _)).trans (bind_g fun y2347 => ?_)
  refine (pre1 (law17_PlaceApart_r5 y2344 y2345 y2346 y2347 _)).trans (bind_g fun y2348 => ?_)
  refine .trans seq_push ?_
  refine (pre1 (law17_PlaceApart_f1000007 y2344 y2345 y2346 y2347 y2348 _)).trans ?_
  refine (cond_e (b := (y2346.2 != 0)) (st' := (S71_2 y2344 y2345 y2346 y2347 y2348)) ).trans (bif_g ?_ ?_)
  · refine (pre1 (law17_PlaceApart_r7 y2344 y2345 y2346 y2347 y2348 _)).trans ?_
    refine (ret_eq).trans ?_
    refine seqC_ret.trans ?_
    kernel_rfl
  · refine (skip_eq).trans ?_
    refine (seqC_normal (st' := (S71_3 y2344 y2345 y2346 y2347 y2348))).trans ?_
    refine .trans seq_push ?_
    refine (pre1 (law17_PlaceApart_r8 y2344 y2345 y2346 y2347 y2348 _)).trans ?_
    refine (cond_e (b := (law17_PlaceApart_r8_p y2346 y2347 y2348)) (st' := (S71_4 y2344 y2345 y2346 y2347 y2348)) ).trans (bif_g ?_ ?_)
    · refine (pre1 (law17_PlaceApart_fz y2344 y2345 y2346 y2347 y2348 _)).trans ?_
      refine (ret_eq).trans ?_
      refine seqC_ret.trans ?_
      kernel_rfl
    · refine (skip_eq).trans ?_
      refine (seqC_normal (st' := (S71_4 y2344 y2345 y2346 y2347 y2348))).trans ?_
      refine (pre1 (law17_PlaceApart_f11 y2344 y2345 y2346 y2347 y2348 _)).trans ?_
      refine .trans seq_push ?_
      refine (pre1 (law17_PlaceApart_f12 y2344 y2345 y2346 y2347 y2348 _)).trans ?_
      refine (block_push (id := 0)).trans ?_
      refine (law17_PlaceApart_l12 y2344 y2345 y2346 y2347 y2348 _).trans (bind_g (either_g (fun y2543 => ?_) (fun y2544 => ?_)))
      · refine block_same.trans ?_
        refine (seqC_normal (st' := (S71_16 y2344 y2345 y2348 y2543))).trans ?_
        refine .trans seq_push ?_
        refine (pre1 (law17_PlaceApart_f25 y2344 y2345 y2348 y2543 _)).trans ?_
        refine (block_push (id := 4)).trans ?_
        refine (law17_PlaceApart_l25 y2344 y2345 y2348 y2543 _).trans (bind_g (either_g (fun y2647 => ?_) (fun y2648 => ?_)))
        · refine block_same.trans ?_
          refine (seqC_normal (st' := (S71_16 y2344 y2345 y2348 y2543))).trans ?_
          refine .trans seq_push ?_
          refine (pre1 (law17_PlaceApart_f33 y2344 y2345 y2348 y2543 _)).trans ?_
          refine (block_push (id := 8)).trans ?_
          refine (law17_PlaceApart_l33 y2344 y2345 y2348 y2543 _).trans (bind_g (either_g (fun y2663 => ?_) (fun y2664 => ?_)))
          · refine block_same.trans ?_
            refine (seqC_normal (st' := ⟨[(1, rF 0), (3, rb y2344), (10, ri y2543.1)], [(tsGraph.leaves y2345)], [], 241⟩)).trans ?_
            refine (pre1 (law17_PlaceApart_r37 y2344 y2345 y2543 _)).trans (bind_g fun y2665 => ?_)
            refine (pre1 (law17_PlaceApart_r38 y2344 y2543 y2665 _)).trans ?_
            refine (ret_eq).trans ?_
            kernel_rfl
          · refine block_ret.trans ?_
            refine seqC_ret.trans ?_
            kernel_rfl
        · refine block_ret.trans ?_
          refine seqC_ret.trans ?_
          kernel_rfl
      · refine block_ret.trans ?_
        refine seqC_ret.trans ?_
        kernel_rfl
noncomputable def cp69 : CallP := withC cp67 4 [(.agg tsGraph)] (.one pB) (fun y : Bool => y) (fun x => law17_PlaceApart x.1)
theorem cp69_ok : PureOK E cp69 := conS eok cp67_ok ce3_ok fun x => Eq.mp (by kernel_rfl) (law17_PlaceApart_is x.1)
theorem law17_PlaceApart_walk (ht : law17_PlaceApart g_ = some true) (w : World) (vs : List Value) (hrd : ∀ γ : Gh, Free γ → rdRs w γ [argR true tsGraph g_] vs) : Calls E.P 4 vs.toArray w fun e w' => e = .returned (.bool true) ∧ Below w.heap.size w w' :=
  walk_true (E := E) (stepS_ok eok cp67_ok ce3_ok) (show stepS E cp67 ce3 4 [rA tsGraph g_] = some (.one (.g .bool true)) from by rw [law17_PlaceApart_is, ht]; rfl) w fun γ hγ => Eq.mp (by kernel_rfl) (hrd γ hγ)
end
end Go.V.P
