/- What functions compute. -/
import Derived.Test.YtaehdmelnmajnaaSp0
namespace Go.V.P
open Go.RowKit Go.V Go.Proofs
set_option linter.unusedVariables false
set_option maxRecDepth 100000
section
variable {α β : Type} (l_ : (List Op)) (y152 : Bool) (y153 : (List Int)) (s245 : (Int × (List Int) × (List Int))) (y263 : (Unit × (List Int))) (y265 : (List Int)) (y267 : (Int × (List Int))) (y269 : (Int × (List Int))) (y272 : (Int × (List Int))) (y275 : (Int × Int × (List Int) × (List Int))) (y278 : (Int × (List Int) × (List Int))) (k : St → Option α) (q : Kont α)
noncomputable abbrev C9 := codeOf E.P 7
noncomputable abbrev P9 := @preK α E 7 cp5 ce4
noncomputable abbrev R9 := @runCode α E 7 cp5 ce4
noncomputable abbrev Q9 := @seqC α E 7 cp5 ce4
theorem law10_SemaPlays_r1 : P9 2 C9 ⟨[(0, rl tsOp l_)], [], [], 124, 0⟩ k = Option.bind law10_shown fun y152 : Bool => k ⟨[(0, rl tsOp l_), (3, rb y152)], [], [], 124, 0⟩ := by kernel_rfl
abbrev S9_0 : St := ⟨[(0, rl tsOp l_), (3, rb y152), (4, rF 0)], [[.sem y153]], [], 124, 0⟩
theorem law10_SemaPlays_r2 : P9 1 C9.r.r ⟨[(0, rl tsOp l_), (3, rb y152)], [], [], 124, 0⟩ k = Option.bind semNew fun y153 : (List Int) => k (S9_0 l_ y152 y153) := by kernel_rfl
abbrev S9_1 : St := ⟨[(0, rl tsOp l_), (3, rb y152), (4, rF 0), (5, rF 1)], [[.sem y153], [dl (.one (.int .i64)) []]], [], 124, 0⟩
theorem law10_SemaPlays_f4 : P9 1 C9.r.r.r (S9_0 l_ y152 y153) k = k (S9_1 l_ y152 y153) := by kernel_rfl
def law10_SemaPlays_r4_q (K : Bool → β) : β := (bif (!y152) then (K true) else (K false))
def law10_SemaPlays_r4_p : Bool := law10_SemaPlays_r4_q y152 (fun y => y)
theorem law10_SemaPlays_r4_n (K : Bool → β) : law10_SemaPlays_r4_q y152 K = K (law10_SemaPlays_r4_p y152) := (bif_k K rfl rfl)
theorem law10_SemaPlays_r4 : P9 1 C9.r.r.r.r.l (S9_1 l_ y152 y153) k = k ⟨[(0, rl tsOp l_), (4, rF 0), (5, rF 1), (19, rb (law10_SemaPlays_r4_p y152))], [[.sem y153], [dl (.one (.int .i64)) []]], [], 124, 0⟩ := Eq.trans (by kernel_rfl) (law10_SemaPlays_r4_n y152 (fun y155 : Bool => k ⟨[(0, rl tsOp l_), (4, rF 0), (5, rF 1), (19, rb y155)], [[.sem y153], [dl (.one (.int .i64)) []]], [], 124, 0⟩))
abbrev S9_2 : St := ⟨[(0, rl tsOp l_), (4, rF 0), (5, rF 1)], [[.sem y153], [dl (.one (.int .i64)) []]], [], 124, 0⟩
theorem law10_SemaPlays_fz : P9 1 C9.r.r.r.r.l.r.t (S9_2 l_ y153) k = k ⟨[(2, rb false)], [[.sem y153], [dl (.one (.int .i64)) []]], [], 124, 0⟩ := by kernel_rfl
abbrev S9_3 : St := ⟨[(0, rl tsOp l_), (4, rF 0), (5, rF 1), (6, ri 0)], [[.sem y153], [dl (.one (.int .i64)) []]], [], 124, 0⟩
theorem law10_SemaPlays_f7 : P9 1 C9.r.r.r.r.r.l (S9_2 l_ y153) k = k (S9_3 l_ y153) := by kernel_rfl
def law10_SemaPlays_r7_q (K : Bool → β) : β := (bif (decide (s245.1 < (l_.length : Int))) then (K (decide (s245.1 < 200))) else (K false))
def law10_SemaPlays_r7_p : Bool := law10_SemaPlays_r7_q l_ s245 (fun y => y)
theorem law10_SemaPlays_r7_n (K : Bool → β) : law10_SemaPlays_r7_q l_ s245 K = K (law10_SemaPlays_r7_p l_ s245) := (bif_k K rfl rfl)
abbrev S9_4 : St := ⟨[(0, rl tsOp l_), (4, rF 0), (5, rF 1), (6, ri s245.1)], [[.sem s245.2.1], [dl (.one (.int .i64)) s245.2.2]], [], 124, 0⟩
theorem law10_SemaPlays_r7 : P9 1 C9.r.r.r.r.r.l.r.b.b.l (S9_4 l_ s245) k = k ⟨[(0, rl tsOp l_), (4, rF 0), (5, rF 1), (6, ri s245.1), (27, rb (law10_SemaPlays_r7_p l_ s245))], [[.sem s245.2.1], [dl (.one (.int .i64)) s245.2.2]], [], 124, 0⟩ := Eq.trans (by kernel_rfl) (law10_SemaPlays_r7_n l_ s245 (fun y247 : Bool => k ⟨[(0, rl tsOp l_), (4, rF 0), (5, rF 1), (6, ri s245.1), (27, rb y247)], [[.sem s245.2.1], [dl (.one (.int .i64)) s245.2.2]], [], 124, 0⟩))
theorem law10_SemaPlays_f1000010 : P9 1 C9.r.r.r.r.r.l.r.b.b.r.l.b.l (S9_4 l_ s245) k = k ⟨[(0, rl tsOp l_), (4, rF 0), (5, rF 1), (6, ri s245.1), (32, rb ((Int.tmod s245.1 (11 : Int)) == 10))], [[.sem s245.2.1], [dl (.one (.int .i64)) s245.2.2]], [], 124, 0⟩ := by kernel_rfl
abbrev S9_5 : St := ⟨[(0, rl tsOp l_), (4, rF 2), (5, rF 1), (6, ri s245.1), (7, rF 0)], [[.sem s245.2.1], [dl (.one (.int .i64)) s245.2.2], [.sem y263.2]], [], 124, 0⟩
theorem law10_SemaPlays_r11 : P9 2 C9.r.r.r.r.r.l.r.b.b.r.l.b.l.r.t (S9_4 l_ s245) k = Option.bind (sema_Sems_Clone s245.2.1) fun y263 : (Unit × (List Int)) => k (S9_5 l_ s245 y263) := by kernel_rfl
theorem law10_SemaPlays_f1000013 : P9 1 C9.r.r.r.r.r.l.r.b.b.r.l.b.l.r.t.r.r.l (S9_5 l_ s245 y263) k = k ⟨[(0, rl tsOp l_), (4, rF 2), (5, rF 1), (6, ri s245.1), (7, rF 0), (37, rb false)], [[.sem s245.2.1], [dl (.one (.int .i64)) s245.2.2], [.sem y263.2]], [], 124, 0⟩ := by kernel_rfl
theorem law10_SemaPlays_r14 : R9 C9.r.r.r.r.r.l.r.b.b.r.l.b.l.r.t.r.r.r (S9_5 l_ s245 y263) q = Option.bind (semSignal s245.2.1 (0 : Int)) fun y264 : (Int × (List Int)) => q .normal ⟨[(0, rl tsOp l_), (4, rF 2), (5, rF 1), (6, ri s245.1)], [[.sem y264.2], [dl (.one (.int .i64)) s245.2.2], [.sem y263.2]], [], 124, 0⟩ := by kernel_rfl
def law10_SemaPlays_j9_p : Option (List Int) := (bif ((Int.tmod s245.1 (11 : Int)) == 10) then (Option.bind (sema_Sems_Clone s245.2.1) (fun y263 : (Unit × (List Int)) => (Option.bind (semSignal s245.2.1 (0 : Int)) (fun y264 : (Int × (List Int)) => (some y263.2))))) else (some s245.2.1))
abbrev S9_6 : St := ⟨[(0, rl tsOp l_), (4, rF 0), (5, rF 1), (6, ri s245.1)], [[.sem y265], [dl (.one (.int .i64)) s245.2.2]], [], 124, 0⟩
theorem law10_SemaPlays_j9 : R9 C9.r.r.r.r.r.l.r.b.b.r.l.b.l (S9_4 l_ s245) (Q9 C9.r.r.r.r.r.l.r.b.b.r.l.b.r q) = Option.bind (law10_SemaPlays_j9_p s245) (fun y265 : (List Int) => R9 C9.r.r.r.r.r.l.r.b.b.r.l.b.r (S9_6 l_ s245 y265) q) := by
  refine .trans ?_ (bif_b (bind_b fun y263 => (bind_b fun y264 => some_b)) some_b)
  refine (pre1 (law10_SemaPlays_f1000010 l_ s245 _)).trans ?_
  refine (cond_e (b := ((Int.tmod s245.1 (11 : Int)) == 10)) (st' := (S9_4 l_ s245)) ).trans (bif_g ?_ ?_)
  · refine (pre2 (law10_SemaPlays_r11 l_ s245 _)).trans (bind_g fun y263 => ?_)
    refine .trans seq_push ?_
    refine (pre1 (law10_SemaPlays_f1000013 l_ s245 y263 _)).trans ?_
    refine (cond_f (st' := (S9_5 l_ s245 y263)) ).trans ?_
    refine (skip_eq).trans ?_
    refine (seqC_normal (st' := (S9_5 l_ s245 y263))).trans ?_
    refine (law10_SemaPlays_r14 l_ s245 y263 _).trans (bind_g fun y264 => ?_)
    refine (seqC_normal (st' := ⟨[(0, rl tsOp l_), (4, rF 0), (5, rF 1), (6, ri s245.1)], [[.sem y263.2], [dl (.one (.int .i64)) s245.2.2]], [], 124, 0⟩)).trans ?_
    kernel_rfl
  · refine (skip_eq).trans ?_
    refine (seqC_normal (st' := (S9_4 l_ s245))).trans ?_
    kernel_rfl
def law10_SemaPlays_r15_p : Option (Int × (List Int)) := (bif (decide ((0 : Int) ≤ s245.1)) then (bif (decide (s245.1 < (l_.length : Int))) then (Option.bind (semWait y265 ((gt l_ s245.1 dOp).1)) (fun y266 : (Int × (List Int)) => (some y266))) else none) else none)
abbrev S9_7 : St := ⟨[(0, rl tsOp l_), (4, rF 0), (5, rF 1), (6, ri s245.1), (8, ri y267.1)], [[.sem y267.2], [dl (.one (.int .i64)) s245.2.2]], [], 124, 0⟩
theorem law10_SemaPlays_r15 : P9 1 C9.r.r.r.r.r.l.r.b.b.r.l.b.r (S9_6 l_ s245 y265) k = Option.bind (law10_SemaPlays_r15_p l_ s245 y265) (fun y267 : (Int × (List Int)) => k (S9_7 l_ s245 y267)) := .trans (by kernel_rfl) (bif_b (bif_b (bind_b fun y266 => some_b) none_b) none_b)
def law10_SemaPlays_r16_p : Option (Int × (List Int)) := (bif (decide ((0 : Int) ≤ s245.1)) then (bif (decide (s245.1 < (l_.length : Int))) then (Option.bind (ref10_Sems_Wait ((gt l_ s245.1 dOp).1) s245.2.2) (fun y268 : (Int × (List Int)) => (some y268))) else none) else none)
abbrev S9_8 : St := ⟨[(0, rl tsOp l_), (4, rF 0), (5, rF 1), (6, ri s245.1), (8, ri y267.1), (9, ri y269.1)], [[.sem y267.2], [dl (.one (.int .i64)) y269.2]], [], 124, 0⟩
theorem law10_SemaPlays_r16 : P9 1 C9.r.r.r.r.r.l.r.b.b.r.l.b.r.r (S9_7 l_ s245 y267) k = Option.bind (law10_SemaPlays_r16_p l_ s245) (fun y269 : (Int × (List Int)) => k (S9_8 l_ s245 y267 y269)) := .trans (by kernel_rfl) (bif_b (bif_b (bind_b fun y268 => some_b) none_b) none_b)
def law10_SemaPlays_r17_p : Option Unit := (bif (decide ((0 : Int) ≤ s245.1)) then (bif (decide (s245.1 < (l_.length : Int))) then (some ()) else none) else none)
theorem law10_SemaPlays_r17 : P9 1 C9.r.r.r.r.r.l.r.b.b.r.l.b.r.r.r.l (S9_8 l_ s245 y267 y269) k = Option.bind (law10_SemaPlays_r17_p l_ s245) (fun y270 : Unit => k ⟨[(0, rl tsOp l_), (4, rF 0), (5, rF 1), (6, ri s245.1), (8, ri y267.1), (9, ri y269.1), (58, rb ((gt l_ s245.1 dOp).2))], [[.sem y267.2], [dl (.one (.int .i64)) y269.2]], [], 124, 0⟩) := .trans (by kernel_rfl) (bif_b (bif_b some_b none_b) none_b)
def law10_SemaPlays_r18_p : Option (Int × (List Int)) := (bif (decide ((0 : Int) ≤ s245.1)) then (bif (decide (s245.1 < (l_.length : Int))) then (Option.bind (semSignal y267.2 ((gt l_ s245.1 dOp).1)) (fun y271 : (Int × (List Int)) => (some y271))) else none) else none)
abbrev S9_9 : St := ⟨[(0, rl tsOp l_), (4, rF 0), (5, rF 1), (6, ri s245.1), (8, ri y272.1)], [[.sem y272.2], [dl (.one (.int .i64)) y269.2]], [], 124, 0⟩
theorem law10_SemaPlays_r18 : P9 1 C9.r.r.r.r.r.l.r.b.b.r.l.b.r.r.r.l.r.t (S9_8 l_ s245 y267 y269) k = Option.bind (law10_SemaPlays_r18_p l_ s245 y267) (fun y272 : (Int × (List Int)) => k (S9_9 l_ s245 y269 y272)) := .trans (by kernel_rfl) (bif_b (bif_b (bind_b fun y271 => some_b) none_b) none_b)
def law10_SemaPlays_r19_p : Option (Int × (List Int)) := (bif (decide ((0 : Int) ≤ s245.1)) then (bif (decide (s245.1 < (l_.length : Int))) then (Option.bind (ref10_Sems_Signal ((gt l_ s245.1 dOp).1) y269.2) (fun y273 : (Int × (List Int)) => (some y273))) else none) else none)
abbrev S9_10 (y274 : (Int × (List Int))) : St := ⟨[(0, rl tsOp l_), (4, rF 0), (5, rF 1), (6, ri s245.1), (8, ri y272.1), (9, ri y274.1)], [[.sem y272.2], [dl (.one (.int .i64)) y274.2]], [], 124, 0⟩
theorem law10_SemaPlays_r19 : R9 C9.r.r.r.r.r.l.r.b.b.r.l.b.r.r.r.l.r.t.r (S9_9 l_ s245 y269 y272) q = Option.bind (law10_SemaPlays_r19_p l_ s245 y269) (fun y274 : (Int × (List Int)) => q .normal (S9_10 l_ s245 y272 y274)) := .trans (by kernel_rfl) (bif_b (bif_b (bind_b fun y273 => some_b) none_b) none_b)
def law10_SemaPlays_j17_p : Option (Int × Int × (List Int) × (List Int)) := (Option.bind (law10_SemaPlays_r17_p l_ s245) (fun y270 : Unit => (bif (gt l_ s245.1 dOp).2 then (Option.bind (law10_SemaPlays_r18_p l_ s245 y267) (fun y272 : (Int × (List Int)) => (Option.bind (law10_SemaPlays_r19_p l_ s245 y269) (fun y274 : (Int × (List Int)) => (some (y272.1, y274.1, y272.2, y274.2)))))) else (some (y267.1, y269.1, y267.2, y269.2)))))
abbrev S9_11 : St := ⟨[(0, rl tsOp l_), (4, rF 0), (5, rF 1), (6, ri s245.1), (8, ri y275.1), (9, ri y275.2.1)], [[.sem y275.2.2.1], [dl (.one (.int .i64)) y275.2.2.2]], [], 124, 0⟩
theorem law10_SemaPlays_j17 : R9 C9.r.r.r.r.r.l.r.b.b.r.l.b.r.r.r.l (S9_8 l_ s245 y267 y269) (Q9 C9.r.r.r.r.r.l.r.b.b.r.l.b.r.r.r.r q) = Option.bind (law10_SemaPlays_j17_p l_ s245 y267 y269) (fun y275 : (Int × Int × (List Int) × (List Int)) => R9 C9.r.r.r.r.r.l.r.b.b.r.l.b.r.r.r.r (S9_11 l_ s245 y275) q) := by
  refine .trans ?_ (bind_b fun y270 => (bif_b (bind_b fun y272 => (bind_b fun y274 => some_b)) some_b))
  refine (pre1 (law10_SemaPlays_r17 l_ s245 y267 y269 _)).trans (bind_g fun y270 => ?_)
  refine (cond_e (b := (gt l_ s245.1 dOp).2) (st' := (S9_8 l_ s245 y267 y269)) ).trans (bif_g ?_ ?_)
  · refine (pre1 (law10_SemaPlays_r18 l_ s245 y267 y269 _)).trans (bind_g fun y272 => ?_)
    refine (law10_SemaPlays_r19 l_ s245 y269 y272 _).trans (bind_g fun y274 => ?_)
    refine (seqC_normal (st' := (S9_10 l_ s245 y272 y274))).trans ?_
    kernel_rfl
  · refine (skip_eq).trans ?_
    refine (seqC_normal (st' := (S9_8 l_ s245 y267 y269))).trans ?_
    kernel_rfl
def law10_SemaPlays_r20_p : Option Bool := (bif (y275.1 != y275.2.1) then (some true) else (bif (decide ((0 : Int) ≤ s245.1)) then (bif (decide (s245.1 < (l_.length : Int))) then (bif (decide ((0 : Int) ≤ s245.1)) then (bif (decide (s245.1 < (l_.length : Int))) then (Option.bind (ref10_Sems_Count y275.2.2.2 ((gt l_ s245.1 dOp).1)) (fun y276 : Int => (bif ((countV y275.2.2.1 ((gt l_ s245.1 dOp).1)) != y276) then (bif (decide ((0 : Int) ≤ s245.1)) then (bif (decide (s245.1 < (l_.length : Int))) then (bif (decide (((gt l_ s245.1 dOp).1) ≥ 0)) then (bif (decide ((0 : Int) ≤ s245.1)) then (bif (decide (s245.1 < (l_.length : Int))) then (some (decide (((gt l_ s245.1 dOp).1) < 8))) else none) else none) else (some false)) else none) else none) else (some false)))) else none) else none) else none) else none))
theorem law10_SemaPlays_r20 : P9 1 C9.r.r.r.r.r.l.r.b.b.r.l.b.r.r.r.r (S9_11 l_ s245 y275) k = Option.bind (law10_SemaPlays_r20_p l_ s245 y275) (fun y277 : Bool => k ⟨[(0, rl tsOp l_), (4, rF 0), (5, rF 1), (6, ri s245.1), (108, rb y277)], [[.sem y275.2.2.1], [dl (.one (.int .i64)) y275.2.2.2]], [], 124, 0⟩) := .trans (by kernel_rfl) (bif_b some_b (bif_b (bif_b (bif_b (bif_b (bind_b fun y276 => (bif_b (bif_b (bif_b (bif_b (bif_b (bif_b some_b none_b) none_b) some_b) none_b) none_b) some_b)) none_b) none_b) none_b) none_b))
abbrev S9_12 : St := ⟨[(0, rl tsOp l_), (4, rF 0), (5, rF 1), (6, ri s245.1)], [[.sem y275.2.2.1], [dl (.one (.int .i64)) y275.2.2.2]], [], 124, 0⟩
theorem law10_SemaPlays_fzx1 : P9 1 C9.r.r.r.r.r.l.r.b.b.r.l.b.r.r.r.r.r.t (S9_12 l_ s245 y275) k = k ⟨[(2, rb false)], [[.sem y275.2.2.1], [dl (.one (.int .i64)) y275.2.2.2]], [], 124, 0⟩ := by kernel_rfl
theorem law10_SemaPlays_r8 : R9 C9.r.r.r.r.r.l.r.b.b.r.r (S9_12 l_ s245 y275) q = q .normal ⟨[(0, rl tsOp l_), (4, rF 0), (5, rF 1), (6, ri (IntKind.wrap .i64 (s245.1 + 1)))], [[.sem y275.2.2.1], [dl (.one (.int .i64)) y275.2.2.2]], [], 124, 0⟩ := by kernel_rfl
def law10_SemaPlays_l7_p : Option ((Int × (List Int) × (List Int)) ⊕ ((Int × (List Int) × (List Int)) ⊕ ((List Int) × (List Int)))) := (bif (law10_SemaPlays_r7_p l_ s245) then (Option.bind (law10_SemaPlays_j9_p s245) (fun y265 : (List Int) => (Option.bind (law10_SemaPlays_r15_p l_ s245 y265) (fun y267 : (Int × (List Int)) => (Option.bind (law10_SemaPlays_r16_p l_ s245) (fun y269 : (Int × (List Int)) => (Option.bind (law10_SemaPlays_j17_p l_ s245 y267 y269) (fun y275 : (Int × Int × (List Int) × (List Int)) => (Option.bind (law10_SemaPlays_r20_p l_ s245 y275) (fun y277 : Bool => (bif y277 then (some (Sum.inr (Sum.inr y275.2.2))) else (some (Sum.inl ((IntKind.wrap .i64 (s245.1 + 1)), y275.2.2.1, y275.2.2.2)))))))))))))) else (some (Sum.inr (Sum.inl s245))))
abbrev S9_13 : St := ⟨[(0, rl tsOp l_), (4, rF 0), (5, rF 1), (6, ri y278.1)], [[.sem y278.2.1], [dl (.one (.int .i64)) y278.2.2]], [], 124, 0⟩
abbrev S9_14 (y279 : ((List Int) × (List Int))) : St := ⟨[(2, rb false)], [[.sem y279.1], [dl (.one (.int .i64)) y279.2]], [], 124, 0⟩
theorem law10_SemaPlays_l7_b : R9 C9.r.r.r.r.r.l.r.b.b (S9_4 l_ s245) (loopKont 2 q) = Option.bind (law10_SemaPlays_l7_p l_ s245) (either (fun y : (Int × (List Int) × (List Int)) => q .normal ⟨[(0, rl tsOp l_), (4, rF 0), (5, rF 1), (6, ri y.1)], [[.sem y.2.1], [dl (.one (.int .i64)) y.2.2]], [], 124, 0⟩) (either (fun y278 : (Int × (List Int) × (List Int)) => q (.exit 0) (S9_13 l_ y278)) (fun y279 : ((List Int) × (List Int)) => q .ret (S9_14 y279)))) := by
  refine .trans ?_ (bif_b (bind_b fun y265 => (bind_b fun y267 => (bind_b fun y269 => (bind_b fun y275 => (bind_b fun y277 => (bif_b e3_2 e3_0)))))) e3_1)
  refine .trans seq_push ?_
  refine (pre1 (law10_SemaPlays_r7 l_ s245 _)).trans ?_
  refine (cond_e (b := (law10_SemaPlays_r7_p l_ s245)) (st' := (S9_4 l_ s245)) ).trans (bif_g ?_ ?_)
  · refine (skip_eq).trans ?_
    refine (seqC_normal (st' := (S9_4 l_ s245))).trans ?_
    refine .trans seq_push ?_
    refine (block_push (id := 1)).trans ?_
    refine .trans seq_push ?_
    refine (law10_SemaPlays_j9 l_ s245 _).trans (bind_g fun y265 => ?_)
    refine (pre1 (law10_SemaPlays_r15 l_ s245 y265 _)).trans (bind_g fun y267 => ?_)
    refine (pre1 (law10_SemaPlays_r16 l_ s245 y267 _)).trans (bind_g fun y269 => ?_)
    refine .trans seq_push ?_
    refine (law10_SemaPlays_j17 l_ s245 y267 y269 _).trans (bind_g fun y275 => ?_)
    refine (pre1 (law10_SemaPlays_r20 l_ s245 y275 _)).trans (bind_g fun y277 => ?_)
    refine (cond_e (b := y277) (st' := (S9_12 l_ s245 y275)) ).trans (bif_g ?_ ?_)
    · refine (pre1 (law10_SemaPlays_fzx1 l_ s245 y275 _)).trans ?_
      refine (ret_eq).trans ?_
      refine block_ret.trans ?_
      refine seqC_ret.trans ?_
      kernel_rfl
    · refine (skip_eq).trans ?_
      refine block_normal.trans ?_
      refine (seqC_normal (st' := (S9_12 l_ s245 y275))).trans ?_
      refine (law10_SemaPlays_r8 l_ s245 y275 _).trans ?_
      kernel_rfl
  · refine ((exit_eq (j := 0))).trans ?_
    refine seqC_exit.trans ?_
    kernel_rfl
theorem law10_SemaPlays_l7 : R9 C9.r.r.r.r.r.l.r.b (S9_3 l_ y153) q = Option.bind (iterN (law10_SemaPlays_l7_p l_) LL ((0 : Int), y153, [])) (either (fun y278 : (Int × (List Int) × (List Int)) => q (.exit 0) (S9_13 l_ y278)) (fun y279 : ((List Int) × (List Int)) => q .ret (S9_14 y279))) :=
  Eq.trans (by kernel_rfl) (loop_iter2 (S := fun s245 : (Int × (List Int) × (List Int)) => (S9_4 l_ s245)) (Y1 := fun y278 : (Int × (List Int) × (List Int)) => ((.exit 0), (S9_13 l_ y278))) (Y2 := fun y279 : ((List Int) × (List Int)) => (.ret, (S9_14 y279))) (fun s q => law10_SemaPlays_l7_b l_ s q) (fun z => rfl) (fun z => rfl) LL ((0 : Int), y153, []))
def law10_SemaPlays_r22_p : Option Bool := (Option.bind (semAll y278.2.1) (fun y280 : (List Int) => (Option.bind (ref10_Sems_All y278.2.2) (fun y317 : (List Int) => (Option.bind (ref03_Ints y280 y317) (fun y335 : Bool => (bif y335 then (Option.bind (semCount y278.2.1 (-1 : Int)) (fun y336 : Int => (bif (y336 == 0) then (Option.bind (semCount y278.2.1 (8 : Int)) (fun y337 : Int => (some (y337 == 0)))) else (some false)))) else (some false))))))))
abbrev S9_15 : St := ⟨[(4, rF 0), (5, rF 1)], [[.sem y278.2.1], [dl (.one (.int .i64)) y278.2.2]], [], 124, 0⟩
theorem law10_SemaPlays_r22 : P9 1 C9.r.r.r.r.r.r (S9_15 y278) k = Option.bind (law10_SemaPlays_r22_p y278) (fun y338 : Bool => k ⟨[(2, rb y338)], [[.sem y278.2.1], [dl (.one (.int .i64)) y278.2.2]], [], 124, 0⟩) := .trans (by kernel_rfl) (bind_b fun y280 => (bind_b fun y317 => (bind_b fun y335 => (bif_b (bind_b fun y336 => (bif_b (bind_b fun y337 => some_b) some_b)) some_b))))
/-- quilt/quiltlaw10.SemaPlays -/
def law10_SemaPlays : Option Bool := (Option.bind law10_shown (fun y152 : Bool => (Option.bind semNew (fun y153 : (List Int) => (bif (law10_SemaPlays_r4_p y152) then (some false) else (Option.bind (iterN (law10_SemaPlays_l7_p l_) LL ((0 : Int), y153, [])) (either (fun y278 : (Int × (List Int) × (List Int)) => (Option.bind (law10_SemaPlays_r22_p y278) (fun y338 : Bool => (some y338)))) (fun y279 : ((List Int) × (List Int)) => (some false)))))))))
theorem law10_SemaPlays_is : stepS E cp5 ce4 7 [rl tsOp l_] = Option.bind (law10_SemaPlays l_) (fun y : Bool => some (rb y : R)) := by
  refine .trans ?_ (bind_b fun y152 => (bind_b fun y153 => (bif_b some_b (bind_b (either_b (fun y278 => (bind_b fun y338 => some_b)) (fun y279 => some_b))))))
  refine (stepG_is (nt := 124) (regs := [(0, rl tsOp l_)])).trans ?_
  refine (pre2 (law10_SemaPlays_r1 l_ _)).trans (bind_g fun y152 => ?_)
  refine (pre1 (law10_SemaPlays_r2 l_ y152 _)).trans (bind_g fun y153 => ?_)
  refine (pre1 (law10_SemaPlays_f4 l_ y152 y153 _)).trans ?_
  refine .trans seq_push ?_
  refine (pre1 (law10_SemaPlays_r4 l_ y152 y153 _)).trans ?_
  refine (cond_e (b := (law10_SemaPlays_r4_p y152)) (st' := (S9_2 l_ y153)) ).trans (bif_g ?_ ?_)
  · refine (pre1 (law10_SemaPlays_fz l_ y153 _)).trans ?_
    refine (ret_eq).trans ?_
    refine seqC_ret.trans ?_
    kernel_rfl
  · refine (skip_eq).trans ?_
    refine (seqC_normal (st' := (S9_2 l_ y153))).trans ?_
    refine .trans seq_push ?_
    refine (pre1 (law10_SemaPlays_f7 l_ y153 _)).trans ?_
    refine (block_push (id := 0)).trans ?_
    refine (law10_SemaPlays_l7 l_ y153 _).trans (bind_g (either_g (fun y278 => ?_) (fun y279 => ?_)))
    · refine block_same.trans ?_
      refine (seqC_normal (st' := (S9_15 y278))).trans ?_
      refine (pre1 (law10_SemaPlays_r22 y278 _)).trans (bind_g fun y338 => ?_)
      refine (ret_eq).trans ?_
      kernel_rfl
    · refine block_ret.trans ?_
      refine seqC_ret.trans ?_
      kernel_rfl
noncomputable def cp6 : CallP := withC cp5 7 [(pL tsOp)] (.one pB) (fun y : Bool => y) (fun x => law10_SemaPlays x.1)
theorem cp6_ok : PureOK E cp6 := conS eok cp5_ok ce4_ok fun x => Eq.mp (by kernel_rfl) (law10_SemaPlays_is x.1)
theorem law10_SemaPlays_walk (ht : law10_SemaPlays l_ = some true) (w : World) (vs : List Value) (hrd : ∀ γ : Gh, Free γ → rdRs w γ [argR false (.one (.sl tsOp)) l_] vs) : Calls E.P 7 vs.toArray w fun e w' => e = .returned (.bool true) ∧ Below w.heap.size w w' :=
  walk_true (E := E) (stepS_ok eok cp5_ok ce4_ok) (show stepS E cp5 ce4 7 [rl tsOp l_] = some (.one (.g .bool true)) from by rw [law10_SemaPlays_is, ht]; rfl) w fun γ hγ => Eq.mp (by kernel_rfl) (hrd γ hγ)
end
end Go.V.P
