/- What functions compute. -/
import Derived.Test.YtokpndlkheofjaaKe6
namespace Go.V.P
open Go.RowKit Go.V Go.Proofs
set_option linter.unusedVariables false
set_option maxRecDepth 100000
section
variable {α : Type} (n_ : Node) (in_ : (List I4)) (data : A3) (y247 : (I4 × Int)) (s264 : (Int × Int × (List Int) × Int × (List Int))) (y266 : (Int × (List Int) × Int × (List Int))) (y267 : (Int × Int × (List Int) × Int × (List Int))) (s1311 : ((List Int) × Int)) (y1314 : ((List Int) × Int)) (y1316 : ((List Int) × Int)) (k : St → Option α) (q : Kont α)
noncomputable abbrev C67 := codeOf E.P 19
noncomputable abbrev P67 := @preK α E 19 cp63 ce4
noncomputable abbrev R67 := @runCode α E 19 cp63 ce4
abbrev S67_0 : St := ⟨[(1, rl tsI4 in_), (3, rC tsNode n_), (5, rC tsA3 data), (8, rF 0), (9, ri y247.2)], [(tsI4.leaves y247.1)], [], 65⟩
theorem kern_All_r1 : P67 2 C67 ⟨[(0, rA tsNode n_), (1, rl tsI4 in_), (2, rA tsA3 data)], [], [], 65⟩ k = Option.bind (graph_Value n_ in_) fun y247 : (I4 × Int) => k (S67_0 n_ in_ data y247) := by kernel_rfl
theorem kern_All_f1000003 : P67 1 C67.r.r.l (S67_0 n_ in_ data y247) k = k ⟨[(1, rl tsI4 in_), (3, rC tsNode n_), (5, rC tsA3 data), (8, rF 0), (9, ri y247.2), (23, rb (y247.2 != 0))], [(tsI4.leaves y247.1)], [], 65⟩ := by kernel_rfl
theorem kern_All_fz : P67 1 C67.r.r.l.r.t (S67_0 n_ in_ data y247) k = k ⟨[(6, .one (.ow (.one (.int .i8)) [] (.v 6))), (7, ri y247.2)], [[]], [], 65⟩ := by kernel_rfl
abbrev S67_1 : St := ⟨[(1, rl tsI4 in_), (3, rC tsNode n_), (5, rC tsA3 data), (8, rF 0)], [(tsI4.leaves y247.1)], [], 65⟩
abbrev S67_2 : St := ⟨[(1, rl tsI4 in_), (3, rC tsNode n_), (5, rC tsA3 data), (8, rF 0), (10, rF 1)], [(tsI4.leaves y247.1), [di 0, di 0, dl (.one (.int .i8)) [], di 0, di 0, dl (.one (.int .i8)) []]], [], 65⟩
theorem kern_All_f5 : P67 1 C67.r.r.r (S67_1 n_ in_ data y247) k = k (S67_2 n_ in_ data y247) := by kernel_rfl
abbrev S67_3 : St := ⟨[(1, rl tsI4 in_), (3, rC tsNode n_), (5, rC tsA3 data), (8, rF 0), (10, rF 1), (26, ri (in_.length : Int)), (27, ri 0)], [(tsI4.leaves y247.1), [di 0, di 0, dl (.one (.int .i8)) [], di 0, di 0, dl (.one (.int .i8)) []]], [], 65⟩
theorem kern_All_f6 : P67 1 C67.r.r.r.r.l (S67_2 n_ in_ data y247) k = k (S67_3 n_ in_ data y247) := by kernel_rfl
abbrev S67_4 : St := ⟨[(1, rl tsI4 in_), (3, rC tsNode n_), (5, rC tsA3 data), (8, rF 0), (10, rF 1), (26, ri (in_.length : Int)), (27, ri s264.1)], [(tsI4.leaves y247.1), [di 0, di s264.2.1, dl (.one (.int .i8)) s264.2.2.1, di 0, di s264.2.2.2.1, dl (.one (.int .i8)) s264.2.2.2.2]], [], 65⟩
theorem kern_All_fzx1 : P67 1 C67.r.r.r.r.l.r.b.b (S67_4 n_ in_ data y247 s264) k = k ⟨[(1, rl tsI4 in_), (3, rC tsNode n_), (5, rC tsA3 data), (8, rF 0), (10, rF 1), (26, ri (in_.length : Int)), (27, ri s264.1), (28, rb (decide (s264.1 < (in_.length : Int))))], [(tsI4.leaves y247.1), [di 0, di s264.2.1, dl (.one (.int .i8)) s264.2.2.1, di 0, di s264.2.2.2.1, dl (.one (.int .i8)) s264.2.2.2.2]], [], 65⟩ := by kernel_rfl
abbrev S67_5 : St := ⟨[(1, rl tsI4 in_), (3, rC tsNode n_), (5, rC tsA3 data), (8, rF 0), (10, rF 1), (11, ri s264.1), (26, ri (in_.length : Int)), (27, ri s264.1)], [(tsI4.leaves y247.1), [di 0, di s264.2.1, dl (.one (.int .i8)) s264.2.2.1, di 0, di s264.2.2.2.1, dl (.one (.int .i8)) s264.2.2.2.2]], [], 65⟩
theorem kern_All_f8 : P67 1 C67.r.r.r.r.l.r.b.b.r.r.l.b (S67_4 n_ in_ data y247 s264) k = k (S67_5 n_ in_ data y247 s264) := by kernel_rfl
def kern_All_r8_p : Option (Int × (List Int) × Int × (List Int)) := (bif (decide ((0 : Int) ≤ s264.1)) then (bif (decide (s264.1 < (in_.length : Int))) then (bif (s264.1 == 0) then (bif (s264.1 == 0) then (some ((gt in_ s264.1 dI4).1, data.1, s264.2.2.2.1, s264.2.2.2.2)) else (bif (s264.1 == 1) then (some (s264.2.1, s264.2.2.1, (gt in_ s264.1 dI4).1, data.1)) else none)) else (bif (s264.1 == 1) then (bif (s264.1 == 0) then (some ((gt in_ s264.1 dI4).1, data.2, s264.2.2.2.1, s264.2.2.2.2)) else (bif (s264.1 == 1) then (some (s264.2.1, s264.2.2.1, (gt in_ s264.1 dI4).1, data.2)) else none)) else none)) else none) else none)
abbrev S67_6 : St := ⟨[(1, rl tsI4 in_), (3, rC tsNode n_), (5, rC tsA3 data), (8, rF 0), (10, rF 1), (26, ri (in_.length : Int)), (27, ri s264.1)], [(tsI4.leaves y247.1), [di 0, di y266.1, dl (.one (.int .i8)) y266.2.1, di 0, di y266.2.2.1, dl (.one (.int .i8)) y266.2.2.2]], [], 65⟩
theorem kern_All_r8 : R67 C67.r.r.r.r.l.r.b.b.r.r.l.b.r (S67_5 n_ in_ data y247 s264) q = Option.bind (kern_All_r8_p in_ data s264) (fun y266 : (Int × (List Int) × Int × (List Int)) => q .normal (S67_6 n_ in_ data y247 s264 y266)) := .trans (by kernel_rfl) (bif_b (bif_b (bif_b (bif_b some_b (bif_b some_b none_b)) (bif_b (bif_b some_b (bif_b some_b none_b)) none_b)) none_b) none_b)
theorem kern_All_r9 : R67 C67.r.r.r.r.l.r.b.b.r.r.r (S67_6 n_ in_ data y247 s264 y266) q = q .normal ⟨[(1, rl tsI4 in_), (3, rC tsNode n_), (5, rC tsA3 data), (8, rF 0), (10, rF 1), (26, ri (in_.length : Int)), (27, ri (IntKind.wrap .i64 (s264.1 + 1)))], [(tsI4.leaves y247.1), [di 0, di y266.1, dl (.one (.int .i8)) y266.2.1, di 0, di y266.2.2.1, dl (.one (.int .i8)) y266.2.2.2]], [], 65⟩ := by kernel_rfl
def kern_All_l6_p : Option ((Int × Int × (List Int) × Int × (List Int)) ⊕ (Int × Int × (List Int) × Int × (List Int))) := (bif (decide (s264.1 < (in_.length : Int))) then (Option.bind (kern_All_r8_p in_ data s264) (fun y266 : (Int × (List Int) × Int × (List Int)) => (some (Sum.inl ((IntKind.wrap .i64 (s264.1 + 1)), y266.1, y266.2.1, y266.2.2.1, y266.2.2.2))))) else (some (Sum.inr s264)))
abbrev S67_7 : St := ⟨[(1, rl tsI4 in_), (3, rC tsNode n_), (5, rC tsA3 data), (8, rF 0), (10, rF 1), (26, ri (in_.length : Int)), (27, ri y267.1)], [(tsI4.leaves y247.1), [di 0, di y267.2.1, dl (.one (.int .i8)) y267.2.2.1, di 0, di y267.2.2.2.1, dl (.one (.int .i8)) y267.2.2.2.2]], [], 65⟩
theorem kern_All_l6_b : R67 C67.r.r.r.r.l.r.b.b (S67_4 n_ in_ data y247 s264) (loopKont 2 q) = Option.bind (kern_All_l6_p in_ data s264) (either (fun y : (Int × Int × (List Int) × Int × (List Int)) => q .normal ⟨[(1, rl tsI4 in_), (3, rC tsNode n_), (5, rC tsA3 data), (8, rF 0), (10, rF 1), (26, ri (in_.length : Int)), (27, ri y.1)], [(tsI4.leaves y247.1), [di 0, di y.2.1, dl (.one (.int .i8)) y.2.2.1, di 0, di y.2.2.2.1, dl (.one (.int .i8)) y.2.2.2.2]], [], 65⟩) (fun y267 : (Int × Int × (List Int) × Int × (List Int)) => q (.exit 0) (S67_7 n_ in_ data y247 y267))) := by
  refine .trans ?_ (bif_b (bind_b fun y266 => e2_0) e2_1)
  refine (pre1 (kern_All_fzx1 n_ in_ data y247 s264 _)).trans ?_
  refine .trans seq_push ?_
  refine (cond_e (b := (decide (s264.1 < (in_.length : Int)))) (st' := (S67_4 n_ in_ data y247 s264)) ).trans (bif_g ?_ ?_)
  · refine (skip_eq).trans ?_
    refine (seqC_normal (st' := (S67_4 n_ in_ data y247 s264))).trans ?_
    refine .trans seq_push ?_
    refine (block_push (id := 1)).trans ?_
    refine (pre1 (kern_All_f8 n_ in_ data y247 s264 _)).trans ?_
    refine (kern_All_r8 n_ in_ data y247 s264 _).trans (bind_g fun y266 => ?_)
    refine block_normal.trans ?_
    refine (seqC_normal (st' := (S67_6 n_ in_ data y247 s264 y266))).trans ?_
    refine (kern_All_r9 n_ in_ data y247 s264 y266 _).trans ?_
    kernel_rfl
  · refine ((exit_eq (j := 0))).trans ?_
    refine seqC_exit.trans ?_
    kernel_rfl
theorem kern_All_l6 : R67 C67.r.r.r.r.l.r.b (S67_3 n_ in_ data y247) q = Option.bind (iterN (kern_All_l6_p in_ data) LL ((0 : Int), (0 : Int), [], (0 : Int), [])) (fun y267 : (Int × Int × (List Int) × Int × (List Int)) => q (.exit 0) (S67_7 n_ in_ data y247 y267)) :=
  Eq.trans (by kernel_rfl) (loop_iter1 (S := fun s264 : (Int × Int × (List Int) × Int × (List Int)) => (S67_4 n_ in_ data y247 s264)) (Y1 := fun y267 : (Int × Int × (List Int) × Int × (List Int)) => ((.exit 0), (S67_7 n_ in_ data y247 y267))) (fun s q => kern_All_l6_b n_ in_ data y247 s q) (fun z => rfl) LL ((0 : Int), (0 : Int), [], (0 : Int), []))
abbrev S67_8 : St := ⟨[(1, rl tsI4 in_), (3, rC tsNode n_), (8, rF 0), (10, rF 1)], [(tsI4.leaves y247.1), [di 0, di y267.2.1, dl (.one (.int .i8)) y267.2.2.1, di 0, di y267.2.2.2.1, dl (.one (.int .i8)) y267.2.2.2.2]], [], 65⟩
abbrev S67_9 : St := ⟨[(1, rl tsI4 in_), (3, rC tsNode n_), (8, rF 0), (10, rF 1), (12, .one (.ow (.one (.int .i8)) [] (.v 12)))], [(tsI4.leaves y247.1), [di 0, di y267.2.1, dl (.one (.int .i8)) y267.2.2.1, di 0, di y267.2.2.2.1, dl (.one (.int .i8)) y267.2.2.2.2]], [], 65⟩
theorem kern_All_f11 : P67 1 C67.r.r.r.r.r (S67_8 n_ in_ y247 y267) k = k (S67_9 n_ in_ y247 y267) := by kernel_rfl
abbrev S67_10 : St := ⟨[(1, rl tsI4 in_), (3, rC tsNode n_), (10, rF 1), (12, .one (.ow (.one (.int .i8)) [] (.v 12))), (45, ri y247.1.1), (46, ri 0)], [[], [di 0, di y267.2.1, dl (.one (.int .i8)) y267.2.2.1, di 0, di y267.2.2.2.1, dl (.one (.int .i8)) y267.2.2.2.2]], [], 65⟩
theorem kern_All_f12 : P67 1 C67.r.r.r.r.r.r.l (S67_9 n_ in_ y247 y267) k = k (S67_10 n_ in_ y247 y267) := by kernel_rfl
abbrev S67_11 : St := ⟨[(1, rl tsI4 in_), (3, rC tsNode n_), (10, rF 1), (12, .one (.ow (.one (.int .i8)) s1311.1 (.v 12))), (45, ri y247.1.1), (46, ri s1311.2)], [[], [di 0, di y267.2.1, dl (.one (.int .i8)) y267.2.2.1, di 0, di y267.2.2.2.1, dl (.one (.int .i8)) y267.2.2.2.2]], [], 65⟩
theorem kern_All_fzx2 : P67 1 C67.r.r.r.r.r.r.l.r.b.b (S67_11 n_ in_ y247 y267 s1311) k = k ⟨[(1, rl tsI4 in_), (3, rC tsNode n_), (10, rF 1), (12, .one (.ow (.one (.int .i8)) s1311.1 (.v 12))), (45, ri y247.1.1), (46, ri s1311.2), (47, rb (decide (s1311.2 < y247.1.1)))], [[], [di 0, di y267.2.1, dl (.one (.int .i8)) y267.2.2.1, di 0, di y267.2.2.2.1, dl (.one (.int .i8)) y267.2.2.2.2]], [], 65⟩ := by kernel_rfl
abbrev S67_12 : St := ⟨[(1, rl tsI4 in_), (3, rC tsNode n_), (10, rF 1), (12, .one (.ow (.one (.int .i8)) s1311.1 (.v 12))), (14, .one (.ow (.one (.int .i8)) y1314.1 (.v 14))), (15, ri y1314.2), (45, ri y247.1.1), (46, ri s1311.2)], [[], [di 0, di y267.2.1, dl (.one (.int .i8)) y267.2.2.1, di 0, di y267.2.2.2.1, dl (.one (.int .i8)) y267.2.2.2.2]], [], 65⟩
theorem kern_All_r14 : P67 2 C67.r.r.r.r.r.r.l.r.b.b.r.r.l.b (S67_11 n_ in_ y247 y267 s1311) k = Option.bind (kern_Row n_ in_ ((0 : Int), y267.2.1, y267.2.2.1, (0 : Int), y267.2.2.2.1, y267.2.2.2.2) s1311.2) fun y1314 : ((List Int) × Int) => k (S67_12 n_ in_ y247 y267 s1311 y1314) := by kernel_rfl
theorem kern_All_f1000016 : P67 1 C67.r.r.r.r.r.r.l.r.b.b.r.r.l.b.r.r.l (S67_12 n_ in_ y247 y267 s1311 y1314) k = k ⟨[(1, rl tsI4 in_), (3, rC tsNode n_), (10, rF 1), (12, .one (.ow (.one (.int .i8)) s1311.1 (.v 12))), (14, .one (.ow (.one (.int .i8)) y1314.1 (.v 14))), (15, ri y1314.2), (45, ri y247.1.1), (46, ri s1311.2), (58, rb (y1314.2 != 0))], [[], [di 0, di y267.2.1, dl (.one (.int .i8)) y267.2.2.1, di 0, di y267.2.2.2.1, dl (.one (.int .i8)) y267.2.2.2.2]], [], 65⟩ := by kernel_rfl
theorem kern_All_fzx3 : P67 1 C67.r.r.r.r.r.r.l.r.b.b.r.r.l.b.r.r.l.r.t (S67_12 n_ in_ y247 y267 s1311 y1314) k = k ⟨[(6, .one (.ow (.one (.int .i8)) [] (.v 6))), (7, ri y1314.2)], [[], []], [], 65⟩ := by kernel_rfl
def kern_All_r17_p : Option Unit := (bif (decide (s1311.1.length + y1314.1.length ≤ maxL)) then (some ()) else none)
abbrev S67_13 : St := ⟨[(1, rl tsI4 in_), (3, rC tsNode n_), (10, rF 1), (12, .one (.ow (.one (.int .i8)) s1311.1 (.v 12))), (14, .one (.ow (.one (.int .i8)) y1314.1 (.v 14))), (45, ri y247.1.1), (46, ri s1311.2)], [[], [di 0, di y267.2.1, dl (.one (.int .i8)) y267.2.2.1, di 0, di y267.2.2.2.1, dl (.one (.int .i8)) y267.2.2.2.2]], [], 65⟩
abbrev S67_14 : St := ⟨[(1, rl tsI4 in_), (3, rC tsNode n_), (10, rF 1), (12, .one (.ow (.one (.int .i8)) (s1311.1 ++ y1314.1) (.v 12))), (45, ri y247.1.1), (46, ri s1311.2)], [[], [di 0, di y267.2.1, dl (.one (.int .i8)) y267.2.2.1, di 0, di y267.2.2.2.1, dl (.one (.int .i8)) y267.2.2.2.2]], [], 65⟩
theorem kern_All_r17 : R67 C67.r.r.r.r.r.r.l.r.b.b.r.r.l.b.r.r.r (S67_13 n_ in_ y247 y267 s1311 y1314) q = Option.bind (kern_All_r17_p s1311 y1314) (fun y1315 : Unit => q .normal (S67_14 n_ in_ y247 y267 s1311 y1314)) := .trans (by kernel_rfl) (bif_b some_b none_b)
theorem kern_All_r18 : R67 C67.r.r.r.r.r.r.l.r.b.b.r.r.r (S67_14 n_ in_ y247 y267 s1311 y1314) q = q .normal ⟨[(1, rl tsI4 in_), (3, rC tsNode n_), (10, rF 1), (12, .one (.ow (.one (.int .i8)) (s1311.1 ++ y1314.1) (.v 12))), (45, ri y247.1.1), (46, ri (IntKind.wrap .i64 (s1311.2 + 1)))], [[], [di 0, di y267.2.1, dl (.one (.int .i8)) y267.2.2.1, di 0, di y267.2.2.2.1, dl (.one (.int .i8)) y267.2.2.2.2]], [], 65⟩ := by kernel_rfl
def kern_All_l12_p : Option (((List Int) × Int) ⊕ (((List Int) × Int) ⊕ Int)) := (bif (decide (s1311.2 < y247.1.1)) then (Option.bind (kern_Row n_ in_ ((0 : Int), y267.2.1, y267.2.2.1, (0 : Int), y267.2.2.2.1, y267.2.2.2.2) s1311.2) (fun y1314 : ((List Int) × Int) => (bif (y1314.2 != 0) then (some (Sum.inr (Sum.inr y1314.2))) else (Option.bind (kern_All_r17_p s1311 y1314) (fun y1315 : Unit => (some (Sum.inl ((s1311.1 ++ y1314.1), (IntKind.wrap .i64 (s1311.2 + 1)))))))))) else (some (Sum.inr (Sum.inl s1311))))
abbrev S67_15 : St := ⟨[(1, rl tsI4 in_), (3, rC tsNode n_), (10, rF 1), (12, .one (.ow (.one (.int .i8)) y1316.1 (.v 12))), (45, ri y247.1.1), (46, ri y1316.2)], [[], [di 0, di y267.2.1, dl (.one (.int .i8)) y267.2.2.1, di 0, di y267.2.2.2.1, dl (.one (.int .i8)) y267.2.2.2.2]], [], 65⟩
abbrev S67_16 (y1317 : Int) : St := ⟨[(6, .one (.ow (.one (.int .i8)) [] (.v 6))), (7, ri y1317)], [[], []], [], 65⟩
theorem kern_All_l12_b : R67 C67.r.r.r.r.r.r.l.r.b.b (S67_11 n_ in_ y247 y267 s1311) (loopKont 2 q) = Option.bind (kern_All_l12_p n_ in_ y247 y267 s1311) (either (fun y : ((List Int) × Int) => q .normal ⟨[(1, rl tsI4 in_), (3, rC tsNode n_), (10, rF 1), (12, .one (.ow (.one (.int .i8)) y.1 (.v 12))), (45, ri y247.1.1), (46, ri y.2)], [[], [di 0, di y267.2.1, dl (.one (.int .i8)) y267.2.2.1, di 0, di y267.2.2.2.1, dl (.one (.int .i8)) y267.2.2.2.2]], [], 65⟩) (either (fun y1316 : ((List Int) × Int) => q (.exit 2) (S67_15 n_ in_ y247 y267 y1316)) (fun y1317 : Int => q .ret (S67_16 y1317)))) := by
  refine .trans ?_ (bif_b (bind_b fun y1314 => (bif_b e3_2 (bind_b fun y1315 => e3_0))) e3_1)
  refine (pre1 (kern_All_fzx2 n_ in_ y247 y267 s1311 _)).trans ?_
  refine .trans seq_push ?_
  refine (cond_e (b := (decide (s1311.2 < y247.1.1))) (st' := (S67_11 n_ in_ y247 y267 s1311)) ).trans (bif_g ?_ ?_)
  · refine (skip_eq).trans ?_
    refine (seqC_normal (st' := (S67_11 n_ in_ y247 y267 s1311))).trans ?_
    refine .trans seq_push ?_
    refine (block_push (id := 3)).trans ?_
    refine (pre2 (kern_All_r14 n_ in_ y247 y267 s1311 _)).trans (bind_g fun y1314 => ?_)
    refine .trans seq_push ?_
    refine (pre1 (kern_All_f1000016 n_ in_ y247 y267 s1311 y1314 _)).trans ?_
    refine (cond_e (b := (y1314.2 != 0)) (st' := (S67_12 n_ in_ y247 y267 s1311 y1314)) ).trans (bif_g ?_ ?_)
    · refine (pre1 (kern_All_fzx3 n_ in_ y247 y267 s1311 y1314 _)).trans ?_
      refine (ret_eq).trans ?_
      refine seqC_ret.trans ?_
      refine block_ret.trans ?_
      refine seqC_ret.trans ?_
      kernel_rfl
    · refine (skip_eq).trans ?_
      refine (seqC_normal (st' := (S67_13 n_ in_ y247 y267 s1311 y1314))).trans ?_
      refine (kern_All_r17 n_ in_ y247 y267 s1311 y1314 _).trans (bind_g fun y1315 => ?_)
      refine block_normal.trans ?_
      refine (seqC_normal (st' := (S67_14 n_ in_ y247 y267 s1311 y1314))).trans ?_
      refine (kern_All_r18 n_ in_ y247 y267 s1311 y1314 _).trans ?_
      kernel_rfl
  · refine ((exit_eq (j := 2))).trans ?_
    refine seqC_exit.trans ?_
    kernel_rfl
theorem kern_All_l12 : R67 C67.r.r.r.r.r.r.l.r.b (S67_10 n_ in_ y247 y267) q = Option.bind (iterN (kern_All_l12_p n_ in_ y247 y267) LL ([], (0 : Int))) (either (fun y1316 : ((List Int) × Int) => q (.exit 2) (S67_15 n_ in_ y247 y267 y1316)) (fun y1317 : Int => q .ret (S67_16 y1317))) :=
  Eq.trans (by kernel_rfl) (loop_iter2 (S := fun s1311 : ((List Int) × Int) => (S67_11 n_ in_ y247 y267 s1311)) (Y1 := fun y1316 : ((List Int) × Int) => ((.exit 2), (S67_15 n_ in_ y247 y267 y1316))) (Y2 := fun y1317 : Int => (.ret, (S67_16 y1317))) (fun s q => kern_All_l12_b n_ in_ y247 y267 s q) (fun z => rfl) (fun z => rfl) LL ([], (0 : Int)))
abbrev S67_17 : St := ⟨[(12, .one (.ow (.one (.int .i8)) y1316.1 (.v 12)))], [[], [di 0, di y267.2.1, dl (.one (.int .i8)) y267.2.2.1, di 0, di y267.2.2.2.1, dl (.one (.int .i8)) y267.2.2.2.2]], [], 65⟩
theorem kern_All_fzx4 : P67 1 C67.r.r.r.r.r.r.r (S67_17 y267 y1316) k = k ⟨[(6, .one (.ow (.one (.int .i8)) y1316.1 (.v 12))), (7, ri 0)], [[], [di 0, di y267.2.1, dl (.one (.int .i8)) y267.2.2.1, di 0, di y267.2.2.2.1, dl (.one (.int .i8)) y267.2.2.2.2]], [], 65⟩ := by kernel_rfl
/-- quilt/kern.All -/
def kern_All : Option ((List Int) × Int) := (Option.bind (graph_Value n_ in_) (fun y247 : (I4 × Int) => (bif (y247.2 != 0) then (some ([], y247.2)) else (Option.bind (iterN (kern_All_l6_p in_ data) LL ((0 : Int), (0 : Int), [], (0 : Int), [])) (fun y267 : (Int × Int × (List Int) × Int × (List Int)) => (Option.bind (iterN (kern_All_l12_p n_ in_ y247 y267) LL ([], (0 : Int))) (either (fun y1316 : ((List Int) × Int) => (some (y1316.1, (0 : Int)))) (fun y1317 : Int => (some ([], y1317))))))))))
theorem kern_All_is : stepO E cp63 ce4 19 [rA tsNode n_, rl tsI4 in_, rA tsA3 data] = Option.bind (kern_All n_ in_ data) (fun y : ((List Int) × Int) => some (.tup [.one (.ow (.one (.int .i8)) y.1 (.s 0)), ri y.2] : R)) := by
  refine .trans ?_ (bind_b fun y247 => (bif_b some_b (bind_b fun y267 => (bind_b (either_b (fun y1316 => some_b) (fun y1317 => some_b))))))
  refine (stepG_is (nt := 65) (regs := [(0, rA tsNode n_), (1, rl tsI4 in_), (2, rA tsA3 data)])).trans ?_
  refine (pre2 (kern_All_r1 n_ in_ data _)).trans (bind_g fun y247 => ?_)
  refine .trans seq_push ?_
  refine (pre1 (kern_All_f1000003 n_ in_ data y247 _)).trans ?_
  refine (cond_e (b := (y247.2 != 0)) (st' := (S67_0 n_ in_ data y247)) ).trans (bif_g ?_ ?_)
  · refine (pre1 (kern_All_fz n_ in_ data y247 _)).trans ?_
    refine (ret_eq).trans ?_
    refine seqC_ret.trans ?_
    kernel_rfl
  · refine (skip_eq).trans ?_
    refine (seqC_normal (st' := (S67_1 n_ in_ data y247))).trans ?_
    refine (pre1 (kern_All_f5 n_ in_ data y247 _)).trans ?_
    refine .trans seq_push ?_
    refine (pre1 (kern_All_f6 n_ in_ data y247 _)).trans ?_
    refine (block_push (id := 0)).trans ?_
    refine (kern_All_l6 n_ in_ data y247 _).trans (bind_g fun y267 => ?_)
    refine block_same.trans ?_
    refine (seqC_normal (st' := (S67_8 n_ in_ y247 y267))).trans ?_
    refine (pre1 (kern_All_f11 n_ in_ y247 y267 _)).trans ?_
    refine .trans seq_push ?_
    refine (pre1 (kern_All_f12 n_ in_ y247 y267 _)).trans ?_
    refine (block_push (id := 2)).trans ?_
    refine (kern_All_l12 n_ in_ y247 y267 _).trans (bind_g (either_g (fun y1316 => ?_) (fun y1317 => ?_)))
    · refine block_same.trans ?_
      refine (seqC_normal (st' := (S67_17 y267 y1316))).trans ?_
      refine (pre1 (kern_All_fzx4 y267 y1316 _)).trans ?_
      refine (ret_eq).trans ?_
      kernel_rfl
    · refine block_ret.trans ?_
      refine seqC_ret.trans ?_
      kernel_rfl
noncomputable def cp64 : CallP := withC cp63 19 [(.agg tsNode), (pL tsI4), (.agg tsA3)] (.tup [(.one (.ow (.one (.int .i8)))), pI]) (fun y : ((List Int) × Int) => (y.1, y.2, ())) (fun x => kern_All x.1 x.2.1 x.2.2.1)
theorem cp64_ok : PureOK E cp64 := conO eok cp63_ok ce4_ok fun x => Eq.mp (by kernel_rfl) (kern_All_is x.1 x.2.1 x.2.2.1)
end
noncomputable abbrev C68 := codeOf E.P 12
noncomputable abbrev P68 {α : Type} := @preK α E 12 cp64 ce4
abbrev S68_0 (y1318 : ((List Int) × Int)) : St := ⟨[(2, .one (.ow (.one (.int .i8)) y1318.1 (.v 2))), (3, ri y1318.2)], [[]], [], 34⟩
theorem law05_shown_r2 {α : Type} (k : St → Option α) : P68 3 C68 ⟨[], [], [], 34⟩ k = Option.bind (kern_All ((8 : Int), [], (0 : Int), (0 : Int), (0 : Int), (0 : Int), (1 : Int), (0 : Int), (0 : Int), (0 : Int), (0 : Int), (0 : Int), [], []) [((1 : Int), (2 : Int), (1 : Int), (0 : Int))] ([(-1 : Int), (2 : Int)], [])) fun y1318 : ((List Int) × Int) => k (S68_0 y1318) := by kernel_rfl
def law05_shown_r3_p (y1318 : ((List Int) × Int)) : Option Bool := (bif ((y1318.1.length : Int) == 2) then (bif (decide ((0 : Int) < (y1318.1.length : Int))) then (bif ((gt y1318.1 (0 : Int) (0 : Int)) == 0) then (bif (decide ((1 : Int) < (y1318.1.length : Int))) then (bif ((gt y1318.1 (1 : Int) (0 : Int)) == 2) then (some (y1318.2 == 0)) else (some false)) else none) else (some false)) else none) else (some false))
theorem law05_shown_r3 {α : Type} (y1318 : ((List Int) × Int)) (k : St → Option α) : P68 1 C68.r.r.r (S68_0 y1318) k = Option.bind (law05_shown_r3_p y1318) (fun y1319 : Bool => k ⟨[(0, rb y1319)], [[]], [], 34⟩) := .trans (by kernel_rfl) (bif_b (bif_b (bif_b (bif_b (bif_b some_b some_b) none_b) some_b) none_b) some_b)
/-- quilt/quiltlaw05.shown -/
def law05_shown : Option Bool := (Option.bind (kern_All ((8 : Int), [], (0 : Int), (0 : Int), (0 : Int), (0 : Int), (1 : Int), (0 : Int), (0 : Int), (0 : Int), (0 : Int), (0 : Int), [], []) [((1 : Int), (2 : Int), (1 : Int), (0 : Int))] ([(-1 : Int), (2 : Int)], [])) (fun y1318 : ((List Int) × Int) => (Option.bind (law05_shown_r3_p y1318) (fun y1319 : Bool => (some y1319)))))
theorem law05_shown_is : stepS E cp64 ce4 12 [] = Option.bind (law05_shown) (fun y : Bool => some (rb y : R)) := by
  refine .trans ?_ (bind_b fun y1318 => (bind_b fun y1319 => some_b))
  refine (stepG_is (nt := 34) (regs := [])).trans ?_
  refine (pre3 (law05_shown_r2 _)).trans (bind_g fun y1318 => ?_)
  refine (pre1 (law05_shown_r3 y1318 _)).trans (bind_g fun y1319 => ?_)
  refine (ret_eq).trans ?_
  kernel_rfl
noncomputable def cp65 : CallP := withC cp64 12 [] (.one pB) (fun y : Bool => y) (fun x => law05_shown)
theorem cp65_ok : PureOK E cp65 := conS eok cp64_ok ce4_ok fun x => Eq.mp (by kernel_rfl) (law05_shown_is)
section
variable {α : Type} (n_ : Node) (y1322 : (List Int)) (y1324 : (List Int)) (y1326 : (List Int)) (k : St → Option α) (q : Kont α)
noncomputable abbrev C69 := codeOf E.P 14
noncomputable abbrev P69 := @preK α E 14 cp65 ce4
noncomputable abbrev R69 := @runCode α E 14 cp65 ce4
noncomputable abbrev Q69 := @seqC α E 14 cp65 ce4
abbrev S69_0 : St := ⟨[(1, rF 0), (2, rF 1)], [(tsNode.leaves n_), [di 0, dl (.one (.int .i64)) [], di 0, di 0, di 0, di 0, di 0, di 0, di 0, di 0, di 0, di 0, dl (.one (.int .i8)) [], dl (.one (.int .i32)) []]], [], 28⟩
theorem law05_few_f1 : P69 1 C69 ⟨[(0, rA tsNode n_)], [], [], 28⟩ k = k (S69_0 n_) := by kernel_rfl
theorem law05_few_f1000002 : P69 1 C69.r.l (S69_0 n_) k = k ⟨[(1, rF 0), (2, rF 1), (6, rb (decide ((n_.2.1.length : Int) > 20)))], [(tsNode.leaves n_), [di 0, dl (.one (.int .i64)) [], di 0, di 0, di 0, di 0, di 0, di 0, di 0, di 0, di 0, di 0, dl (.one (.int .i8)) [], dl (.one (.int .i32)) []]], [], 28⟩ := by kernel_rfl
def law05_few_r2_p : Option Unit := (bif (decide ((20 : Int) ≤ (n_.2.1.length : Int))) then (some ()) else none)
abbrev S69_1 : St := ⟨[(1, rF 0), (2, rF 1)], [[di n_.1, dl (.one (.int .i64)) ((n_.2.1.take (Int.toNat (20 : Int))).drop (Int.toNat (0 : Int))), di n_.2.2.1, di n_.2.2.2.1, di n_.2.2.2.2.1, di n_.2.2.2.2.2.1, di n_.2.2.2.2.2.2.1, di n_.2.2.2.2.2.2.2.1, di n_.2.2.2.2.2.2.2.2.1, di n_.2.2.2.2.2.2.2.2.2.1, di n_.2.2.2.2.2.2.2.2.2.2.1, di n_.2.2.2.2.2.2.2.2.2.2.2.1, dl (.one (.int .i8)) n_.2.2.2.2.2.2.2.2.2.2.2.2.1, dl (.one (.int .i32)) n_.2.2.2.2.2.2.2.2.2.2.2.2.2], [di 0, dl (.one (.int .i64)) [], di 0, di 0, di 0, di 0, di 0, di 0, di 0, di 0, di 0, di 0, dl (.one (.int .i8)) [], dl (.one (.int .i32)) []]], [], 28⟩
theorem law05_few_r2 : R69 C69.r.l.r.t (S69_0 n_) q = Option.bind (law05_few_r2_p n_) (fun y1321 : Unit => q .normal (S69_1 n_)) := .trans (by kernel_rfl) (bif_b some_b none_b)
def law05_few_j1_p : Option (List Int) := (bif (decide ((n_.2.1.length : Int) > 20)) then (Option.bind (law05_few_r2_p n_) (fun y1321 : Unit => (some ((n_.2.1.take (Int.toNat (20 : Int))).drop (Int.toNat (0 : Int)))))) else (some n_.2.1))
abbrev S69_2 : St := ⟨[(1, rF 0), (2, rF 1)], [[di n_.1, dl (.one (.int .i64)) y1322, di n_.2.2.1, di n_.2.2.2.1, di n_.2.2.2.2.1, di n_.2.2.2.2.2.1, di n_.2.2.2.2.2.2.1, di n_.2.2.2.2.2.2.2.1, di n_.2.2.2.2.2.2.2.2.1, di n_.2.2.2.2.2.2.2.2.2.1, di n_.2.2.2.2.2.2.2.2.2.2.1, di n_.2.2.2.2.2.2.2.2.2.2.2.1, dl (.one (.int .i8)) n_.2.2.2.2.2.2.2.2.2.2.2.2.1, dl (.one (.int .i32)) n_.2.2.2.2.2.2.2.2.2.2.2.2.2], [di 0, dl (.one (.int .i64)) [], di 0, di 0, di 0, di 0, di 0, di 0, di 0, di 0, di 0, di 0, dl (.one (.int .i8)) [], dl (.one (.int .i32)) []]], [], 28⟩
theorem law05_few_j1 : R69 C69.r.l (S69_0 n_) (Q69 C69.r.r q) = Option.bind (law05_few_j1_p n_) (fun y1322 : (List Int) => R69 C69.r.r (S69_2 n_ y1322) q) := by
  refine .trans ?_ (bif_b (bind_b fun y1321 => some_b) some_b)
  refine (pre1 (law05_few_f1000002 n_ _)).trans ?_
  refine (cond_e (b := (decide ((n_.2.1.length : Int) > 20))) (st' := (S69_0 n_)) ).trans (bif_g ?_ ?_)
  · refine (law05_few_r2 n_ _).trans (bind_g fun y1321 => ?_)
    refine (seqC_normal (st' := (S69_1 n_))).trans ?_
    kernel_rfl
  · refine (skip_eq).trans ?_
    refine (seqC_normal (st' := (S69_0 n_))).trans ?_
    kernel_rfl
theorem law05_few_f1000004 : P69 1 C69.r.r.l (S69_2 n_ y1322) k = k ⟨[(1, rF 0), (2, rF 1), (14, rb (decide ((n_.2.2.2.2.2.2.2.2.2.2.2.2.1.length : Int) > 5000)))], [[di n_.1, dl (.one (.int .i64)) y1322, di n_.2.2.1, di n_.2.2.2.1, di n_.2.2.2.2.1, di n_.2.2.2.2.2.1, di n_.2.2.2.2.2.2.1, di n_.2.2.2.2.2.2.2.1, di n_.2.2.2.2.2.2.2.2.1, di n_.2.2.2.2.2.2.2.2.2.1, di n_.2.2.2.2.2.2.2.2.2.2.1, di n_.2.2.2.2.2.2.2.2.2.2.2.1, dl (.one (.int .i8)) n_.2.2.2.2.2.2.2.2.2.2.2.2.1, dl (.one (.int .i32)) n_.2.2.2.2.2.2.2.2.2.2.2.2.2], [di 0, dl (.one (.int .i64)) [], di 0, di 0, di 0, di 0, di 0, di 0, di 0, di 0, di 0, di 0, dl (.one (.int .i8)) [], dl (.one (.int .i32)) []]], [], 28⟩ := by kernel_rfl
def law05_few_r4_p : Option (List Int) := (bif (decide ((5000 : Int) ≤ (n_.2.2.2.2.2.2.2.2.2.2.2.2.1.length : Int))) then (some ((n_.2.2.2.2.2.2.2.2.2.2.2.2.1.take (Int.toNat (5000 : Int))).drop (Int.toNat (0 : Int)))) else none)
abbrev S69_3 (y1323 : (List Int)) : St := ⟨[(1, rF 0), (2, rF 1)], [[di n_.1, dl (.one (.int .i64)) y1322, di n_.2.2.1, di n_.2.2.2.1, di n_.2.2.2.2.1, di n_.2.2.2.2.2.1, di n_.2.2.2.2.2.2.1, di n_.2.2.2.2.2.2.2.1, di n_.2.2.2.2.2.2.2.2.1, di n_.2.2.2.2.2.2.2.2.2.1, di n_.2.2.2.2.2.2.2.2.2.2.1, di n_.2.2.2.2.2.2.2.2.2.2.2.1, dl (.one (.int .i8)) y1323, dl (.one (.int .i32)) n_.2.2.2.2.2.2.2.2.2.2.2.2.2], [di 0, dl (.one (.int .i64)) [], di 0, di 0, di 0, di 0, di 0, di 0, di 0, di 0, di 0, di 0, dl (.one (.int .i8)) [], dl (.one (.int .i32)) []]], [], 28⟩
theorem law05_few_r4 : R69 C69.r.r.l.r.t (S69_2 n_ y1322) q = Option.bind (law05_few_r4_p n_) (fun y1323 : (List Int) => q .normal (S69_3 n_ y1322 y1323)) := .trans (by kernel_rfl) (bif_b some_b none_b)
def law05_few_j3_p : Option (List Int) := (bif (decide ((n_.2.2.2.2.2.2.2.2.2.2.2.2.1.length : Int) > 5000)) then (Option.bind (law05_few_r4_p n_) (fun y1323 : (List Int) => (some y1323))) else (some n_.2.2.2.2.2.2.2.2.2.2.2.2.1))
abbrev S69_4 : St := ⟨[(1, rF 0), (2, rF 1)], [[di n_.1, dl (.one (.int .i64)) y1322, di n_.2.2.1, di n_.2.2.2.1, di n_.2.2.2.2.1, di n_.2.2.2.2.2.1, di n_.2.2.2.2.2.2.1, di n_.2.2.2.2.2.2.2.1, di n_.2.2.2.2.2.2.2.2.1, di n_.2.2.2.2.2.2.2.2.2.1, di n_.2.2.2.2.2.2.2.2.2.2.1, di n_.2.2.2.2.2.2.2.2.2.2.2.1, dl (.one (.int .i8)) y1324, dl (.one (.int .i32)) n_.2.2.2.2.2.2.2.2.2.2.2.2.2], [di 0, dl (.one (.int .i64)) [], di 0, di 0, di 0, di 0, di 0, di 0, di 0, di 0, di 0, di 0, dl (.one (.int .i8)) [], dl (.one (.int .i32)) []]], [], 28⟩
theorem law05_few_j3 : R69 C69.r.r.l (S69_2 n_ y1322) (Q69 C69.r.r.r q) = Option.bind (law05_few_j3_p n_) (fun y1324 : (List Int) => R69 C69.r.r.r (S69_4 n_ y1322 y1324) q) := by
  refine .trans ?_ (bif_b (bind_b fun y1323 => some_b) some_b)
  refine (pre1 (law05_few_f1000004 n_ y1322 _)).trans ?_
  refine (cond_e (b := (decide ((n_.2.2.2.2.2.2.2.2.2.2.2.2.1.length : Int) > 5000))) (st' := (S69_2 n_ y1322)) ).trans (bif_g ?_ ?_)
  · refine (law05_few_r4 n_ y1322 _).trans (bind_g fun y1323 => ?_)
    refine (seqC_normal (st' := (S69_3 n_ y1322 y1323))).trans ?_
    kernel_rfl
  · refine (skip_eq).trans ?_
    refine (seqC_normal (st' := (S69_2 n_ y1322))).trans ?_
    kernel_rfl
theorem law05_few_f1000006 : P69 1 C69.r.r.r.l (S69_4 n_ y1322 y1324) k = k ⟨[(1, rF 0), (2, rF 1), (22, rb (decide ((n_.2.2.2.2.2.2.2.2.2.2.2.2.2.length : Int) > 20)))], [[di n_.1, dl (.one (.int .i64)) y1322, di n_.2.2.1, di n_.2.2.2.1, di n_.2.2.2.2.1, di n_.2.2.2.2.2.1, di n_.2.2.2.2.2.2.1, di n_.2.2.2.2.2.2.2.1, di n_.2.2.2.2.2.2.2.2.1, di n_.2.2.2.2.2.2.2.2.2.1, di n_.2.2.2.2.2.2.2.2.2.2.1, di n_.2.2.2.2.2.2.2.2.2.2.2.1, dl (.one (.int .i8)) y1324, dl (.one (.int .i32)) n_.2.2.2.2.2.2.2.2.2.2.2.2.2], [di 0, dl (.one (.int .i64)) [], di 0, di 0, di 0, di 0, di 0, di 0, di 0, di 0, di 0, di 0, dl (.one (.int .i8)) [], dl (.one (.int .i32)) []]], [], 28⟩ := by kernel_rfl
def law05_few_r6_p : Option (List Int) := (bif (decide ((20 : Int) ≤ (n_.2.2.2.2.2.2.2.2.2.2.2.2.2.length : Int))) then (some ((n_.2.2.2.2.2.2.2.2.2.2.2.2.2.take (Int.toNat (20 : Int))).drop (Int.toNat (0 : Int)))) else none)
abbrev S69_5 (y1325 : (List Int)) : St := ⟨[(1, rF 0), (2, rF 1)], [[di n_.1, dl (.one (.int .i64)) y1322, di n_.2.2.1, di n_.2.2.2.1, di n_.2.2.2.2.1, di n_.2.2.2.2.2.1, di n_.2.2.2.2.2.2.1, di n_.2.2.2.2.2.2.2.1, di n_.2.2.2.2.2.2.2.2.1, di n_.2.2.2.2.2.2.2.2.2.1, di n_.2.2.2.2.2.2.2.2.2.2.1, di n_.2.2.2.2.2.2.2.2.2.2.2.1, dl (.one (.int .i8)) y1324, dl (.one (.int .i32)) y1325], [di 0, dl (.one (.int .i64)) [], di 0, di 0, di 0, di 0, di 0, di 0, di 0, di 0, di 0, di 0, dl (.one (.int .i8)) [], dl (.one (.int .i32)) []]], [], 28⟩
theorem law05_few_r6 : R69 C69.r.r.r.l.r.t (S69_4 n_ y1322 y1324) q = Option.bind (law05_few_r6_p n_) (fun y1325 : (List Int) => q .normal (S69_5 n_ y1322 y1324 y1325)) := .trans (by kernel_rfl) (bif_b some_b none_b)
def law05_few_j5_p : Option (List Int) := (bif (decide ((n_.2.2.2.2.2.2.2.2.2.2.2.2.2.length : Int) > 20)) then (Option.bind (law05_few_r6_p n_) (fun y1325 : (List Int) => (some y1325))) else (some n_.2.2.2.2.2.2.2.2.2.2.2.2.2))
abbrev S69_6 : St := ⟨[(1, rF 0), (2, rF 1)], [[di n_.1, dl (.one (.int .i64)) y1322, di n_.2.2.1, di n_.2.2.2.1, di n_.2.2.2.2.1, di n_.2.2.2.2.2.1, di n_.2.2.2.2.2.2.1, di n_.2.2.2.2.2.2.2.1, di n_.2.2.2.2.2.2.2.2.1, di n_.2.2.2.2.2.2.2.2.2.1, di n_.2.2.2.2.2.2.2.2.2.2.1, di n_.2.2.2.2.2.2.2.2.2.2.2.1, dl (.one (.int .i8)) y1324, dl (.one (.int .i32)) y1326], [di 0, dl (.one (.int .i64)) [], di 0, di 0, di 0, di 0, di 0, di 0, di 0, di 0, di 0, di 0, dl (.one (.int .i8)) [], dl (.one (.int .i32)) []]], [], 28⟩
theorem law05_few_j5 : R69 C69.r.r.r.l (S69_4 n_ y1322 y1324) (Q69 C69.r.r.r.r q) = Option.bind (law05_few_j5_p n_) (fun y1326 : (List Int) => R69 C69.r.r.r.r (S69_6 n_ y1322 y1324 y1326) q) := by
  refine .trans ?_ (bif_b (bind_b fun y1325 => some_b) some_b)
  refine (pre1 (law05_few_f1000006 n_ y1322 y1324 _)).trans ?_
  refine (cond_e (b := (decide ((n_.2.2.2.2.2.2.2.2.2.2.2.2.2.length : Int) > 20))) (st' := (S69_4 n_ y1322 y1324)) ).trans (bif_g ?_ ?_)
  · refine (law05_few_r6 n_ y1322 y1324 _).trans (bind_g fun y1325 => ?_)
    refine (seqC_normal (st' := (S69_5 n_ y1322 y1324 y1325))).trans ?_
    kernel_rfl
  · refine (skip_eq).trans ?_
    refine (seqC_normal (st' := (S69_4 n_ y1322 y1324))).trans ?_
    kernel_rfl
theorem law05_few_fz : P69 1 C69.r.r.r.r (S69_6 n_ y1322 y1324 y1326) k = k ⟨[(2, rF 1)], [[], [di n_.1, dl (.one (.int .i64)) y1322, di n_.2.2.1, di n_.2.2.2.1, di n_.2.2.2.2.1, di n_.2.2.2.2.2.1, di n_.2.2.2.2.2.2.1, di n_.2.2.2.2.2.2.2.1, di n_.2.2.2.2.2.2.2.2.1, di n_.2.2.2.2.2.2.2.2.2.1, di n_.2.2.2.2.2.2.2.2.2.2.1, di n_.2.2.2.2.2.2.2.2.2.2.2.1, dl (.one (.int .i8)) y1324, dl (.one (.int .i32)) y1326]], [], 28⟩ := by kernel_rfl
/-- quilt/quiltlaw05.few -/
def law05_few : Option Node := (Option.bind (law05_few_j1_p n_) (fun y1322 : (List Int) => (Option.bind (law05_few_j3_p n_) (fun y1324 : (List Int) => (Option.bind (law05_few_j5_p n_) (fun y1326 : (List Int) => (some (n_.1, y1322, n_.2.2.1, n_.2.2.2.1, n_.2.2.2.2.1, n_.2.2.2.2.2.1, n_.2.2.2.2.2.2.1, n_.2.2.2.2.2.2.2.1, n_.2.2.2.2.2.2.2.2.1, n_.2.2.2.2.2.2.2.2.2.1, n_.2.2.2.2.2.2.2.2.2.2.1, n_.2.2.2.2.2.2.2.2.2.2.2.1, y1324, y1326))))))))
theorem law05_few_is : stepS E cp65 ce4 14 [rA tsNode n_] = Option.bind (law05_few n_) (fun y : Node => some (rA tsNode y : R)) := by
  refine .trans ?_ (bind_b fun y1322 => (bind_b fun y1324 => (bind_b fun y1326 => some_b)))
  refine (stepG_is (nt := 28) (regs := [(0, rA tsNode n_)])).trans ?_
  refine (pre1 (law05_few_f1 n_ _)).trans ?_
  refine .trans seq_push ?_
  refine (law05_few_j1 n_ _).trans (bind_g fun y1322 => ?_)
  refine .trans seq_push ?_
  refine (law05_few_j3 n_ y1322 _).trans (bind_g fun y1324 => ?_)
  refine .trans seq_push ?_
  refine (law05_few_j5 n_ y1322 y1324 _).trans (bind_g fun y1326 => ?_)
  refine (pre1 (law05_few_fz n_ y1322 y1324 y1326 _)).trans ?_
  refine (ret_eq).trans ?_
  kernel_rfl
noncomputable def cp66 : CallP := withC cp65 14 [(.agg tsNode)] (.one (.agg tsNode)) (fun y : Node => y) (fun x => law05_few x.1)
theorem cp66_ok : PureOK E cp66 := conS eok cp65_ok ce4_ok fun x => Eq.mp (by kernel_rfl) (law05_few_is x.1)
end
noncomputable abbrev C70 := codeOf E.P 15
noncomputable abbrev P70 {α : Type} := @preK α E 15 cp66 ce4
abbrev S70_0 (l_ : (List I4)) : St := ⟨[(0, rl tsI4 l_)], [], [], 9⟩
theorem law05_some_f1 {α : Type} (l_ : (List I4)) (k : St → Option α) : P70 1 C70 (S70_0 l_) k = k (S70_0 l_) := by kernel_rfl
theorem law05_some_f1000002 {α : Type} (l_ : (List I4)) (k : St → Option α) : P70 1 C70.r.l (S70_0 l_) k = k ⟨[(0, rl tsI4 l_), (5, rb (decide ((l_.length : Int) > 3)))], [], [], 9⟩ := by kernel_rfl
def law05_some_r2_p (l_ : (List I4)) : Option Unit := (bif (decide ((3 : Int) ≤ (l_.length : Int))) then (some ()) else none)
theorem law05_some_r2 {α : Type} (l_ : (List I4)) (k : St → Option α) : P70 1 C70.r.l.r.t (S70_0 l_) k = Option.bind (law05_some_r2_p l_) (fun y1329 : Unit => k ⟨[(2, rl tsI4 ((l_.take (Int.toNat (3 : Int))).drop (Int.toNat (0 : Int))))], [], [], 9⟩) := .trans (by kernel_rfl) (bif_b some_b none_b)
theorem law05_some_fz {α : Type} (l_ : (List I4)) (k : St → Option α) : P70 1 C70.r.r (S70_0 l_) k = k ⟨[(2, rl tsI4 l_)], [], [], 9⟩ := by kernel_rfl
/-- quilt/quiltlaw05.some -/
def law05_some (l_ : (List I4)) : Option (List I4) := (bif (decide ((l_.length : Int) > 3)) then (Option.bind (law05_some_r2_p l_) (fun y1329 : Unit => (some ((l_.take (Int.toNat (3 : Int))).drop (Int.toNat (0 : Int)))))) else (some l_))
theorem law05_some_is (l_ : (List I4)) : stepS E cp66 ce4 15 [rl tsI4 l_] = Option.bind (law05_some l_) (fun y : (List I4) => some (rl tsI4 y : R)) := by
  refine .trans ?_ (bif_b (bind_b fun y1329 => some_b) some_b)
  refine (stepG_is (nt := 9) (regs := [(0, rl tsI4 l_)])).trans ?_
  refine (pre1 (law05_some_f1 l_ _)).trans ?_
  refine .trans seq_push ?_
  refine (pre1 (law05_some_f1000002 l_ _)).trans ?_
  refine (cond_e (b := (decide ((l_.length : Int) > 3))) (st' := (S70_0 l_)) ).trans (bif_g ?_ ?_)
  · refine (pre1 (law05_some_r2 l_ _)).trans (bind_g fun y1329 => ?_)
    refine (ret_eq).trans ?_
    refine seqC_ret.trans ?_
    kernel_rfl
  · refine (skip_eq).trans ?_
    refine (seqC_normal (st' := (S70_0 l_))).trans ?_
    refine (pre1 (law05_some_fz l_ _)).trans ?_
    refine (ret_eq).trans ?_
    kernel_rfl
noncomputable def cp67 : CallP := withC cp66 15 [(pL tsI4)] (.one (pL tsI4)) (fun y : (List I4) => y) (fun x => law05_some x.1)
theorem cp67_ok : PureOK E cp67 := conS eok cp66_ok ce4_ok fun x => Eq.mp (by kernel_rfl) (law05_some_is x.1)
noncomputable abbrev C71 := codeOf E.P 44
noncomputable abbrev P71 {α : Type} := @preK α E 44 cp67 ce4
def ref03_Two_r1_q {β : Type} (op : Int) (K : Bool → β) : β := (bif (op == 6) then (K true) else (bif (op == 7) then (K true) else (K (op == 10))))
def ref03_Two_r1_p (op : Int) : Bool := ref03_Two_r1_q op (fun y => y)
theorem ref03_Two_r1_n {β : Type} (op : Int) (K : Bool → β) : ref03_Two_r1_q op K = K (ref03_Two_r1_p op) := (bif_k K rfl (bif_k K rfl rfl))
theorem ref03_Two_r1 {α : Type} (op : Int) (k : St → Option α) : P71 2 C71 ⟨[(0, ri op)], [], [], 13⟩ k = k ⟨[(2, rb (ref03_Two_r1_p op))], [], [], 13⟩ := Eq.trans (by kernel_rfl) (ref03_Two_r1_n op (fun y1335 : Bool => k ⟨[(2, rb y1335)], [], [], 13⟩))
/-- quilt/quiltref03.Two -/
def ref03_Two_q {β : Type} (op : Int) (K : Bool → β) : β := (K (ref03_Two_r1_p op))
def ref03_Two (op : Int) : Bool := ref03_Two_q op (fun y => y)
theorem ref03_Two_n {β : Type} (op : Int) (K : Bool → β) : ref03_Two_q op K = K (ref03_Two op) := rfl
theorem ref03_Two_is (op : Int) : stepS E cp67 ce4 44 [ri op] = (fun y : Bool => some (rb y : R)) (ref03_Two op) := by
  refine Eq.trans ?_ (ref03_Two_n op (fun y : Bool => some (rb y : R)))
  refine (stepG_is (nt := 13) (regs := [(0, ri op)])).trans ?_
  unfold ref03_Two_q
  refine (pre2 (ref03_Two_r1 op _)).trans ?_
  refine (ret_eq).trans ?_
  kernel_rfl
noncomputable def cp68 : CallP := withC cp67 44 [pI] (.one pB) (fun y : Bool => y) (fun x => some (ref03_Two x.1))
theorem cp68_ok : PureOK E cp68 := conS eok cp67_ok ce4_ok fun x => Eq.mp (by kernel_rfl) (ref03_Two_is x.1)
noncomputable abbrev C72 := codeOf E.P 45
noncomputable abbrev P72 {α : Type} := @preK α E 45 cp68 ce4
def ref03_Window_r1_q {β : Type} (op : Int) (K : Bool → β) : β := (bif (decide (op ≥ 1)) then (bif (decide (op ≤ 5)) then (K (op != 3)) else (K false)) else (K false))
def ref03_Window_r1_p (op : Int) : Bool := ref03_Window_r1_q op (fun y => y)
theorem ref03_Window_r1_n {β : Type} (op : Int) (K : Bool → β) : ref03_Window_r1_q op K = K (ref03_Window_r1_p op) := (bif_k K (bif_k K rfl rfl) rfl)
theorem ref03_Window_r1 {α : Type} (op : Int) (k : St → Option α) : P72 2 C72 ⟨[(0, ri op)], [], [], 13⟩ k = k ⟨[(2, rb (ref03_Window_r1_p op))], [], [], 13⟩ := Eq.trans (by kernel_rfl) (ref03_Window_r1_n op (fun y1338 : Bool => k ⟨[(2, rb y1338)], [], [], 13⟩))
/-- quilt/quiltref03.Window -/
def ref03_Window_q {β : Type} (op : Int) (K : Bool → β) : β := (K (ref03_Window_r1_p op))
def ref03_Window (op : Int) : Bool := ref03_Window_q op (fun y => y)
theorem ref03_Window_n {β : Type} (op : Int) (K : Bool → β) : ref03_Window_q op K = K (ref03_Window op) := rfl
theorem ref03_Window_is (op : Int) : stepS E cp68 ce4 45 [ri op] = (fun y : Bool => some (rb y : R)) (ref03_Window op) := by
  refine Eq.trans ?_ (ref03_Window_n op (fun y : Bool => some (rb y : R)))
  refine (stepG_is (nt := 13) (regs := [(0, ri op)])).trans ?_
  unfold ref03_Window_q
  refine (pre2 (ref03_Window_r1 op _)).trans ?_
  refine (ret_eq).trans ?_
  kernel_rfl
noncomputable def cp69 : CallP := withC cp68 45 [pI] (.one pB) (fun y : Bool => y) (fun x => some (ref03_Window x.1))
theorem cp69_ok : PureOK E cp69 := conS eok cp68_ok ce4_ok fun x => Eq.mp (by kernel_rfl) (ref03_Window_is x.1)
section
variable {α β : Type} (x_ : Int) (low : Int) (high : Int) (k : St → Option α)
noncomputable abbrev C73 := codeOf E.P 30
noncomputable abbrev P73 := @preK α E 30 cp69 ce4
def ref03_in_r1_q (K : Bool → β) : β := (bif (decide (x_ ≥ low)) then (K (decide (x_ ≤ high))) else (K false))
def ref03_in_r1_p : Bool := ref03_in_r1_q x_ low high (fun y => y)
theorem ref03_in_r1_n (K : Bool → β) : ref03_in_r1_q x_ low high K = K (ref03_in_r1_p x_ low high) := (bif_k K rfl rfl)
theorem ref03_in_r1 : P73 2 C73 ⟨[(0, ri x_), (1, ri low), (2, ri high)], [], [], 15⟩ k = k ⟨[(6, rb (ref03_in_r1_p x_ low high))], [], [], 15⟩ := Eq.trans (by kernel_rfl) (ref03_in_r1_n x_ low high (fun y1339 : Bool => k ⟨[(6, rb y1339)], [], [], 15⟩))
/-- quilt/quiltref03.in -/
def ref03_in_q (K : Bool → β) : β := (K (ref03_in_r1_p x_ low high))
def ref03_in : Bool := ref03_in_q x_ low high (fun y => y)
theorem ref03_in_n (K : Bool → β) : ref03_in_q x_ low high K = K (ref03_in x_ low high) := rfl
theorem ref03_in_is : stepS E cp69 ce4 30 [ri x_, ri low, ri high] = (fun y : Bool => some (rb y : R)) (ref03_in x_ low high) := by
  refine Eq.trans ?_ (ref03_in_n x_ low high (fun y : Bool => some (rb y : R)))
  refine (stepG_is (nt := 15) (regs := [(0, ri x_), (1, ri low), (2, ri high)])).trans ?_
  unfold ref03_in_q
  refine (pre2 (ref03_in_r1 x_ low high _)).trans ?_
  refine (ret_eq).trans ?_
  kernel_rfl
noncomputable def cp70 : CallP := withC cp69 30 [pI, pI, pI] (.one pB) (fun y : Bool => y) (fun x => some (ref03_in x.1 x.2.1 x.2.2.1))
theorem cp70_ok : PureOK E cp70 := conS eok cp69_ok ce4_ok fun x => Eq.mp (by kernel_rfl) (ref03_in_is x.1 x.2.1 x.2.2.1)
end
section
variable {α β : Type} (n_ : Node) (many : Int) (k : St → Option α) (q : Kont α)
noncomputable abbrev C74 := codeOf E.P 25
noncomputable abbrev P74 := @preK α E 25 cp70 ce4
noncomputable abbrev R74 := @runCode α E 25 cp70 ce4
noncomputable abbrev Q74 := @seqC α E 25 cp70 ce4
abbrev S74_0 : St := ⟨[(1, ri many), (2, rC tsNode n_), (5, ri 1)], [], [], 119⟩
theorem ref03_node_f2 : P74 2 C74 ⟨[(0, rA tsNode n_), (1, ri many)], [], [], 119⟩ k = k (S74_0 n_ many) := by kernel_rfl
theorem ref03_node_f1000003 : P74 1 C74.r.r.l (S74_0 n_ many) k = k ⟨[(1, ri many), (2, rC tsNode n_), (5, ri 1), (13, rb (ref03_Two n_.1))], [], [], 119⟩ := by kernel_rfl
abbrev S74_1 : St := ⟨[(1, ri many), (2, rC tsNode n_), (5, ri 2)], [], [], 119⟩
theorem ref03_node_r3 : R74 C74.r.r.l.r.t (S74_0 n_ many) q = q .normal (S74_1 n_ many) := by kernel_rfl
def ref03_node_j2_q (K : Int → β) : β := (bif (ref03_Two n_.1) then (K (2 : Int)) else (K (1 : Int)))
def ref03_node_j2_p : Int := ref03_node_j2_q n_ (fun y => y)
theorem ref03_node_j2_n (K : Int → β) : ref03_node_j2_q n_ K = K (ref03_node_j2_p n_) := (bif_k K rfl rfl)
abbrev S74_2 : St := ⟨[(1, ri many), (2, rC tsNode n_), (5, ri (ref03_node_j2_p n_))], [], [], 119⟩
theorem ref03_node_j2 : R74 C74.r.r.l (S74_0 n_ many) (Q74 C74.r.r.r q) = R74 C74.r.r.r (S74_2 n_ many) q := by
  refine Eq.trans ?_ (ref03_node_j2_n n_ (fun y1336 : Int => R74 C74.r.r.r ⟨[(1, ri many), (2, rC tsNode n_), (5, ri y1336)], [], [], 119⟩ q))
  unfold ref03_node_j2_q
  refine (pre1 (ref03_node_f1000003 n_ many _)).trans ?_
  refine (cond_e (b := (ref03_Two n_.1)) (st' := (S74_0 n_ many)) ).trans (bif_g ?_ ?_)
  · refine (ref03_node_r3 n_ many _).trans ?_
    refine (seqC_normal (st' := (S74_1 n_ many))).trans ?_
    kernel_rfl
  · refine (skip_eq).trans ?_
    refine (seqC_normal (st' := (S74_0 n_ many))).trans ?_
    kernel_rfl
def ref03_node_r4_q (K : Bool → β) : β := (bif (n_.2.2.1 == 0) then (K (n_.2.2.2.1 == 0)) else (K false))
def ref03_node_r4_p : Bool := ref03_node_r4_q n_ (fun y => y)
theorem ref03_node_r4_n (K : Bool → β) : ref03_node_r4_q n_ K = K (ref03_node_r4_p n_) := (bif_k K rfl rfl)
abbrev S74_3 : St := ⟨[(1, ri many), (2, rC tsNode n_), (5, ri (ref03_node_j2_p n_)), (6, rb (ref03_node_r4_p n_))], [], [], 119⟩
theorem ref03_node_r4 : P74 1 C74.r.r.r (S74_2 n_ many) k = k (S74_3 n_ many) := Eq.trans (by kernel_rfl) (ref03_node_r4_n n_ (fun y1337 : Bool => k ⟨[(1, ri many), (2, rC tsNode n_), (5, ri (ref03_node_j2_p n_)), (6, rb y1337)], [], [], 119⟩))
theorem ref03_node_f1000006 : P74 1 C74.r.r.r.r.l (S74_3 n_ many) k = k ⟨[(1, ri many), (2, rC tsNode n_), (5, ri (ref03_node_j2_p n_)), (6, rb (ref03_node_r4_p n_)), (24, rb (ref03_Window n_.1))], [], [], 119⟩ := by kernel_rfl
def ref03_node_r6_q (K : Bool → β) : β := (bif (ref03_in n_.2.2.1 (1 : Int) (3 : Int)) then (K (ref03_in n_.2.2.2.1 (1 : Int) (2 : Int))) else (K false))
def ref03_node_r6_p : Bool := ref03_node_r6_q n_ (fun y => y)
theorem ref03_node_r6_n (K : Bool → β) : ref03_node_r6_q n_ K = K (ref03_node_r6_p n_) := (bif_k K rfl rfl)
abbrev S74_4 : St := ⟨[(1, ri many), (2, rC tsNode n_), (5, ri (ref03_node_j2_p n_)), (6, rb (ref03_node_r6_p n_))], [], [], 119⟩
theorem ref03_node_r6 : R74 C74.r.r.r.r.l.r.t (S74_3 n_ many) q = q .normal (S74_4 n_ many) := Eq.trans (by kernel_rfl) (ref03_node_r6_n n_ (fun y1340 : Bool => q .normal ⟨[(1, ri many), (2, rC tsNode n_), (5, ri (ref03_node_j2_p n_)), (6, rb y1340)], [], [], 119⟩))
def ref03_node_j5_q (K : Bool → β) : β := (bif (ref03_Window n_.1) then (K (ref03_node_r6_p n_)) else (K (ref03_node_r4_p n_)))
def ref03_node_j5_p : Bool := ref03_node_j5_q n_ (fun y => y)
theorem ref03_node_j5_n (K : Bool → β) : ref03_node_j5_q n_ K = K (ref03_node_j5_p n_) := (bif_k K rfl rfl)
abbrev S74_5 : St := ⟨[(1, ri many), (2, rC tsNode n_), (5, ri (ref03_node_j2_p n_)), (6, rb (ref03_node_j5_p n_))], [], [], 119⟩
theorem ref03_node_j5 : R74 C74.r.r.r.r.l (S74_3 n_ many) (Q74 C74.r.r.r.r.r q) = R74 C74.r.r.r.r.r (S74_5 n_ many) q := by
  refine Eq.trans ?_ (ref03_node_j5_n n_ (fun y1341 : Bool => R74 C74.r.r.r.r.r ⟨[(1, ri many), (2, rC tsNode n_), (5, ri (ref03_node_j2_p n_)), (6, rb y1341)], [], [], 119⟩ q))
  unfold ref03_node_j5_q
  refine (pre1 (ref03_node_f1000006 n_ many _)).trans ?_
  refine (cond_e (b := (ref03_Window n_.1)) (st' := (S74_3 n_ many)) ).trans (bif_g ?_ ?_)
  · refine (ref03_node_r6 n_ many _).trans ?_
    refine (seqC_normal (st' := (S74_4 n_ many))).trans ?_
    kernel_rfl
  · refine (skip_eq).trans ?_
    refine (seqC_normal (st' := (S74_3 n_ many))).trans ?_
    kernel_rfl
abbrev S74_6 : St := ⟨[(1, ri many), (2, rC tsNode n_), (5, ri (ref03_node_j2_p n_)), (6, rb (ref03_node_j5_p n_)), (7, rb (n_.2.2.2.2.1 == 0))], [], [], 119⟩
theorem ref03_node_f8 : P74 1 C74.r.r.r.r.r (S74_5 n_ many) k = k (S74_6 n_ many) := by kernel_rfl
def ref03_node_r8_q (K : Bool → β) : β := (bif (n_.1 == 1) then (K true) else (K (n_.1 == 2)))
def ref03_node_r8_p : Bool := ref03_node_r8_q n_ (fun y => y)
theorem ref03_node_r8_n (K : Bool → β) : ref03_node_r8_q n_ K = K (ref03_node_r8_p n_) := (bif_k K rfl rfl)
theorem ref03_node_r8 : P74 1 C74.r.r.r.r.r.r.l (S74_6 n_ many) k = k ⟨[(1, ri many), (2, rC tsNode n_), (5, ri (ref03_node_j2_p n_)), (6, rb (ref03_node_j5_p n_)), (7, rb (n_.2.2.2.2.1 == 0)), (43, rb (ref03_node_r8_p n_))], [], [], 119⟩ := Eq.trans (by kernel_rfl) (ref03_node_r8_n n_ (fun y1342 : Bool => k ⟨[(1, ri many), (2, rC tsNode n_), (5, ri (ref03_node_j2_p n_)), (6, rb (ref03_node_j5_p n_)), (7, rb (n_.2.2.2.2.1 == 0)), (43, rb y1342)], [], [], 119⟩))
def ref03_node_r9_q (K : Bool → β) : β := (bif (ref03_in n_.2.2.2.2.1 (0 : Int) (1 : Int)) then (K (decide (n_.2.2.2.2.1 < n_.2.2.1))) else (K false))
def ref03_node_r9_p : Bool := ref03_node_r9_q n_ (fun y => y)
theorem ref03_node_r9_n (K : Bool → β) : ref03_node_r9_q n_ K = K (ref03_node_r9_p n_) := (bif_k K rfl rfl)
abbrev S74_7 : St := ⟨[(1, ri many), (2, rC tsNode n_), (5, ri (ref03_node_j2_p n_)), (6, rb (ref03_node_j5_p n_)), (7, rb (ref03_node_r9_p n_))], [], [], 119⟩
theorem ref03_node_r9 : R74 C74.r.r.r.r.r.r.l.r.t (S74_6 n_ many) q = q .normal (S74_7 n_ many) := Eq.trans (by kernel_rfl) (ref03_node_r9_n n_ (fun y1343 : Bool => q .normal ⟨[(1, ri many), (2, rC tsNode n_), (5, ri (ref03_node_j2_p n_)), (6, rb (ref03_node_j5_p n_)), (7, rb y1343)], [], [], 119⟩))
def ref03_node_j8_q (K : Bool → β) : β := (bif (ref03_node_r8_p n_) then (K (ref03_node_r9_p n_)) else (K (n_.2.2.2.2.1 == 0)))
def ref03_node_j8_p : Bool := ref03_node_j8_q n_ (fun y => y)
theorem ref03_node_j8_n (K : Bool → β) : ref03_node_j8_q n_ K = K (ref03_node_j8_p n_) := (bif_k K rfl rfl)
abbrev S74_8 : St := ⟨[(1, ri many), (2, rC tsNode n_), (5, ri (ref03_node_j2_p n_)), (6, rb (ref03_node_j5_p n_)), (7, rb (ref03_node_j8_p n_))], [], [], 119⟩
theorem ref03_node_j8 : R74 C74.r.r.r.r.r.r.l (S74_6 n_ many) (Q74 C74.r.r.r.r.r.r.r q) = R74 C74.r.r.r.r.r.r.r (S74_8 n_ many) q := by
  refine Eq.trans ?_ (ref03_node_j8_n n_ (fun y1344 : Bool => R74 C74.r.r.r.r.r.r.r ⟨[(1, ri many), (2, rC tsNode n_), (5, ri (ref03_node_j2_p n_)), (6, rb (ref03_node_j5_p n_)), (7, rb y1344)], [], [], 119⟩ q))
  unfold ref03_node_j8_q
  refine (pre1 (ref03_node_r8 n_ many _)).trans ?_
  refine (cond_e (b := (ref03_node_r8_p n_)) (st' := (S74_6 n_ many)) ).trans (bif_g ?_ ?_)
  · refine (ref03_node_r9 n_ many _).trans ?_
    refine (seqC_normal (st' := (S74_7 n_ many))).trans ?_
    kernel_rfl
  · refine (skip_eq).trans ?_
    refine (seqC_normal (st' := (S74_6 n_ many))).trans ?_
    kernel_rfl
theorem ref03_node_f1000011 : P74 1 C74.r.r.r.r.r.r.r.l (S74_8 n_ many) k = k ⟨[(1, ri many), (2, rC tsNode n_), (5, ri (ref03_node_j2_p n_)), (6, rb (ref03_node_j5_p n_)), (7, rb (ref03_node_j8_p n_)), (56, rb (n_.1 == 9))], [], [], 119⟩ := by kernel_rfl
abbrev S74_9 : St := ⟨[(1, ri many), (2, rC tsNode n_), (5, ri (ref03_node_j2_p n_)), (6, rb (ref03_node_j5_p n_)), (7, rb (n_.2.2.2.2.1 == 1))], [], [], 119⟩
theorem ref03_node_r11 : R74 C74.r.r.r.r.r.r.r.l.r.t (S74_8 n_ many) q = q .normal (S74_9 n_ many) := by kernel_rfl
def ref03_node_j10_q (K : Bool → β) : β := (bif (n_.1 == 9) then (K (n_.2.2.2.2.1 == 1)) else (K (ref03_node_j8_p n_)))
def ref03_node_j10_p : Bool := ref03_node_j10_q n_ (fun y => y)
theorem ref03_node_j10_n (K : Bool → β) : ref03_node_j10_q n_ K = K (ref03_node_j10_p n_) := (bif_k K rfl rfl)
abbrev S74_10 : St := ⟨[(1, ri many), (2, rC tsNode n_), (5, ri (ref03_node_j2_p n_)), (6, rb (ref03_node_j5_p n_)), (7, rb (ref03_node_j10_p n_))], [], [], 119⟩
theorem ref03_node_j10 : R74 C74.r.r.r.r.r.r.r.l (S74_8 n_ many) (Q74 C74.r.r.r.r.r.r.r.r q) = R74 C74.r.r.r.r.r.r.r.r (S74_10 n_ many) q := by
  refine Eq.trans ?_ (ref03_node_j10_n n_ (fun y1345 : Bool => R74 C74.r.r.r.r.r.r.r.r ⟨[(1, ri many), (2, rC tsNode n_), (5, ri (ref03_node_j2_p n_)), (6, rb (ref03_node_j5_p n_)), (7, rb y1345)], [], [], 119⟩ q))
  unfold ref03_node_j10_q
  refine (pre1 (ref03_node_f1000011 n_ many _)).trans ?_
  refine (cond_e (b := (n_.1 == 9)) (st' := (S74_8 n_ many)) ).trans (bif_g ?_ ?_)
  · refine (ref03_node_r11 n_ many _).trans ?_
    refine (seqC_normal (st' := (S74_9 n_ many))).trans ?_
    kernel_rfl
  · refine (skip_eq).trans ?_
    refine (seqC_normal (st' := (S74_8 n_ many))).trans ?_
    kernel_rfl
abbrev S74_11 : St := ⟨[(1, ri many), (2, rC tsNode n_), (5, ri (ref03_node_j2_p n_)), (6, rb (ref03_node_j5_p n_)), (7, rb (ref03_node_j10_p n_)), (8, rb (n_.2.2.2.2.2.1 == 0))], [], [], 119⟩
theorem ref03_node_f13 : P74 1 C74.r.r.r.r.r.r.r.r (S74_10 n_ many) k = k (S74_11 n_ many) := by kernel_rfl
def ref03_node_r13_q (K : Bool → β) : β := (bif (n_.1 == 1) then (K true) else (K (n_.1 == 3)))
def ref03_node_r13_p : Bool := ref03_node_r13_q n_ (fun y => y)
theorem ref03_node_r13_n (K : Bool → β) : ref03_node_r13_q n_ K = K (ref03_node_r13_p n_) := (bif_k K rfl rfl)
theorem ref03_node_r13 : P74 1 C74.r.r.r.r.r.r.r.r.r.l (S74_11 n_ many) k = k ⟨[(1, ri many), (2, rC tsNode n_), (5, ri (ref03_node_j2_p n_)), (6, rb (ref03_node_j5_p n_)), (7, rb (ref03_node_j10_p n_)), (8, rb (n_.2.2.2.2.2.1 == 0)), (70, rb (ref03_node_r13_p n_))], [], [], 119⟩ := Eq.trans (by kernel_rfl) (ref03_node_r13_n n_ (fun y1346 : Bool => k ⟨[(1, ri many), (2, rC tsNode n_), (5, ri (ref03_node_j2_p n_)), (6, rb (ref03_node_j5_p n_)), (7, rb (ref03_node_j10_p n_)), (8, rb (n_.2.2.2.2.2.1 == 0)), (70, rb y1346)], [], [], 119⟩))
abbrev S74_12 : St := ⟨[(1, ri many), (2, rC tsNode n_), (5, ri (ref03_node_j2_p n_)), (6, rb (ref03_node_j5_p n_)), (7, rb (ref03_node_j10_p n_)), (8, rb (ref03_in n_.2.2.2.2.2.1 (1 : Int) (8 : Int)))], [], [], 119⟩
theorem ref03_node_r14 : R74 C74.r.r.r.r.r.r.r.r.r.l.r.t (S74_11 n_ many) q = q .normal (S74_12 n_ many) := by kernel_rfl
def ref03_node_j13_q (K : Bool → β) : β := (bif (ref03_node_r13_p n_) then (K (ref03_in n_.2.2.2.2.2.1 (1 : Int) (8 : Int))) else (K (n_.2.2.2.2.2.1 == 0)))
def ref03_node_j13_p : Bool := ref03_node_j13_q n_ (fun y => y)
theorem ref03_node_j13_n (K : Bool → β) : ref03_node_j13_q n_ K = K (ref03_node_j13_p n_) := (bif_k K rfl rfl)
abbrev S74_13 : St := ⟨[(1, ri many), (2, rC tsNode n_), (5, ri (ref03_node_j2_p n_)), (6, rb (ref03_node_j5_p n_)), (7, rb (ref03_node_j10_p n_)), (8, rb (ref03_node_j13_p n_))], [], [], 119⟩
theorem ref03_node_j13 : R74 C74.r.r.r.r.r.r.r.r.r.l (S74_11 n_ many) (Q74 C74.r.r.r.r.r.r.r.r.r.r q) = R74 C74.r.r.r.r.r.r.r.r.r.r (S74_13 n_ many) q := by
  refine Eq.trans ?_ (ref03_node_j13_n n_ (fun y1347 : Bool => R74 C74.r.r.r.r.r.r.r.r.r.r ⟨[(1, ri many), (2, rC tsNode n_), (5, ri (ref03_node_j2_p n_)), (6, rb (ref03_node_j5_p n_)), (7, rb (ref03_node_j10_p n_)), (8, rb y1347)], [], [], 119⟩ q))
  unfold ref03_node_j13_q
  refine (pre1 (ref03_node_r13 n_ many _)).trans ?_
  refine (cond_e (b := (ref03_node_r13_p n_)) (st' := (S74_11 n_ many)) ).trans (bif_g ?_ ?_)
  · refine (ref03_node_r14 n_ many _).trans ?_
    refine (seqC_normal (st' := (S74_12 n_ many))).trans ?_
    kernel_rfl
  · refine (skip_eq).trans ?_
    refine (seqC_normal (st' := (S74_11 n_ many))).trans ?_
    kernel_rfl
def ref03_node_r15_q (K : Bool → β) : β := (bif ((n_.2.2.2.2.2.2.2.2.2.1 == 0) && ((n_.2.2.2.2.2.2.2.2.2.2.1 == 0) && ((n_.2.2.2.2.2.2.2.2.2.2.2.1 == 0) && true))) then (K true) else (K (n_.1 == 11)))
def ref03_node_r15_p : Bool := ref03_node_r15_q n_ (fun y => y)
theorem ref03_node_r15_n (K : Bool → β) : ref03_node_r15_q n_ K = K (ref03_node_r15_p n_) := (bif_k K rfl rfl)
abbrev S74_14 : St := ⟨[(1, ri many), (2, rC tsNode n_), (5, ri (ref03_node_j2_p n_)), (6, rb (ref03_node_j5_p n_)), (7, rb (ref03_node_j10_p n_)), (8, rb (ref03_node_j13_p n_)), (9, rb (ref03_node_r15_p n_))], [], [], 119⟩
theorem ref03_node_r15 : P74 1 C74.r.r.r.r.r.r.r.r.r.r (S74_13 n_ many) k = k (S74_14 n_ many) := Eq.trans (by kernel_rfl) (ref03_node_r15_n n_ (fun y1348 : Bool => k ⟨[(1, ri many), (2, rC tsNode n_), (5, ri (ref03_node_j2_p n_)), (6, rb (ref03_node_j5_p n_)), (7, rb (ref03_node_j10_p n_)), (8, rb (ref03_node_j13_p n_)), (9, rb y1348)], [], [], 119⟩))
def ref03_node_r16_q (K : Bool → β) : β := (bif (ref03_in n_.2.2.2.2.2.2.1 (1 : Int) (32767 : Int)) then (bif (ref03_in n_.2.2.2.2.2.2.2.1 (0 : Int) (31 : Int)) then (K (ref03_in n_.2.2.2.2.2.2.2.2.1 (-128 : Int) (127 : Int))) else (K false)) else (K false))
def ref03_node_r16_p : Bool := ref03_node_r16_q n_ (fun y => y)
theorem ref03_node_r16_n (K : Bool → β) : ref03_node_r16_q n_ K = K (ref03_node_r16_p n_) := (bif_k K (bif_k K rfl rfl) rfl)
abbrev S74_15 : St := ⟨[(1, ri many), (2, rC tsNode n_), (5, ri (ref03_node_j2_p n_)), (6, rb (ref03_node_j5_p n_)), (7, rb (ref03_node_j10_p n_)), (8, rb (ref03_node_j13_p n_)), (9, rb (ref03_node_r15_p n_)), (10, rb (ref03_node_r16_p n_))], [], [], 119⟩
theorem ref03_node_r16 : P74 1 C74.r.r.r.r.r.r.r.r.r.r.r (S74_14 n_ many) k = k (S74_15 n_ many) := Eq.trans (by kernel_rfl) (ref03_node_r16_n n_ (fun y1349 : Bool => k ⟨[(1, ri many), (2, rC tsNode n_), (5, ri (ref03_node_j2_p n_)), (6, rb (ref03_node_j5_p n_)), (7, rb (ref03_node_j10_p n_)), (8, rb (ref03_node_j13_p n_)), (9, rb (ref03_node_r15_p n_)), (10, rb y1349)], [], [], 119⟩))
def ref03_node_r17_q (K : Bool → β) : β := (bif (ref03_in n_.1 (1 : Int) (12 : Int)) then (bif (many == (ref03_node_j2_p n_)) then (bif (ref03_node_j5_p n_) then (bif (ref03_node_j10_p n_) then (bif (ref03_node_j13_p n_) then (bif (ref03_node_r15_p n_) then (K (ref03_node_r16_p n_)) else (K false)) else (K false)) else (K false)) else (K false)) else (K false)) else (K false))
def ref03_node_r17_p : Bool := ref03_node_r17_q n_ many (fun y => y)
theorem ref03_node_r17_n (K : Bool → β) : ref03_node_r17_q n_ many K = K (ref03_node_r17_p n_ many) := (bif_k K (bif_k K (bif_k K (bif_k K (bif_k K (bif_k K rfl rfl) rfl) rfl) rfl) rfl) rfl)
theorem ref03_node_r17 : P74 1 C74.r.r.r.r.r.r.r.r.r.r.r.r (S74_15 n_ many) k = k ⟨[(4, rb (ref03_node_r17_p n_ many))], [], [], 119⟩ := Eq.trans (by kernel_rfl) (ref03_node_r17_n n_ many (fun y1350 : Bool => k ⟨[(4, rb y1350)], [], [], 119⟩))
/-- quilt/quiltref03.node -/
def ref03_node_q (K : Bool → β) : β := (K (ref03_node_r17_p n_ many))
def ref03_node : Bool := ref03_node_q n_ many (fun y => y)
theorem ref03_node_n (K : Bool → β) : ref03_node_q n_ many K = K (ref03_node n_ many) := rfl
theorem ref03_node_is : stepS E cp70 ce4 25 [rA tsNode n_, ri many] = (fun y : Bool => some (rb y : R)) (ref03_node n_ many) := by
  refine Eq.trans ?_ (ref03_node_n n_ many (fun y : Bool => some (rb y : R)))
  refine (stepG_is (nt := 119) (regs := [(0, rA tsNode n_), (1, ri many)])).trans ?_
  unfold ref03_node_q
  refine (pre2 (ref03_node_f2 n_ many _)).trans ?_
  refine .trans seq_push ?_
  refine (ref03_node_j2 n_ many _).trans ?_
  refine (pre1 (ref03_node_r4 n_ many _)).trans ?_
  refine .trans seq_push ?_
  refine (ref03_node_j5 n_ many _).trans ?_
  refine (pre1 (ref03_node_f8 n_ many _)).trans ?_
  refine .trans seq_push ?_
  refine (ref03_node_j8 n_ many _).trans ?_
  refine .trans seq_push ?_
  refine (ref03_node_j10 n_ many _).trans ?_
  refine (pre1 (ref03_node_f13 n_ many _)).trans ?_
  refine .trans seq_push ?_
  refine (ref03_node_j13 n_ many _).trans ?_
  refine (pre1 (ref03_node_r15 n_ many _)).trans ?_
  refine (pre1 (ref03_node_r16 n_ many _)).trans ?_
  refine (pre1 (ref03_node_r17 n_ many _)).trans ?_
  refine (ret_eq).trans ?_
  kernel_rfl
noncomputable def cp71 : CallP := withC cp70 25 [(.agg tsNode), pI] (.one pB) (fun y : Bool => y) (fun x => some (ref03_node x.1 x.2.1))
theorem cp71_ok : PureOK E cp71 := conS eok cp70_ok ce4_ok fun x => Eq.mp (by kernel_rfl) (ref03_node_is x.1 x.2.1)
end
noncomputable abbrev C75 := codeOf E.P 26
noncomputable abbrev P75 {α : Type} := @preK α E 26 cp71 ce4
def ref03_keeps_r1_q {β : Type} (op : Int) (K : Bool → β) : β := (bif (op == 4) then (K true) else (bif (op == 5) then (K true) else (bif (op == 8) then (K true) else (bif (op == 9) then (K true) else (bif (op == 10) then (K true) else (K (op == 11)))))))
def ref03_keeps_r1_p (op : Int) : Bool := ref03_keeps_r1_q op (fun y => y)
theorem ref03_keeps_r1_n {β : Type} (op : Int) (K : Bool → β) : ref03_keeps_r1_q op K = K (ref03_keeps_r1_p op) := (bif_k K rfl (bif_k K rfl (bif_k K rfl (bif_k K rfl (bif_k K rfl rfl)))))
theorem ref03_keeps_r1 {α : Type} (op : Int) (k : St → Option α) : P75 2 C75 ⟨[(0, ri op)], [], [], 25⟩ k = k ⟨[(2, rb (ref03_keeps_r1_p op))], [], [], 25⟩ := Eq.trans (by kernel_rfl) (ref03_keeps_r1_n op (fun y1352 : Bool => k ⟨[(2, rb y1352)], [], [], 25⟩))
/-- quilt/quiltref03.keeps -/
def ref03_keeps_q {β : Type} (op : Int) (K : Bool → β) : β := (K (ref03_keeps_r1_p op))
def ref03_keeps (op : Int) : Bool := ref03_keeps_q op (fun y => y)
theorem ref03_keeps_n {β : Type} (op : Int) (K : Bool → β) : ref03_keeps_q op K = K (ref03_keeps op) := rfl
theorem ref03_keeps_is (op : Int) : stepS E cp71 ce4 26 [ri op] = (fun y : Bool => some (rb y : R)) (ref03_keeps op) := by
  refine Eq.trans ?_ (ref03_keeps_n op (fun y : Bool => some (rb y : R)))
  refine (stepG_is (nt := 25) (regs := [(0, ri op)])).trans ?_
  unfold ref03_keeps_q
  refine (pre2 (ref03_keeps_r1 op _)).trans ?_
  refine (ret_eq).trans ?_
  kernel_rfl
noncomputable def cp72 : CallP := withC cp71 26 [pI] (.one pB) (fun y : Bool => y) (fun x => some (ref03_keeps x.1))
theorem cp72_ok : PureOK E cp72 := conS eok cp71_ok ce4_ok fun x => Eq.mp (by kernel_rfl) (ref03_keeps_is x.1)
noncomputable abbrev C76 := codeOf E.P 27
noncomputable abbrev P76 {α : Type} := @preK α E 27 cp72 ce4
theorem ref02_May_f1 {α : Type} (s_ : I3) (k : St → Option α) : P76 1 C76 ⟨[(0, rA tsI3 s_)], [], [], 31⟩ k = k ⟨[(1, rC tsI3 s_)], [], [], 31⟩ := by kernel_rfl
def ref02_May_r1_q {β : Type} (s_ : I3) (K : Bool → β) : β := (bif (decide (s_.1 < 1)) then (K true) else (bif (decide (s_.1 > 16)) then (K true) else (bif (decide (s_.2.1 < 1)) then (K true) else (bif (decide (s_.2.1 > 16)) then (K true) else (bif (decide (s_.2.2 < 1)) then (K true) else (K (decide (s_.2.2 > 8))))))))
def ref02_May_r1_p (s_ : I3) : Bool := ref02_May_r1_q s_ (fun y => y)
theorem ref02_May_r1_n {β : Type} (s_ : I3) (K : Bool → β) : ref02_May_r1_q s_ K = K (ref02_May_r1_p s_) := (bif_k K rfl (bif_k K rfl (bif_k K rfl (bif_k K rfl (bif_k K rfl rfl)))))
theorem ref02_May_r1 {α : Type} (s_ : I3) (k : St → Option α) : P76 1 C76.r.l ⟨[(1, rC tsI3 s_)], [], [], 31⟩ k = k ⟨[(30, rb (ref02_May_r1_p s_))], [], [], 31⟩ := Eq.trans (by kernel_rfl) (ref02_May_r1_n s_ (fun y1370 : Bool => k ⟨[(30, rb y1370)], [], [], 31⟩))
theorem ref02_May_fz {α : Type} (k : St → Option α) : P76 1 C76.r.l.r.t ⟨[], [], [], 31⟩ k = k ⟨[(2, ri 10)], [], [], 31⟩ := by kernel_rfl
theorem ref02_May_fzx1 {α : Type} (k : St → Option α) : P76 1 C76.r.r ⟨[], [], [], 31⟩ k = k ⟨[(2, ri 0)], [], [], 31⟩ := by kernel_rfl
/-- quilt/quiltref02.May -/
def ref02_May_q {β : Type} (s_ : I3) (K : Int → β) : β := (bif (ref02_May_r1_p s_) then (K (10 : Int)) else (K (0 : Int)))
def ref02_May (s_ : I3) : Int := ref02_May_q s_ (fun y => y)
theorem ref02_May_n {β : Type} (s_ : I3) (K : Int → β) : ref02_May_q s_ K = K (ref02_May s_) := (bif_k K rfl rfl)
theorem ref02_May_is (s_ : I3) : stepS E cp72 ce4 27 [rA tsI3 s_] = (fun y : Int => some (ri y : R)) (ref02_May s_) := by
  refine Eq.trans ?_ (ref02_May_n s_ (fun y : Int => some (ri y : R)))
  refine (stepG_is (nt := 31) (regs := [(0, rA tsI3 s_)])).trans ?_
  unfold ref02_May_q
  refine (pre1 (ref02_May_f1 s_ _)).trans ?_
  refine .trans seq_push ?_
  refine (pre1 (ref02_May_r1 s_ _)).trans ?_
  refine (cond_e (b := (ref02_May_r1_p s_)) (st' := ⟨[], [], [], 31⟩) ).trans (bif_g ?_ ?_)
  · refine (pre1 (ref02_May_fz _)).trans ?_
    refine (ret_eq).trans ?_
    refine seqC_ret.trans ?_
    kernel_rfl
  · refine (skip_eq).trans ?_
    refine (seqC_normal (st' := ⟨[], [], [], 31⟩)).trans ?_
    refine (pre1 (ref02_May_fzx1 _)).trans ?_
    refine (ret_eq).trans ?_
    kernel_rfl
noncomputable def cp73 : CallP := withC cp72 27 [(.agg tsI3)] (.one pI) (fun y : Int => y) (fun x => some (ref02_May x.1))
theorem cp73_ok : PureOK E cp73 := conS eok cp72_ok ce4_ok fun x => Eq.mp (by kernel_rfl) (ref02_May_is x.1)
section
variable {α β : Type} (size : Int) (k_ : Int) (stride : Int) (pad : Int) (s1399 : (Int × Int)) (y1400 : (Int × Int)) (k : St → Option α) (q : Kont α)
noncomputable abbrev C77 := codeOf E.P 43
noncomputable abbrev P77 := @preK α E 43 cp73 ce4
noncomputable abbrev R77 := @runCode α E 43 cp73 ce4
abbrev S77_0 : St := ⟨[(0, ri size), (1, ri k_), (2, ri stride), (3, ri pad)], [], [], 56⟩
theorem ref02_Out_f1 : P77 1 C77 (S77_0 size k_ stride pad) k = k (S77_0 size k_ stride pad) := by kernel_rfl
def ref02_Out_r1_q (K : Bool → β) : β := (bif (decide (size < 1)) then (K true) else (bif (decide (size > 64)) then (K true) else (bif (decide (k_ < 1)) then (K true) else (bif (decide (k_ > 16)) then (K true) else (bif (decide (stride < 1)) then (K true) else (bif (decide (stride > 16)) then (K true) else (bif (decide (pad < 0)) then (K true) else (K (decide (pad > 16))))))))))
def ref02_Out_r1_p : Bool := ref02_Out_r1_q size k_ stride pad (fun y => y)
theorem ref02_Out_r1_n (K : Bool → β) : ref02_Out_r1_q size k_ stride pad K = K (ref02_Out_r1_p size k_ stride pad) := (bif_k K rfl (bif_k K rfl (bif_k K rfl (bif_k K rfl (bif_k K rfl (bif_k K rfl (bif_k K rfl rfl)))))))
theorem ref02_Out_r1 : P77 1 C77.r.l (S77_0 size k_ stride pad) k = k ⟨[(0, ri size), (1, ri k_), (2, ri stride), (3, ri pad), (40, rb (ref02_Out_r1_p size k_ stride pad))], [], [], 56⟩ := Eq.trans (by kernel_rfl) (ref02_Out_r1_n size k_ stride pad (fun y1390 : Bool => k ⟨[(0, ri size), (1, ri k_), (2, ri stride), (3, ri pad), (40, rb y1390)], [], [], 56⟩))
theorem ref02_Out_fz : P77 1 C77.r.l.r.t (S77_0 size k_ stride pad) k = k ⟨[(8, ri 0)], [], [], 56⟩ := by kernel_rfl
theorem ref02_Out_f4 : P77 1 C77.r.r (S77_0 size k_ stride pad) k = k ⟨[(0, ri size), (1, ri k_), (2, ri stride), (3, ri pad), (9, ri 0)], [], [], 56⟩ := by kernel_rfl
abbrev S77_1 : St := ⟨[(0, ri size), (1, ri k_), (2, ri stride), (3, ri pad), (9, ri 0), (10, ri (IntKind.wrap .i64 (0 - pad)))], [], [], 56⟩
theorem ref02_Out_f5 : P77 1 C77.r.r.r.l ⟨[(0, ri size), (1, ri k_), (2, ri stride), (3, ri pad), (9, ri 0)], [], [], 56⟩ k = k (S77_1 size k_ stride pad) := by kernel_rfl
abbrev S77_2 : St := ⟨[(0, ri size), (1, ri k_), (2, ri stride), (3, ri pad), (9, ri s1399.1), (10, ri s1399.2)], [], [], 56⟩
theorem ref02_Out_fzx1 : P77 1 C77.r.r.r.l.r.b.b.l (S77_2 size k_ stride pad s1399) k = k ⟨[(0, ri size), (1, ri k_), (2, ri stride), (3, ri pad), (9, ri s1399.1), (10, ri s1399.2), (49, rb (decide ((IntKind.wrap .i64 (s1399.2 + k_)) ≤ (IntKind.wrap .i64 (size + pad)))))], [], [], 56⟩ := by kernel_rfl
abbrev S77_3 : St := ⟨[(0, ri size), (1, ri k_), (2, ri stride), (3, ri pad), (9, ri (IntKind.wrap .i64 (s1399.1 + 1))), (10, ri s1399.2)], [], [], 56⟩
theorem ref02_Out_r7 : R77 C77.r.r.r.l.r.b.b.r.l.b (S77_2 size k_ stride pad s1399) q = q .normal (S77_3 size k_ stride pad s1399) := by kernel_rfl
theorem ref02_Out_r6 : R77 C77.r.r.r.l.r.b.b.r.r (S77_3 size k_ stride pad s1399) q = q .normal ⟨[(0, ri size), (1, ri k_), (2, ri stride), (3, ri pad), (9, ri (IntKind.wrap .i64 (s1399.1 + 1))), (10, ri (IntKind.wrap .i64 (s1399.2 + stride)))], [], [], 56⟩ := by kernel_rfl
def ref02_Out_l5_p : Option ((Int × Int) ⊕ (Int × Int)) := (bif (decide ((IntKind.wrap .i64 (s1399.2 + k_)) ≤ (IntKind.wrap .i64 (size + pad)))) then (some (Sum.inl ((IntKind.wrap .i64 (s1399.1 + 1)), (IntKind.wrap .i64 (s1399.2 + stride))))) else (some (Sum.inr s1399)))
abbrev S77_4 : St := ⟨[(0, ri size), (1, ri k_), (2, ri stride), (3, ri pad), (9, ri y1400.1), (10, ri y1400.2)], [], [], 56⟩
theorem ref02_Out_l5_b : R77 C77.r.r.r.l.r.b.b (S77_2 size k_ stride pad s1399) (loopKont 0 q) = Option.bind (ref02_Out_l5_p size k_ stride pad s1399) (either (fun y : (Int × Int) => q .normal ⟨[(0, ri size), (1, ri k_), (2, ri stride), (3, ri pad), (9, ri y.1), (10, ri y.2)], [], [], 56⟩) (fun y1400 : (Int × Int) => q (.exit 0) (S77_4 size k_ stride pad y1400))) := by
  refine .trans ?_ (bif_b e2_0 e2_1)
  refine .trans seq_push ?_
  refine (pre1 (ref02_Out_fzx1 size k_ stride pad s1399 _)).trans ?_
  refine (cond_e (b := (decide ((IntKind.wrap .i64 (s1399.2 + k_)) ≤ (IntKind.wrap .i64 (size + pad))))) (st' := (S77_2 size k_ stride pad s1399)) ).trans (bif_g ?_ ?_)
  · refine (skip_eq).trans ?_
    refine (seqC_normal (st' := (S77_2 size k_ stride pad s1399))).trans ?_
    refine .trans seq_push ?_
    refine (block_push (id := 1)).trans ?_
    refine (ref02_Out_r7 size k_ stride pad s1399 _).trans ?_
    refine block_normal.trans ?_
    refine (seqC_normal (st' := (S77_3 size k_ stride pad s1399))).trans ?_
    refine (ref02_Out_r6 size k_ stride pad s1399 _).trans ?_
    kernel_rfl
  · refine ((exit_eq (j := 0))).trans ?_
    refine seqC_exit.trans ?_
    kernel_rfl
theorem ref02_Out_l5 : R77 C77.r.r.r.l.r.b (S77_1 size k_ stride pad) q = Option.bind (iterN (ref02_Out_l5_p size k_ stride pad) LL ((0 : Int), (IntKind.wrap .i64 (0 - pad)))) (fun y1400 : (Int × Int) => q (.exit 0) (S77_4 size k_ stride pad y1400)) :=
  Eq.trans (by kernel_rfl) (loop_iter1 (S := fun s1399 : (Int × Int) => (S77_2 size k_ stride pad s1399)) (Y1 := fun y1400 : (Int × Int) => ((.exit 0), (S77_4 size k_ stride pad y1400))) (fun s q => ref02_Out_l5_b size k_ stride pad s q) (fun z => rfl) LL ((0 : Int), (IntKind.wrap .i64 (0 - pad))))
theorem ref02_Out_fzx2 : P77 1 C77.r.r.r.r ⟨[(9, ri y1400.1)], [], [], 56⟩ k = k ⟨[(8, ri y1400.1)], [], [], 56⟩ := by kernel_rfl
/-- quilt/quiltref02.Out -/
def ref02_Out : Option Int := (bif (ref02_Out_r1_p size k_ stride pad) then (some (0 : Int)) else (Option.bind (iterN (ref02_Out_l5_p size k_ stride pad) LL ((0 : Int), (IntKind.wrap .i64 (0 - pad)))) (fun y1400 : (Int × Int) => (some y1400.1))))
theorem ref02_Out_is : stepS E cp73 ce4 43 [ri size, ri k_, ri stride, ri pad] = Option.bind (ref02_Out size k_ stride pad) (fun y : Int => some (ri y : R)) := by
  refine .trans ?_ (bif_b some_b (bind_b fun y1400 => some_b))
  refine (stepG_is (nt := 56) (regs := [(0, ri size), (1, ri k_), (2, ri stride), (3, ri pad)])).trans ?_
  refine (pre1 (ref02_Out_f1 size k_ stride pad _)).trans ?_
  refine .trans seq_push ?_
  refine (pre1 (ref02_Out_r1 size k_ stride pad _)).trans ?_
  refine (cond_e (b := (ref02_Out_r1_p size k_ stride pad)) (st' := (S77_0 size k_ stride pad)) ).trans (bif_g ?_ ?_)
  · refine (pre1 (ref02_Out_fz size k_ stride pad _)).trans ?_
    refine (ret_eq).trans ?_
    refine seqC_ret.trans ?_
    kernel_rfl
  · refine (skip_eq).trans ?_
    refine (seqC_normal (st' := (S77_0 size k_ stride pad))).trans ?_
    refine (pre1 (ref02_Out_f4 size k_ stride pad _)).trans ?_
    refine .trans seq_push ?_
    refine (pre1 (ref02_Out_f5 size k_ stride pad _)).trans ?_
    refine (block_push (id := 0)).trans ?_
    refine (ref02_Out_l5 size k_ stride pad _).trans (bind_g fun y1400 => ?_)
    refine block_same.trans ?_
    refine (seqC_normal (st' := ⟨[(9, ri y1400.1)], [], [], 56⟩)).trans ?_
    refine (pre1 (ref02_Out_fzx2 y1400 _)).trans ?_
    refine (ret_eq).trans ?_
    kernel_rfl
noncomputable def cp74 : CallP := withC cp73 43 [pI, pI, pI, pI] (.one pI) (fun y : Int => y) (fun x => ref02_Out x.1 x.2.1 x.2.2.1 x.2.2.2.1)
theorem cp74_ok : PureOK E cp74 := conS eok cp73_ok ce4_ok fun x => Eq.mp (by kernel_rfl) (ref02_Out_is x.1 x.2.1 x.2.2.1 x.2.2.2.1)
end
noncomputable abbrev C78 := codeOf E.P 21
noncomputable abbrev P78 {α : Type} := @preK α E 21 cp74 ce4
abbrev S78_0 (s_ : I3) : St := ⟨[(1, rC tsI3 s_)], [], [], 14⟩
theorem ref02_Size_f1 {α : Type} (s_ : I3) (k : St → Option α) : P78 1 C78 ⟨[(0, rA tsI3 s_)], [], [], 14⟩ k = k (S78_0 s_) := by kernel_rfl
theorem ref02_Size_f1000002 {α : Type} (s_ : I3) (k : St → Option α) : P78 1 C78.r.l (S78_0 s_) k = k ⟨[(1, rC tsI3 s_), (5, rb ((ref02_May s_) != 0))], [], [], 14⟩ := by kernel_rfl
theorem ref02_Size_fz {α : Type} (s_ : I3) (k : St → Option α) : P78 1 C78.r.l.r.t (S78_0 s_) k = k ⟨[(2, ri 0)], [], [], 14⟩ := by kernel_rfl
theorem ref02_Size_fzx1 {α : Type} (s_ : I3) (k : St → Option α) : P78 1 C78.r.r (S78_0 s_) k = k ⟨[(2, ri (IntKind.wrap .i64 ((IntKind.wrap .i64 (s_.1 * s_.2.1)) * s_.2.2)))], [], [], 14⟩ := by kernel_rfl
/-- quilt/quiltref02.Size -/
def ref02_Size_q {β : Type} (s_ : I3) (K : Int → β) : β := (bif ((ref02_May s_) != 0) then (K (0 : Int)) else (K (IntKind.wrap .i64 ((IntKind.wrap .i64 (s_.1 * s_.2.1)) * s_.2.2))))
def ref02_Size (s_ : I3) : Int := ref02_Size_q s_ (fun y => y)
theorem ref02_Size_n {β : Type} (s_ : I3) (K : Int → β) : ref02_Size_q s_ K = K (ref02_Size s_) := (bif_k K rfl rfl)
theorem ref02_Size_is (s_ : I3) : stepS E cp74 ce4 21 [rA tsI3 s_] = (fun y : Int => some (ri y : R)) (ref02_Size s_) := by
  refine Eq.trans ?_ (ref02_Size_n s_ (fun y : Int => some (ri y : R)))
  refine (stepG_is (nt := 14) (regs := [(0, rA tsI3 s_)])).trans ?_
  unfold ref02_Size_q
  refine (pre1 (ref02_Size_f1 s_ _)).trans ?_
  refine .trans seq_push ?_
  refine (pre1 (ref02_Size_f1000002 s_ _)).trans ?_
  refine (cond_e (b := ((ref02_May s_) != 0)) (st' := (S78_0 s_)) ).trans (bif_g ?_ ?_)
  · refine (pre1 (ref02_Size_fz s_ _)).trans ?_
    refine (ret_eq).trans ?_
    refine seqC_ret.trans ?_
    kernel_rfl
  · refine (skip_eq).trans ?_
    refine (seqC_normal (st' := (S78_0 s_))).trans ?_
    refine (pre1 (ref02_Size_fzx1 s_ _)).trans ?_
    refine (ret_eq).trans ?_
    kernel_rfl
noncomputable def cp75 : CallP := withC cp74 21 [(.agg tsI3)] (.one pI) (fun y : Int => y) (fun x => some (ref02_Size x.1))
theorem cp75_ok : PureOK E cp75 := conS eok cp74_ok ce4_ok fun x => Eq.mp (by kernel_rfl) (ref02_Size_is x.1)
end Go.V.P
