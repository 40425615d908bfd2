/- What functions compute. -/
import Derived.Test.YtcmckbcpeocokaaGb1
namespace Go.V.P
open Go.RowKit Go.V Go.Proofs
set_option linter.unusedVariables false
set_option maxRecDepth 100000
section
variable {α β : Type} (g_ : Graph) (s312 : Int) (k : St → Option α) (q : Kont α)
noncomputable abbrev C38 := codeOf E.P 45
noncomputable abbrev P38 := @preK α E 45 cp38 noE
noncomputable abbrev R38 := @runCode α E 45 cp38 noE
abbrev S38_0 : St := ⟨[(1, rC tsGraph g_)], [], [], 55⟩
theorem graph_goesIn_f1 : P38 1 C38 ⟨[(0, rA tsGraph g_)], [], [], 55⟩ k = k (S38_0 g_) := by kernel_rfl
def graph_goesIn_r1_q (K : Bool → β) : β := (bif (decide ((g_.1.length : Int) > 4)) then (K true) else (bif (decide ((g_.2.1.length : Int) > 12)) then (K true) else (K (decide ((g_.2.2.length : Int) > 4)))))
def graph_goesIn_r1_p : Bool := graph_goesIn_r1_q g_ (fun y => y)
theorem graph_goesIn_r1_n (K : Bool → β) : graph_goesIn_r1_q g_ K = K (graph_goesIn_r1_p g_) := (bif_k K rfl (bif_k K rfl rfl))
theorem graph_goesIn_r1 : P38 1 C38.r.l.b (S38_0 g_) k = k ⟨[(1, rC tsGraph g_), (6, rb (graph_goesIn_r1_p g_))], [], [], 55⟩ := Eq.trans (by kernel_rfl) (graph_goesIn_r1_n g_ (fun y293 : Bool => k ⟨[(1, rC tsGraph g_), (6, rb y293)], [], [], 55⟩))
theorem graph_goesIn_fz : P38 1 C38.r.l.b.r.t (S38_0 g_) k = k ⟨[(2, .one (.ow tsI4 [] (.v 2))), (3, ri 3)], [], [], 55⟩ := by kernel_rfl
def graph_goesIn_r3_q (K : Bool → β) : β := (bif ((g_.1.length : Int) == 0) then (K true) else (K ((g_.2.2.length : Int) == 0)))
def graph_goesIn_r3_p : Bool := graph_goesIn_r3_q g_ (fun y => y)
theorem graph_goesIn_r3_n (K : Bool → β) : graph_goesIn_r3_q g_ K = K (graph_goesIn_r3_p g_) := (bif_k K rfl rfl)
theorem graph_goesIn_r3 : P38 1 C38.r.l.b.r.e (S38_0 g_) k = k ⟨[(1, rC tsGraph g_), (23, rb (graph_goesIn_r3_p g_))], [], [], 55⟩ := Eq.trans (by kernel_rfl) (graph_goesIn_r3_n g_ (fun y294 : Bool => k ⟨[(1, rC tsGraph g_), (23, rb y294)], [], [], 55⟩))
theorem graph_goesIn_fzx1 : P38 1 C38.r.l.b.r.e.r.t (S38_0 g_) k = k ⟨[(2, .one (.ow tsI4 [] (.v 2))), (3, ri 13)], [], [], 55⟩ := by kernel_rfl
abbrev S38_1 : St := ⟨[(1, rC tsGraph g_), (35, rl tsI4 g_.1), (36, ri (g_.1.length : Int)), (37, ri 0)], [], [], 55⟩
theorem graph_goesIn_f6 : P38 1 C38.r.r.l (S38_0 g_) k = k (S38_1 g_) := by kernel_rfl
abbrev S38_2 : St := ⟨[(1, rC tsGraph g_), (35, rl tsI4 g_.1), (36, ri (g_.1.length : Int)), (37, ri s312)], [], [], 55⟩
theorem graph_goesIn_fzx2 : P38 1 C38.r.r.l.r.b.b (S38_2 g_ s312) k = k ⟨[(1, rC tsGraph g_), (35, rl tsI4 g_.1), (36, ri (g_.1.length : Int)), (37, ri s312), (38, rb (decide (s312 < (g_.1.length : Int))))], [], [], 55⟩ := by kernel_rfl
def graph_goesIn_r7_p : Option Unit := (bif (decide ((0 : Int) ≤ s312)) then (bif (decide (s312 < (g_.1.length : Int))) then (some ()) else none) else none)
abbrev S38_3 : St := ⟨[(1, rC tsGraph g_), (5, rF 0), (35, rl tsI4 g_.1), (36, ri (g_.1.length : Int)), (37, ri s312)], [(tsI4.leaves (gt g_.1 s312 dI4))], [], 55⟩
theorem graph_goesIn_r7 : P38 1 C38.r.r.l.r.b.b.r.r.l.b (S38_2 g_ s312) k = Option.bind (graph_goesIn_r7_p g_ s312) (fun y315 : Unit => k (S38_3 g_ s312)) := .trans (by kernel_rfl) (bif_b (bif_b some_b none_b) none_b)
theorem graph_goesIn_r8 : P38 1 C38.r.r.l.r.b.b.r.r.l.b.r.b (S38_3 g_ s312) k = Option.bind (shape_May ((gt g_.1 s312 dI4).1, (gt g_.1 s312 dI4).2.1, (gt g_.1 s312 dI4).2.2.1)) fun y316 : Int => k ⟨[(1, rC tsGraph g_), (5, rF 0), (35, rl tsI4 g_.1), (36, ri (g_.1.length : Int)), (37, ri s312), (41, rb (y316 != 0))], [(tsI4.leaves (gt g_.1 s312 dI4))], [], 55⟩ := by kernel_rfl
theorem graph_goesIn_fzx3 : P38 1 C38.r.r.l.r.b.b.r.r.l.b.r.b.r.t (S38_3 g_ s312) k = k ⟨[(2, .one (.ow tsI4 [] (.v 2))), (3, ri 10)], [[]], [], 55⟩ := by kernel_rfl
theorem graph_goesIn_f1000011 : P38 1 C38.r.r.l.r.b.b.r.r.l.b.r.b.r.e (S38_3 g_ s312) k = k ⟨[(1, rC tsGraph g_), (35, rl tsI4 g_.1), (36, ri (g_.1.length : Int)), (37, ri s312), (46, rb (!(graph_within ((gt g_.1 s312 dI4).2.2.2) (-128 : Int) (127 : Int))))], [[]], [], 55⟩ := by kernel_rfl
abbrev S38_4 : St := ⟨[(1, rC tsGraph g_), (35, rl tsI4 g_.1), (36, ri (g_.1.length : Int)), (37, ri s312)], [[]], [], 55⟩
theorem graph_goesIn_fzx4 : P38 1 C38.r.r.l.r.b.b.r.r.l.b.r.b.r.e.r.t (S38_4 g_ s312) k = k ⟨[(2, .one (.ow tsI4 [] (.v 2))), (3, ri 11)], [[]], [], 55⟩ := by kernel_rfl
theorem graph_goesIn_r12 : R38 C38.r.r.l.r.b.b.r.r.r (S38_4 g_ s312) q = q .normal ⟨[(1, rC tsGraph g_), (35, rl tsI4 g_.1), (36, ri (g_.1.length : Int)), (37, ri (IntKind.wrap .i64 (s312 + 1)))], [[]], [], 55⟩ := by kernel_rfl
def graph_goesIn_l6_p : Option (Int ⊕ (Int ⊕ Int)) := (bif (decide (s312 < (g_.1.length : Int))) then (Option.bind (graph_goesIn_r7_p g_ s312) (fun y315 : Unit => (Option.bind (shape_May ((gt g_.1 s312 dI4).1, (gt g_.1 s312 dI4).2.1, (gt g_.1 s312 dI4).2.2.1)) (fun y316 : Int => (bif (y316 != 0) then (some (Sum.inr (Sum.inr (10 : Int)))) else (bif (!(graph_within ((gt g_.1 s312 dI4).2.2.2) (-128 : Int) (127 : Int))) then (some (Sum.inr (Sum.inr (11 : Int)))) else (some (Sum.inl (IntKind.wrap .i64 (s312 + 1)))))))))) else (some (Sum.inr (Sum.inl s312))))
abbrev S38_5 (y317 : Int) : St := ⟨[(1, rC tsGraph g_), (35, rl tsI4 g_.1), (36, ri (g_.1.length : Int)), (37, ri y317)], [], [], 55⟩
abbrev S38_6 (y318 : Int) : St := ⟨[(2, .one (.ow tsI4 [] (.v 2))), (3, ri y318)], [[]], [], 55⟩
theorem graph_goesIn_l6_b : R38 C38.r.r.l.r.b.b (S38_2 g_ s312) (loopKont 0 q) = Option.bind (graph_goesIn_l6_p g_ s312) (either (fun y : Int => q .normal ⟨[(1, rC tsGraph g_), (35, rl tsI4 g_.1), (36, ri (g_.1.length : Int)), (37, ri y)], [], [], 55⟩) (either (fun y317 : Int => q (.exit 1) (S38_5 g_ y317)) (fun y318 : Int => q .ret (S38_6 y318)))) := by
  refine .trans ?_ (bif_b (bind_b fun y315 => (bind_b fun y316 => (bif_b e3_2 (bif_b e3_2 e3_0)))) e3_1)
  refine (pre1 (graph_goesIn_fzx2 g_ s312 _)).trans ?_
  refine .trans seq_push ?_
  refine (cond_e (b := (decide (s312 < (g_.1.length : Int)))) (st' := (S38_2 g_ s312)) ).trans (bif_g ?_ ?_)
  · refine (skip_eq).trans ?_
    refine (seqC_normal (st' := (S38_2 g_ s312))).trans ?_
    refine .trans seq_push ?_
    refine (block_push (id := 2)).trans ?_
    refine (pre1 (graph_goesIn_r7 g_ s312 _)).trans (bind_g fun y315 => ?_)
    refine (block_push (id := 3)).trans ?_
    refine (pre1 (graph_goesIn_r8 g_ s312 _)).trans (bind_g fun y316 => ?_)
    refine (cond_e (b := (y316 != 0)) (st' := (S38_3 g_ s312)) ).trans (bif_g ?_ ?_)
    · refine (pre1 (graph_goesIn_fzx3 g_ s312 _)).trans ?_
      refine (ret_eq).trans ?_
      refine block_ret.trans ?_
      refine block_ret.trans ?_
      refine seqC_ret.trans ?_
      kernel_rfl
    · refine (pre1 (graph_goesIn_f1000011 g_ s312 _)).trans ?_
      refine (cond_e (b := (!(graph_within ((gt g_.1 s312 dI4).2.2.2) (-128 : Int) (127 : Int)))) (st' := (S38_4 g_ s312)) ).trans (bif_g ?_ ?_)
      · refine (pre1 (graph_goesIn_fzx4 g_ s312 _)).trans ?_
        refine (ret_eq).trans ?_
        refine block_ret.trans ?_
        refine block_ret.trans ?_
        refine seqC_ret.trans ?_
        kernel_rfl
      · refine (skip_eq).trans ?_
        refine block_normal.trans ?_
        refine block_normal.trans ?_
        refine (seqC_normal (st' := (S38_4 g_ s312))).trans ?_
        refine (graph_goesIn_r12 g_ s312 _).trans ?_
        kernel_rfl
  · refine ((exit_eq (j := 1))).trans ?_
    refine seqC_exit.trans ?_
    kernel_rfl
theorem graph_goesIn_l6 : R38 C38.r.r.l.r.b (S38_1 g_) q = Option.bind (iterN (graph_goesIn_l6_p g_) LL (0 : Int)) (either (fun y317 : Int => q (.exit 1) (S38_5 g_ y317)) (fun y318 : Int => q .ret (S38_6 y318))) :=
  Eq.trans (by kernel_rfl) (loop_iter2 (S := fun s312 : Int => (S38_2 g_ s312)) (Y1 := fun y317 : Int => ((.exit 1), (S38_5 g_ y317))) (Y2 := fun y318 : Int => (.ret, (S38_6 y318))) (fun s q => graph_goesIn_l6_b g_ s q) (fun z => rfl) (fun z => rfl) LL (0 : Int))
theorem graph_goesIn_r13 : P38 1 C38.r.r.r (S38_0 g_) k = Option.bind (slices_Cloneapi_Value_api_Value g_.1) fun y319 : (List I4) => k ⟨[(2, rO tsI4 y319 2), (3, ri 0)], [], [], 55⟩ := by kernel_rfl
/-- quilt/graph.goesIn -/
def graph_goesIn : Option ((List I4) × Int) := (bif (graph_goesIn_r1_p g_) then (some ([], (3 : Int))) else (bif (graph_goesIn_r3_p g_) then (some ([], (13 : Int))) else (Option.bind (iterN (graph_goesIn_l6_p g_) LL (0 : Int)) (either (fun y317 : Int => (Option.bind (slices_Cloneapi_Value_api_Value g_.1) (fun y319 : (List I4) => (some (y319, (0 : Int)))))) (fun y318 : Int => (some ([], y318)))))))
theorem graph_goesIn_is : stepO E cp38 noE 45 [rA tsGraph g_] = Option.bind (graph_goesIn g_) (fun y : ((List I4) × Int) => some (.tup [.one (.ow tsI4 y.1 (.s 0)), ri y.2] : R)) := by
  refine .trans ?_ (bif_b some_b (bif_b some_b (bind_b (either_b (fun y317 => (bind_b fun y319 => some_b)) (fun y318 => some_b)))))
  refine (stepG_is (nt := 55) (regs := [(0, rA tsGraph g_)])).trans ?_
  refine (pre1 (graph_goesIn_f1 g_ _)).trans ?_
  refine .trans seq_push ?_
  refine (block_push (id := 0)).trans ?_
  refine (pre1 (graph_goesIn_r1 g_ _)).trans ?_
  refine (cond_e (b := (graph_goesIn_r1_p g_)) (st' := (S38_0 g_)) ).trans (bif_g ?_ ?_)
  · refine (pre1 (graph_goesIn_fz g_ _)).trans ?_
    refine (ret_eq).trans ?_
    refine block_ret.trans ?_
    refine seqC_ret.trans ?_
    kernel_rfl
  · refine (pre1 (graph_goesIn_r3 g_ _)).trans ?_
    refine (cond_e (b := (graph_goesIn_r3_p g_)) (st' := (S38_0 g_)) ).trans (bif_g ?_ ?_)
    · refine (pre1 (graph_goesIn_fzx1 g_ _)).trans ?_
      refine (ret_eq).trans ?_
      refine block_ret.trans ?_
      refine seqC_ret.trans ?_
      kernel_rfl
    · refine (skip_eq).trans ?_
      refine block_normal.trans ?_
      refine (seqC_normal (st' := (S38_0 g_))).trans ?_
      refine .trans seq_push ?_
      refine (pre1 (graph_goesIn_f6 g_ _)).trans ?_
      refine (block_push (id := 1)).trans ?_
      refine (graph_goesIn_l6 g_ _).trans (bind_g (either_g (fun y317 => ?_) (fun y318 => ?_)))
      · refine block_same.trans ?_
        refine (seqC_normal (st' := (S38_0 g_))).trans ?_
        refine (pre1 (graph_goesIn_r13 g_ _)).trans (bind_g fun y319 => ?_)
        refine (ret_eq).trans ?_
        kernel_rfl
      · refine block_ret.trans ?_
        refine seqC_ret.trans ?_
        kernel_rfl
noncomputable def cp39 : CallP := withC cp38 45 [(.agg tsGraph)] (.tup [(.one (.ow tsI4)), pI]) (fun y : ((List I4) × Int) => (y.1, y.2, ())) (fun x => graph_goesIn x.1)
theorem cp39_ok : PureOK E cp39 := conO eok cp38_ok noE_ok fun x => Eq.mp (by kernel_rfl) (graph_goesIn_is x.1)
end
section
variable {α β : Type} (vals : (List I4)) (l_ : (List Int)) (s352 : ((List I4) × Int)) (y361 : ((List I4) × Int)) (k : St → Option α) (q : Kont α)
noncomputable abbrev C39 := codeOf E.P 46
noncomputable abbrev P39 := @preK α E 46 cp39 noE
noncomputable abbrev R39 := @runCode α E 46 cp39 noE
abbrev S39_0 : St := ⟨[(0, rl tsI4 vals), (1, rl (.one (.int .i64)) l_), (4, .one (.ow tsI4 [] (.v 4)))], [], [], 29⟩
theorem graph_picked_f1 : P39 1 C39 ⟨[(0, rl tsI4 vals), (1, rl (.one (.int .i64)) l_)], [], [], 29⟩ k = k (S39_0 vals l_) := by kernel_rfl
abbrev S39_1 : St := ⟨[(0, rl tsI4 vals), (4, .one (.ow tsI4 [] (.v 4))), (8, rl (.one (.int .i64)) l_), (9, ri (l_.length : Int)), (10, ri 0)], [], [], 29⟩
theorem graph_picked_f2 : P39 1 C39.r.l (S39_0 vals l_) k = k (S39_1 vals l_) := by kernel_rfl
abbrev S39_2 : St := ⟨[(0, rl tsI4 vals), (4, rO tsI4 s352.1 4), (8, rl (.one (.int .i64)) l_), (9, ri (l_.length : Int)), (10, ri s352.2)], [], [], 29⟩
theorem graph_picked_fz : P39 1 C39.r.l.r.b.b (S39_2 vals l_ s352) k = k ⟨[(0, rl tsI4 vals), (4, rO tsI4 s352.1 4), (8, rl (.one (.int .i64)) l_), (9, ri (l_.length : Int)), (10, ri s352.2), (11, rb (decide (s352.2 < (l_.length : Int))))], [], [], 29⟩ := by kernel_rfl
def graph_picked_r3_p : Option Unit := (bif (decide ((0 : Int) ≤ s352.2)) then (bif (decide (s352.2 < (l_.length : Int))) then (some ()) else none) else none)
abbrev S39_3 : St := ⟨[(0, rl tsI4 vals), (4, rO tsI4 s352.1 4), (7, ri (gt l_ s352.2 (0 : Int))), (8, rl (.one (.int .i64)) l_), (9, ri (l_.length : Int)), (10, ri s352.2)], [], [], 29⟩
theorem graph_picked_r3 : P39 1 C39.r.l.r.b.b.r.r.l.b (S39_2 vals l_ s352) k = Option.bind (graph_picked_r3_p l_ s352) (fun y357 : Unit => k (S39_3 vals l_ s352)) := .trans (by kernel_rfl) (bif_b (bif_b some_b none_b) none_b)
def graph_picked_r4_q (K : Bool → β) : β := (K (!(graph_within (gt l_ s352.2 (0 : Int)) (0 : Int) (IntKind.wrap .i64 ((vals.length : Int) - 1)))))
def graph_picked_r4_p : Bool := graph_picked_r4_q vals l_ s352 (fun y => y)
theorem graph_picked_r4_n (K : Bool → β) : graph_picked_r4_q vals l_ s352 K = K (graph_picked_r4_p vals l_ s352) := rfl
theorem graph_picked_r4 : P39 1 C39.r.l.r.b.b.r.r.l.b.r.l (S39_3 vals l_ s352) k = k ⟨[(0, rl tsI4 vals), (4, rO tsI4 s352.1 4), (7, ri (gt l_ s352.2 (0 : Int))), (8, rl (.one (.int .i64)) l_), (9, ri (l_.length : Int)), (10, ri s352.2), (19, rb (graph_picked_r4_p vals l_ s352))], [], [], 29⟩ := Eq.trans (by kernel_rfl) (graph_picked_r4_n vals l_ s352 (fun y359 : Bool => k ⟨[(0, rl tsI4 vals), (4, rO tsI4 s352.1 4), (7, ri (gt l_ s352.2 (0 : Int))), (8, rl (.one (.int .i64)) l_), (9, ri (l_.length : Int)), (10, ri s352.2), (19, rb y359)], [], [], 29⟩))
abbrev S39_4 : St := ⟨[(4, .one (.ow tsI4 [] (.v 4))), (5, rb false)], [], [], 29⟩
theorem graph_picked_fzx1 : P39 1 C39.r.l.r.b.b.r.r.l.b.r.l.r.t (S39_3 vals l_ s352) k = k S39_4 := by kernel_rfl
def graph_picked_r6_p : Option Unit := (bif (decide ((0 : Int) ≤ (gt l_ s352.2 (0 : Int)))) then (bif (decide ((gt l_ s352.2 (0 : Int)) < (vals.length : Int))) then (bif (decide (s352.1.length + ([(gt vals (gt l_ s352.2 (0 : Int)) dI4)] : List I4).length ≤ maxL)) then (some ()) else none) else none) else none)
abbrev S39_5 : St := ⟨[(0, rl tsI4 vals), (4, .one (.ow tsI4 (s352.1 ++ [(gt vals (gt l_ s352.2 (0 : Int)) dI4)]) (.v 4))), (8, rl (.one (.int .i64)) l_), (9, ri (l_.length : Int)), (10, ri s352.2)], [], [], 29⟩
theorem graph_picked_r6 : R39 C39.r.l.r.b.b.r.r.l.b.r.r (S39_3 vals l_ s352) q = Option.bind (graph_picked_r6_p vals l_ s352) (fun y360 : Unit => q .normal (S39_5 vals l_ s352)) := .trans (by kernel_rfl) (bif_b (bif_b (bif_b some_b none_b) none_b) none_b)
theorem graph_picked_r7 : R39 C39.r.l.r.b.b.r.r.r (S39_5 vals l_ s352) q = q .normal ⟨[(0, rl tsI4 vals), (4, .one (.ow tsI4 (s352.1 ++ [(gt vals (gt l_ s352.2 (0 : Int)) dI4)]) (.v 4))), (8, rl (.one (.int .i64)) l_), (9, ri (l_.length : Int)), (10, ri (IntKind.wrap .i64 (s352.2 + 1)))], [], [], 29⟩ := by kernel_rfl
def graph_picked_l2_p : Option (((List I4) × Int) ⊕ (((List I4) × Int) ⊕ Unit)) := (bif (decide (s352.2 < (l_.length : Int))) then (Option.bind (graph_picked_r3_p l_ s352) (fun y357 : Unit => (bif (graph_picked_r4_p vals l_ s352) then (some (Sum.inr (Sum.inr ()))) else (Option.bind (graph_picked_r6_p vals l_ s352) (fun y360 : Unit => (some (Sum.inl ((s352.1 ++ [(gt vals (gt l_ s352.2 (0 : Int)) dI4)]), (IntKind.wrap .i64 (s352.2 + 1)))))))))) else (some (Sum.inr (Sum.inl s352))))
abbrev S39_6 : St := ⟨[(0, rl tsI4 vals), (4, rO tsI4 y361.1 4), (8, rl (.one (.int .i64)) l_), (9, ri (l_.length : Int)), (10, ri y361.2)], [], [], 29⟩
theorem graph_picked_l2_b : R39 C39.r.l.r.b.b (S39_2 vals l_ s352) (loopKont 0 q) = Option.bind (graph_picked_l2_p vals l_ s352) (either (fun y : ((List I4) × Int) => q .normal ⟨[(0, rl tsI4 vals), (4, rO tsI4 y.1 4), (8, rl (.one (.int .i64)) l_), (9, ri (l_.length : Int)), (10, ri y.2)], [], [], 29⟩) (either (fun y361 : ((List I4) × Int) => q (.exit 0) (S39_6 vals l_ y361)) (fun y362 : Unit => q .ret S39_4))) := by
  refine .trans ?_ (bif_b (bind_b fun y357 => (bif_b e3_2 (bind_b fun y360 => e3_0))) e3_1)
  refine (pre1 (graph_picked_fz vals l_ s352 _)).trans ?_
  refine .trans seq_push ?_
  refine (cond_e (b := (decide (s352.2 < (l_.length : Int)))) (st' := (S39_2 vals l_ s352)) ).trans (bif_g ?_ ?_)
  · refine (skip_eq).trans ?_
    refine (seqC_normal (st' := (S39_2 vals l_ s352))).trans ?_
    refine .trans seq_push ?_
    refine (block_push (id := 1)).trans ?_
    refine (pre1 (graph_picked_r3 vals l_ s352 _)).trans (bind_g fun y357 => ?_)
    refine .trans seq_push ?_
    refine (pre1 (graph_picked_r4 vals l_ s352 _)).trans ?_
    refine (cond_e (b := (graph_picked_r4_p vals l_ s352)) (st' := (S39_3 vals l_ s352)) ).trans (bif_g ?_ ?_)
    · refine (pre1 (graph_picked_fzx1 vals l_ s352 _)).trans ?_
      refine (ret_eq).trans ?_
      refine seqC_ret.trans ?_
      refine block_ret.trans ?_
      refine seqC_ret.trans ?_
      kernel_rfl
    · refine (skip_eq).trans ?_
      refine (seqC_normal (st' := (S39_3 vals l_ s352))).trans ?_
      refine (graph_picked_r6 vals l_ s352 _).trans (bind_g fun y360 => ?_)
      refine block_normal.trans ?_
      refine (seqC_normal (st' := (S39_5 vals l_ s352))).trans ?_
      refine (graph_picked_r7 vals l_ s352 _).trans ?_
      kernel_rfl
  · refine ((exit_eq (j := 0))).trans ?_
    refine seqC_exit.trans ?_
    kernel_rfl
theorem graph_picked_l2 : R39 C39.r.l.r.b (S39_1 vals l_) q = Option.bind (iterN (graph_picked_l2_p vals l_) LL ([], (0 : Int))) (either (fun y361 : ((List I4) × Int) => q (.exit 0) (S39_6 vals l_ y361)) (fun y362 : Unit => q .ret S39_4)) :=
  Eq.trans (by kernel_rfl) (loop_iter2 (S := fun s352 : ((List I4) × Int) => (S39_2 vals l_ s352)) (Y1 := fun y361 : ((List I4) × Int) => ((.exit 0), (S39_6 vals l_ y361))) (Y2 := fun y362 : Unit => (.ret, S39_4)) (fun s q => graph_picked_l2_b vals l_ s q) (fun z => rfl) (fun z => rfl) LL ([], (0 : Int)))
theorem graph_picked_fzx2 : P39 1 C39.r.r ⟨[(4, rO tsI4 y361.1 4)], [], [], 29⟩ k = k ⟨[(4, rO tsI4 y361.1 4), (5, rb true)], [], [], 29⟩ := by kernel_rfl
/-- quilt/graph.picked -/
def graph_picked : Option ((List I4) × Bool) := (Option.bind (iterN (graph_picked_l2_p vals l_) LL ([], (0 : Int))) (either (fun y361 : ((List I4) × Int) => (some (y361.1, true))) (fun y362 : Unit => (some ([], false)))))
theorem graph_picked_is : stepO E cp39 noE 46 [rl tsI4 vals, rl (.one (.int .i64)) l_] = Option.bind (graph_picked vals l_) (fun y : ((List I4) × Bool) => some (.tup [.one (.ow tsI4 y.1 (.s 0)), rb y.2] : R)) := by
  refine .trans ?_ (bind_b (either_b (fun y361 => some_b) (fun y362 => some_b)))
  refine (stepG_is (nt := 29) (regs := [(0, rl tsI4 vals), (1, rl (.one (.int .i64)) l_)])).trans ?_
  refine (pre1 (graph_picked_f1 vals l_ _)).trans ?_
  refine .trans seq_push ?_
  refine (pre1 (graph_picked_f2 vals l_ _)).trans ?_
  refine (block_push (id := 0)).trans ?_
  refine (graph_picked_l2 vals l_ _).trans (bind_g (either_g (fun y361 => ?_) (fun y362 => ?_)))
  · refine block_same.trans ?_
    refine (seqC_normal (st' := ⟨[(4, rO tsI4 y361.1 4)], [], [], 29⟩)).trans ?_
    refine (pre1 (graph_picked_fzx2 y361 _)).trans ?_
    refine (ret_eq).trans ?_
    kernel_rfl
  · refine block_ret.trans ?_
    refine seqC_ret.trans ?_
    kernel_rfl
noncomputable def cp40 : CallP := withC cp39 46 [(pL tsI4), (.one (.g (.sl (.one (.int .i64)))))] (.tup [(.one (.ow tsI4)), pB]) (fun y : ((List I4) × Bool) => (y.1, y.2, ())) (fun x => graph_picked x.1 x.2.1)
theorem cp40_ok : PureOK E cp40 := conO eok cp39_ok noE_ok fun x => Eq.mp (by kernel_rfl) (graph_picked_is x.1 x.2.1)
end
section
variable {α : Type} (g_ : Graph) (y320 : ((List I4) × Int)) (s391 : ((List I4) × Int × Int)) (y397 : ((List I4) × Bool)) (y398 : (I4 × Int)) (y399 : Int) (y400 : ((List I4) × Int × Int)) (k : St → Option α) (q : Kont α)
noncomputable abbrev C40 := codeOf E.P 19
noncomputable abbrev P40 := @preK α E 19 cp40 noE
noncomputable abbrev R40 := @runCode α E 19 cp40 noE
abbrev S40_0 : St := ⟨[(1, rC tsGraph g_), (4, rO tsI4 y320.1 4), (5, ri y320.2)], [], [], 70⟩
theorem graph_Values_r1 : P40 2 C40 ⟨[(0, rA tsGraph g_)], [], [], 70⟩ k = Option.bind (graph_goesIn g_) fun y320 : ((List I4) × Int) => k (S40_0 g_ y320) := by kernel_rfl
theorem graph_Values_f1000003 : P40 1 C40.r.r.l (S40_0 g_ y320) k = k ⟨[(1, rC tsGraph g_), (4, rO tsI4 y320.1 4), (5, ri y320.2), (21, rb (y320.2 != 0))], [], [], 70⟩ := by kernel_rfl
theorem graph_Values_fz : P40 1 C40.r.r.l.r.t (S40_0 g_ y320) k = k ⟨[(2, .one (.ow tsI4 [] (.v 2))), (3, ri y320.2)], [], [], 70⟩ := by kernel_rfl
abbrev S40_1 : St := ⟨[(1, rC tsGraph g_), (4, rO tsI4 y320.1 4)], [], [], 70⟩
abbrev S40_2 : St := ⟨[(1, rC tsGraph g_), (4, rO tsI4 y320.1 4), (6, ri 0)], [], [], 70⟩
theorem graph_Values_f5 : P40 1 C40.r.r.r (S40_1 g_ y320) k = k (S40_2 g_ y320) := by kernel_rfl
abbrev S40_3 : St := ⟨[(1, rC tsGraph g_), (4, rO tsI4 y320.1 4), (6, ri 0), (24, rl tsNode g_.2.1), (25, ri (g_.2.1.length : Int)), (26, ri 0)], [], [], 70⟩
theorem graph_Values_f6 : P40 1 C40.r.r.r.r.l (S40_2 g_ y320) k = k (S40_3 g_ y320) := by kernel_rfl
abbrev S40_4 : St := ⟨[(1, rC tsGraph g_), (4, rO tsI4 s391.1 4), (6, ri s391.2.1), (24, rl tsNode g_.2.1), (25, ri (g_.2.1.length : Int)), (26, ri s391.2.2)], [], [], 70⟩
theorem graph_Values_fzx1 : P40 1 C40.r.r.r.r.l.r.b.b (S40_4 g_ s391) k = k ⟨[(1, rC tsGraph g_), (4, rO tsI4 s391.1 4), (6, ri s391.2.1), (24, rl tsNode g_.2.1), (25, ri (g_.2.1.length : Int)), (26, ri s391.2.2), (27, rb (decide (s391.2.2 < (g_.2.1.length : Int))))], [], [], 70⟩ := by kernel_rfl
def graph_Values_r7_p : Option Unit := (bif (decide ((0 : Int) ≤ s391.2.2)) then (bif (decide (s391.2.2 < (g_.2.1.length : Int))) then (some ()) else none) else none)
abbrev S40_5 : St := ⟨[(1, rC tsGraph g_), (4, rO tsI4 s391.1 4), (6, ri s391.2.1), (8, rF 0), (24, rl tsNode g_.2.1), (25, ri (g_.2.1.length : Int)), (26, ri s391.2.2)], [(tsNode.leaves (gt g_.2.1 s391.2.2 dNode))], [], 70⟩
theorem graph_Values_r7 : P40 1 C40.r.r.r.r.l.r.b.b.r.r.l.b (S40_4 g_ s391) k = Option.bind (graph_Values_r7_p g_ s391) (fun y396 : Unit => k (S40_5 g_ s391)) := .trans (by kernel_rfl) (bif_b (bif_b some_b none_b) none_b)
abbrev S40_6 : St := ⟨[(1, rC tsGraph g_), (4, rO tsI4 s391.1 4), (6, ri s391.2.1), (8, rF 0), (9, rO tsI4 y397.1 9), (10, rb y397.2), (24, rl tsNode g_.2.1), (25, ri (g_.2.1.length : Int)), (26, ri s391.2.2)], [(tsNode.leaves (gt g_.2.1 s391.2.2 dNode))], [], 70⟩
theorem graph_Values_r8 : P40 1 C40.r.r.r.r.l.r.b.b.r.r.l.b.r (S40_5 g_ s391) k = Option.bind (graph_picked s391.1 ((gt g_.2.1 s391.2.2 dNode).2.1)) fun y397 : ((List I4) × Bool) => k (S40_6 g_ s391 y397) := by kernel_rfl
theorem graph_Values_f1000010 : P40 1 C40.r.r.r.r.l.r.b.b.r.r.l.b.r.r.l (S40_6 g_ s391 y397) k = k ⟨[(1, rC tsGraph g_), (4, rO tsI4 s391.1 4), (6, ri s391.2.1), (8, rF 0), (9, rO tsI4 y397.1 9), (24, rl tsNode g_.2.1), (25, ri (g_.2.1.length : Int)), (26, ri s391.2.2), (38, rb (!y397.2))], [(tsNode.leaves (gt g_.2.1 s391.2.2 dNode))], [], 70⟩ := by kernel_rfl
abbrev S40_7 : St := ⟨[(1, rC tsGraph g_), (4, rO tsI4 s391.1 4), (6, ri s391.2.1), (8, rF 0), (9, rO tsI4 y397.1 9), (24, rl tsNode g_.2.1), (25, ri (g_.2.1.length : Int)), (26, ri s391.2.2)], [(tsNode.leaves (gt g_.2.1 s391.2.2 dNode))], [], 70⟩
abbrev S40_8 : St := ⟨[(2, .one (.ow tsI4 [] (.v 2))), (3, ri 13)], [[]], [], 70⟩
theorem graph_Values_fzx2 : P40 1 C40.r.r.r.r.l.r.b.b.r.r.l.b.r.r.l.r.t (S40_7 g_ s391 y397) k = k S40_8 := by kernel_rfl
abbrev S40_9 : St := ⟨[(1, rC tsGraph g_), (4, rO tsI4 s391.1 4), (6, ri s391.2.1), (8, rF 0), (11, rF 1), (12, ri y398.2), (24, rl tsNode g_.2.1), (25, ri (g_.2.1.length : Int)), (26, ri s391.2.2)], [(tsNode.leaves (gt g_.2.1 s391.2.2 dNode)), (tsI4.leaves y398.1)], [], 70⟩
theorem graph_Values_r11 : P40 1 C40.r.r.r.r.l.r.b.b.r.r.l.b.r.r.r (S40_7 g_ s391 y397) k = Option.bind (graph_Value (gt g_.2.1 s391.2.2 dNode) y397.1) fun y398 : (I4 × Int) => k (S40_9 g_ s391 y398) := by kernel_rfl
theorem graph_Values_f1000013 : P40 1 C40.r.r.r.r.l.r.b.b.r.r.l.b.r.r.r.r.l (S40_9 g_ s391 y398) k = k ⟨[(1, rC tsGraph g_), (4, rO tsI4 s391.1 4), (6, ri s391.2.1), (8, rF 0), (11, rF 1), (12, ri y398.2), (24, rl tsNode g_.2.1), (25, ri (g_.2.1.length : Int)), (26, ri s391.2.2), (46, rb (y398.2 != 0))], [(tsNode.leaves (gt g_.2.1 s391.2.2 dNode)), (tsI4.leaves y398.1)], [], 70⟩ := by kernel_rfl
theorem graph_Values_fzx3 : P40 1 C40.r.r.r.r.l.r.b.b.r.r.l.b.r.r.r.r.l.r.t (S40_9 g_ s391 y398) k = k ⟨[(2, .one (.ow tsI4 [] (.v 2))), (3, ri y398.2)], [[], []], [], 70⟩ := by kernel_rfl
def graph_Values_r14_p : Option Int := (bif (decide (s391.1.length + ([y398.1] : List I4).length ≤ maxL)) then (some (IntKind.wrap .i64 (s391.2.1 + (((gt g_.2.1 s391.2.2 dNode).2.2.2.2.2.2.2.2.2.2.2.2.1).length : Int)))) else none)
abbrev S40_10 : St := ⟨[(1, rC tsGraph g_), (4, rO tsI4 s391.1 4), (6, ri s391.2.1), (8, rF 0), (11, rF 1), (24, rl tsNode g_.2.1), (25, ri (g_.2.1.length : Int)), (26, ri s391.2.2)], [(tsNode.leaves (gt g_.2.1 s391.2.2 dNode)), (tsI4.leaves y398.1)], [], 70⟩
abbrev S40_11 : St := ⟨[(1, rC tsGraph g_), (4, .one (.ow tsI4 (s391.1 ++ [y398.1]) (.v 4))), (6, ri y399), (24, rl tsNode g_.2.1), (25, ri (g_.2.1.length : Int)), (26, ri s391.2.2)], [[], []], [], 70⟩
theorem graph_Values_r14 : R40 C40.r.r.r.r.l.r.b.b.r.r.l.b.r.r.r.r.r (S40_10 g_ s391 y398) q = Option.bind (graph_Values_r14_p g_ s391 y398) (fun y399 : Int => q .normal (S40_11 g_ s391 y398 y399)) := .trans (by kernel_rfl) (bif_b some_b none_b)
theorem graph_Values_r15 : R40 C40.r.r.r.r.l.r.b.b.r.r.r (S40_11 g_ s391 y398 y399) q = q .normal ⟨[(1, rC tsGraph g_), (4, .one (.ow tsI4 (s391.1 ++ [y398.1]) (.v 4))), (6, ri y399), (24, rl tsNode g_.2.1), (25, ri (g_.2.1.length : Int)), (26, ri (IntKind.wrap .i64 (s391.2.2 + 1)))], [[], []], [], 70⟩ := by kernel_rfl
def graph_Values_l6_p : Option (((List I4) × Int × Int) ⊕ (((List I4) × Int × Int) ⊕ (Unit ⊕ Int))) := (bif (decide (s391.2.2 < (g_.2.1.length : Int))) then (Option.bind (graph_Values_r7_p g_ s391) (fun y396 : Unit => (Option.bind (graph_picked s391.1 ((gt g_.2.1 s391.2.2 dNode).2.1)) (fun y397 : ((List I4) × Bool) => (bif (!y397.2) then (some (Sum.inr (Sum.inr (Sum.inl ())))) else (Option.bind (graph_Value (gt g_.2.1 s391.2.2 dNode) y397.1) (fun y398 : (I4 × Int) => (bif (y398.2 != 0) then (some (Sum.inr (Sum.inr (Sum.inr y398.2)))) else (Option.bind (graph_Values_r14_p g_ s391 y398) (fun y399 : Int => (some (Sum.inl ((s391.1 ++ [y398.1]), y399, (IntKind.wrap .i64 (s391.2.2 + 1))))))))))))))) else (some (Sum.inr (Sum.inl s391))))
abbrev S40_12 : St := ⟨[(1, rC tsGraph g_), (4, rO tsI4 y400.1 4), (6, ri y400.2.1), (24, rl tsNode g_.2.1), (25, ri (g_.2.1.length : Int)), (26, ri y400.2.2)], [], [], 70⟩
abbrev S40_13 (y402 : Int) : St := ⟨[(2, .one (.ow tsI4 [] (.v 2))), (3, ri y402)], [[], []], [], 70⟩
theorem graph_Values_l6_b : R40 C40.r.r.r.r.l.r.b.b (S40_4 g_ s391) (loopKont 0 q) = Option.bind (graph_Values_l6_p g_ s391) (either (fun y : ((List I4) × Int × Int) => q .normal ⟨[(1, rC tsGraph g_), (4, rO tsI4 y.1 4), (6, ri y.2.1), (24, rl tsNode g_.2.1), (25, ri (g_.2.1.length : Int)), (26, ri y.2.2)], [], [], 70⟩) (either (fun y400 : ((List I4) × Int × Int) => q (.exit 0) (S40_12 g_ y400)) (either (fun y401 : Unit => q .ret S40_8) (fun y402 : Int => q .ret (S40_13 y402))))) := by
  refine .trans ?_ (bif_b (bind_b fun y396 => (bind_b fun y397 => (bif_b e4_2 (bind_b fun y398 => (bif_b e4_3 (bind_b fun y399 => e4_0)))))) e4_1)
  refine (pre1 (graph_Values_fzx1 g_ s391 _)).trans ?_
  refine .trans seq_push ?_
  refine (cond_e (b := (decide (s391.2.2 < (g_.2.1.length : Int)))) (st' := (S40_4 g_ s391)) ).trans (bif_g ?_ ?_)
  · refine (skip_eq).trans ?_
    refine (seqC_normal (st' := (S40_4 g_ s391))).trans ?_
    refine .trans seq_push ?_
    refine (block_push (id := 1)).trans ?_
    refine (pre1 (graph_Values_r7 g_ s391 _)).trans (bind_g fun y396 => ?_)
    refine (pre1 (graph_Values_r8 g_ s391 _)).trans (bind_g fun y397 => ?_)
    refine .trans seq_push ?_
    refine (pre1 (graph_Values_f1000010 g_ s391 y397 _)).trans ?_
    refine (cond_e (b := (!y397.2)) (st' := (S40_7 g_ s391 y397)) ).trans (bif_g ?_ ?_)
    · refine (pre1 (graph_Values_fzx2 g_ s391 y397 _)).trans ?_
      refine (ret_eq).trans ?_
      refine seqC_ret.trans ?_
      refine block_ret.trans ?_
      refine seqC_ret.trans ?_
      kernel_rfl
    · refine (skip_eq).trans ?_
      refine (seqC_normal (st' := (S40_7 g_ s391 y397))).trans ?_
      refine (pre1 (graph_Values_r11 g_ s391 y397 _)).trans (bind_g fun y398 => ?_)
      refine .trans seq_push ?_
      refine (pre1 (graph_Values_f1000013 g_ s391 y398 _)).trans ?_
      refine (cond_e (b := (y398.2 != 0)) (st' := (S40_9 g_ s391 y398)) ).trans (bif_g ?_ ?_)
      · refine (pre1 (graph_Values_fzx3 g_ s391 y398 _)).trans ?_
        refine (ret_eq).trans ?_
        refine seqC_ret.trans ?_
        refine block_ret.trans ?_
        refine seqC_ret.trans ?_
        kernel_rfl
      · refine (skip_eq).trans ?_
        refine (seqC_normal (st' := (S40_10 g_ s391 y398))).trans ?_
        refine (graph_Values_r14 g_ s391 y398 _).trans (bind_g fun y399 => ?_)
        refine block_normal.trans ?_
        refine (seqC_normal (st' := (S40_11 g_ s391 y398 y399))).trans ?_
        refine (graph_Values_r15 g_ s391 y398 y399 _).trans ?_
        kernel_rfl
  · refine ((exit_eq (j := 0))).trans ?_
    refine seqC_exit.trans ?_
    kernel_rfl
theorem graph_Values_l6 : R40 C40.r.r.r.r.l.r.b (S40_3 g_ y320) q = Option.bind (iterN (graph_Values_l6_p g_) LL (y320.1, (0 : Int), (0 : Int))) (either (fun y400 : ((List I4) × Int × Int) => q (.exit 0) (S40_12 g_ y400)) (either (fun y401 : Unit => q .ret S40_8) (fun y402 : Int => q .ret (S40_13 y402)))) :=
  Eq.trans (by kernel_rfl) (loop_iter3 (S := fun s391 : ((List I4) × Int × Int) => (S40_4 g_ s391)) (Y1 := fun y400 : ((List I4) × Int × Int) => ((.exit 0), (S40_12 g_ y400))) (Y2 := fun y401 : Unit => (.ret, S40_8)) (Y3 := fun y402 : Int => (.ret, (S40_13 y402))) (fun s q => graph_Values_l6_b g_ s q) (fun z => rfl) (fun z => rfl) (fun z => rfl) LL (y320.1, (0 : Int), (0 : Int)))
abbrev S40_14 : St := ⟨[(1, rC tsGraph g_), (4, rO tsI4 y400.1 4), (6, ri y400.2.1)], [], [], 70⟩
theorem graph_Values_f1000017 : P40 1 C40.r.r.r.r.r.l (S40_14 g_ y400) k = k ⟨[(1, rC tsGraph g_), (4, rO tsI4 y400.1 4), (59, rb (decide (y400.2.1 > 4096)))], [], [], 70⟩ := by kernel_rfl
abbrev S40_15 : St := ⟨[(1, rC tsGraph g_), (4, rO tsI4 y400.1 4)], [], [], 70⟩
theorem graph_Values_fzx4 : P40 1 C40.r.r.r.r.r.l.r.t (S40_15 g_ y400) k = k ⟨[(2, .one (.ow tsI4 [] (.v 2))), (3, ri 3)], [], [], 70⟩ := by kernel_rfl
theorem graph_Values_r18 : P40 1 C40.r.r.r.r.r.r.l (S40_15 g_ y400) k = Option.bind (graph_picked y400.1 g_.2.2) fun y404 : ((List I4) × Bool) => k ⟨[(4, rO tsI4 y400.1 4), (14, rb y404.2)], [], [], 70⟩ := by kernel_rfl
theorem graph_Values_f1000020 (y404 : ((List I4) × Bool)) (k : St → Option α) : P40 1 C40.r.r.r.r.r.r.l.r ⟨[(4, rO tsI4 y400.1 4), (14, rb y404.2)], [], [], 70⟩ k = k ⟨[(4, rO tsI4 y400.1 4), (68, rb (!y404.2))], [], [], 70⟩ := by kernel_rfl
abbrev S40_16 : St := ⟨[(4, rO tsI4 y400.1 4)], [], [], 70⟩
theorem graph_Values_fzx5 : P40 1 C40.r.r.r.r.r.r.l.r.r.t (S40_16 y400) k = k ⟨[(2, .one (.ow tsI4 [] (.v 2))), (3, ri 13)], [], [], 70⟩ := by kernel_rfl
theorem graph_Values_fzx6 : P40 1 C40.r.r.r.r.r.r.r (S40_16 y400) k = k ⟨[(2, rO tsI4 y400.1 4), (3, ri 0)], [], [], 70⟩ := by kernel_rfl
/-- quilt/graph.Values -/
def graph_Values : Option ((List I4) × Int) := (Option.bind (graph_goesIn g_) (fun y320 : ((List I4) × Int) => (bif (y320.2 != 0) then (some ([], y320.2)) else (Option.bind (iterN (graph_Values_l6_p g_) LL (y320.1, (0 : Int), (0 : Int))) (either (fun y400 : ((List I4) × Int × Int) => (bif (decide (y400.2.1 > 4096)) then (some ([], (3 : Int))) else (Option.bind (graph_picked y400.1 g_.2.2) (fun y404 : ((List I4) × Bool) => (bif (!y404.2) then (some ([], (13 : Int))) else (some (y400.1, (0 : Int)))))))) (either (fun y401 : Unit => (some ([], (13 : Int)))) (fun y402 : Int => (some ([], y402)))))))))
theorem graph_Values_is : stepO E cp40 noE 19 [rA tsGraph g_] = Option.bind (graph_Values g_) (fun y : ((List I4) × Int) => some (.tup [.one (.ow tsI4 y.1 (.s 0)), ri y.2] : R)) := by
  refine .trans ?_ (bind_b fun y320 => (bif_b some_b (bind_b (either_b (fun y400 => (bif_b some_b (bind_b fun y404 => (bif_b some_b some_b)))) (either_b (fun y401 => some_b) (fun y402 => some_b))))))
  refine (stepG_is (nt := 70) (regs := [(0, rA tsGraph g_)])).trans ?_
  refine (pre2 (graph_Values_r1 g_ _)).trans (bind_g fun y320 => ?_)
  refine .trans seq_push ?_
  refine (pre1 (graph_Values_f1000003 g_ y320 _)).trans ?_
  refine (cond_e (b := (y320.2 != 0)) (st' := (S40_0 g_ y320)) ).trans (bif_g ?_ ?_)
  · refine (pre1 (graph_Values_fz g_ y320 _)).trans ?_
    refine (ret_eq).trans ?_
    refine seqC_ret.trans ?_
    kernel_rfl
  · refine (skip_eq).trans ?_
    refine (seqC_normal (st' := (S40_1 g_ y320))).trans ?_
    refine (pre1 (graph_Values_f5 g_ y320 _)).trans ?_
    refine .trans seq_push ?_
    refine (pre1 (graph_Values_f6 g_ y320 _)).trans ?_
    refine (block_push (id := 0)).trans ?_
    refine (graph_Values_l6 g_ y320 _).trans (bind_g (either_g (fun y400 => ?_) (either_g (fun y401 => ?_) (fun y402 => ?_))))
    · refine block_same.trans ?_
      refine (seqC_normal (st' := (S40_14 g_ y400))).trans ?_
      refine .trans seq_push ?_
      refine (pre1 (graph_Values_f1000017 g_ y400 _)).trans ?_
      refine (cond_e (b := (decide (y400.2.1 > 4096))) (st' := (S40_15 g_ y400)) ).trans (bif_g ?_ ?_)
      · refine (pre1 (graph_Values_fzx4 g_ y400 _)).trans ?_
        refine (ret_eq).trans ?_
        refine seqC_ret.trans ?_
        kernel_rfl
      · refine (skip_eq).trans ?_
        refine (seqC_normal (st' := (S40_15 g_ y400))).trans ?_
        refine .trans seq_push ?_
        refine (pre1 (graph_Values_r18 g_ y400 _)).trans (bind_g fun y404 => ?_)
        refine (pre1 (graph_Values_f1000020 y400 y404 _)).trans ?_
        refine (cond_e (b := (!y404.2)) (st' := (S40_16 y400)) ).trans (bif_g ?_ ?_)
        · refine (pre1 (graph_Values_fzx5 y400 _)).trans ?_
          refine (ret_eq).trans ?_
          refine seqC_ret.trans ?_
          kernel_rfl
        · refine (skip_eq).trans ?_
          refine (seqC_normal (st' := (S40_16 y400))).trans ?_
          refine (pre1 (graph_Values_fzx6 y400 _)).trans ?_
          refine (ret_eq).trans ?_
          kernel_rfl
    · refine block_ret.trans ?_
      refine seqC_ret.trans ?_
      kernel_rfl
    · refine block_ret.trans ?_
      refine seqC_ret.trans ?_
      kernel_rfl
noncomputable def cp41 : CallP := withC cp40 19 [(.agg tsGraph)] (.tup [(.one (.ow tsI4)), pI]) (fun y : ((List I4) × Int) => (y.1, y.2, ())) (fun x => graph_Values x.1)
theorem cp41_ok : PureOK E cp41 := conO eok cp40_ok noE_ok fun x => Eq.mp (by kernel_rfl) (graph_Values_is x.1)
end
noncomputable abbrev C41 := codeOf E.P 20
noncomputable abbrev P41 {α : Type} := @preK α E 20 cp41 noE
theorem graph_Check_r1 {α : Type} (g_ : Graph) (k : St → Option α) : P41 2 C41 ⟨[(0, rA tsGraph g_)], [], [], 11⟩ k = Option.bind (graph_Values g_) fun y405 : ((List I4) × Int) => k ⟨[(4, ri y405.2)], [], [], 11⟩ := by kernel_rfl
theorem graph_Check_fz {α : Type} (y405 : ((List I4) × Int)) (k : St → Option α) : P41 1 C41.r.r ⟨[(4, ri y405.2)], [], [], 11⟩ k = k ⟨[(2, ri y405.2)], [], [], 11⟩ := by kernel_rfl
/-- quilt/graph.Check -/
def graph_Check (g_ : Graph) : Option Int := (Option.bind (graph_Values g_) (fun y405 : ((List I4) × Int) => (some y405.2)))
theorem graph_Check_is (g_ : Graph) : stepS E cp41 noE 20 [rA tsGraph g_] = Option.bind (graph_Check g_) (fun y : Int => some (ri y : R)) := by
  refine .trans ?_ (bind_b fun y405 => some_b)
  refine (stepG_is (nt := 11) (regs := [(0, rA tsGraph g_)])).trans ?_
  refine (pre2 (graph_Check_r1 g_ _)).trans (bind_g fun y405 => ?_)
  refine (pre1 (graph_Check_fz y405 _)).trans ?_
  refine (ret_eq).trans ?_
  kernel_rfl
noncomputable def cp42 : CallP := withC cp41 20 [(.agg tsGraph)] (.one pI) (fun y : Int => y) (fun x => graph_Check x.1)
theorem cp42_ok : PureOK E cp42 := conS eok cp41_ok noE_ok fun x => Eq.mp (by kernel_rfl) (graph_Check_is x.1)
section
variable {α β : Type} (l_ : (List Int)) (who : Int) (c3_ : (List Int)) (c4_ : Nat) (c5_ : Node) (s432 : (Int × (List Int))) (y436 : (List Int)) (k : St → Option α) (q : Kont α)
noncomputable abbrev C42 := codeOf E.P 47
noncomputable abbrev P42 := @preK α E 47 cp42 noE
noncomputable abbrev R42 := @runCode α E 47 cp42 noE
noncomputable abbrev Q42 := @seqC α E 47 cp42 noE
abbrev S42_0 : St := ⟨[(1, ri who), (2, rF 1), (7, rl (.one (.int .i64)) l_), (8, ri (l_.length : Int)), (9, ri 0)], [[.vec (.int .i64) c3_], [.vref 0 c4_], (tsNode.leaves c5_)], [], 23⟩
theorem graph_Last_1_f1 : P42 1 C42 ⟨[(0, rl (.one (.int .i64)) l_), (1, ri who), (2, rF 1)], [[.vec (.int .i64) c3_], [.vref 0 c4_], (tsNode.leaves c5_)], [], 23⟩ k = k (S42_0 l_ who c3_ c4_ c5_) := by kernel_rfl
abbrev S42_1 : St := ⟨[(1, ri who), (2, rF 1), (7, rl (.one (.int .i64)) l_), (8, ri (l_.length : Int)), (9, ri s432.1)], [[.vec (.int .i64) s432.2], [.vref 0 c4_], (tsNode.leaves c5_)], [], 23⟩
theorem graph_Last_1_fz : P42 1 C42.r.b.b (S42_1 l_ who c4_ c5_ s432) k = k ⟨[(1, ri who), (2, rF 1), (7, rl (.one (.int .i64)) l_), (8, ri (l_.length : Int)), (9, ri s432.1), (10, rb (decide (s432.1 < (l_.length : Int))))], [[.vec (.int .i64) s432.2], [.vref 0 c4_], (tsNode.leaves c5_)], [], 23⟩ := by kernel_rfl
def graph_Last_1_r2_p : Option Unit := (bif (decide ((0 : Int) ≤ s432.1)) then (bif (decide (s432.1 < (l_.length : Int))) then (some ()) else none) else none)
abbrev S42_2 : St := ⟨[(1, ri who), (2, rF 1), (6, ri (gt l_ s432.1 (0 : Int))), (7, rl (.one (.int .i64)) l_), (8, ri (l_.length : Int)), (9, ri s432.1)], [[.vec (.int .i64) s432.2], [.vref 0 c4_], (tsNode.leaves c5_)], [], 23⟩
theorem graph_Last_1_r2 : P42 1 C42.r.b.b.r.r.l.b (S42_1 l_ who c4_ c5_ s432) k = Option.bind (graph_Last_1_r2_p l_ s432) (fun y433 : Unit => k (S42_2 l_ who c4_ c5_ s432)) := .trans (by kernel_rfl) (bif_b (bif_b some_b none_b) none_b)
def graph_Last_1_r3_q (K : Bool → β) : β := (K (graph_within (gt l_ s432.1 (0 : Int)) (0 : Int) (IntKind.wrap .i64 (((c4_ : Nat) : Int) - 1))))
def graph_Last_1_r3_p : Bool := graph_Last_1_r3_q l_ c4_ s432 (fun y => y)
theorem graph_Last_1_r3_n (K : Bool → β) : graph_Last_1_r3_q l_ c4_ s432 K = K (graph_Last_1_r3_p l_ c4_ s432) := rfl
theorem graph_Last_1_r3 : P42 1 C42.r.b.b.r.r.l.b.r (S42_2 l_ who c4_ c5_ s432) k = k ⟨[(1, ri who), (2, rF 1), (6, ri (gt l_ s432.1 (0 : Int))), (7, rl (.one (.int .i64)) l_), (8, ri (l_.length : Int)), (9, ri s432.1), (17, rb (graph_Last_1_r3_p l_ c4_ s432))], [[.vec (.int .i64) s432.2], [.vref 0 c4_], (tsNode.leaves c5_)], [], 23⟩ := Eq.trans (by kernel_rfl) (graph_Last_1_r3_n l_ c4_ s432 (fun y434 : Bool => k ⟨[(1, ri who), (2, rF 1), (6, ri (gt l_ s432.1 (0 : Int))), (7, rl (.one (.int .i64)) l_), (8, ri (l_.length : Int)), (9, ri s432.1), (17, rb y434)], [[.vec (.int .i64) s432.2], [.vref 0 c4_], (tsNode.leaves c5_)], [], 23⟩))
def graph_Last_1_r4_p : Option Unit := (bif (decide ((0 : Int) ≤ (gt l_ s432.1 (0 : Int)))) then (bif (decide ((gt l_ s432.1 (0 : Int)) < ((c4_ : Nat) : Int))) then (bif (decide ((Int.toNat (gt l_ s432.1 (0 : Int))) < s432.2.length)) then (some ()) else none) else none) else none)
abbrev S42_3 : St := ⟨[(1, ri who), (2, rF 1), (7, rl (.one (.int .i64)) l_), (8, ri (l_.length : Int)), (9, ri s432.1)], [[.vec (.int .i64) (s432.2.set (Int.toNat (gt l_ s432.1 (0 : Int))) who)], [.vref 0 c4_], (tsNode.leaves c5_)], [], 23⟩
theorem graph_Last_1_r4 : R42 C42.r.b.b.r.r.l.b.r.r.t (S42_2 l_ who c4_ c5_ s432) q = Option.bind (graph_Last_1_r4_p l_ c4_ s432) (fun y435 : Unit => q .normal (S42_3 l_ who c4_ c5_ s432)) := .trans (by kernel_rfl) (bif_b (bif_b (bif_b some_b none_b) none_b) none_b)
def graph_Last_1_j2_p : Option (List Int) := (Option.bind (graph_Last_1_r2_p l_ s432) (fun y433 : Unit => (bif (graph_Last_1_r3_p l_ c4_ s432) then (Option.bind (graph_Last_1_r4_p l_ c4_ s432) (fun y435 : Unit => (some (s432.2.set (Int.toNat (gt l_ s432.1 (0 : Int))) who)))) else (some s432.2))))
abbrev S42_4 : St := ⟨[(1, ri who), (2, rF 1), (7, rl (.one (.int .i64)) l_), (8, ri (l_.length : Int)), (9, ri s432.1)], [[.vec (.int .i64) y436], [.vref 0 c4_], (tsNode.leaves c5_)], [], 23⟩
theorem graph_Last_1_j2 : R42 C42.r.b.b.r.r.l (S42_1 l_ who c4_ c5_ s432) (Q42 C42.r.b.b.r.r.r q) = Option.bind (graph_Last_1_j2_p l_ who c4_ s432) (fun y436 : (List Int) => R42 C42.r.b.b.r.r.r (S42_4 l_ who c4_ c5_ s432 y436) q) := by
  refine .trans ?_ (bind_b fun y433 => (bif_b (bind_b fun y435 => some_b) some_b))
  refine (block_push (id := 1)).trans ?_
  refine (pre1 (graph_Last_1_r2 l_ who c4_ c5_ s432 _)).trans (bind_g fun y433 => ?_)
  refine (pre1 (graph_Last_1_r3 l_ who c4_ c5_ s432 _)).trans ?_
  refine (cond_e (b := (graph_Last_1_r3_p l_ c4_ s432)) (st' := (S42_2 l_ who c4_ c5_ s432)) ).trans (bif_g ?_ ?_)
  · refine (graph_Last_1_r4 l_ who c4_ c5_ s432 _).trans (bind_g fun y435 => ?_)
    refine block_normal.trans ?_
    refine (seqC_normal (st' := (S42_3 l_ who c4_ c5_ s432))).trans ?_
    kernel_rfl
  · refine (skip_eq).trans ?_
    refine block_normal.trans ?_
    refine (seqC_normal (st' := (S42_1 l_ who c4_ c5_ s432))).trans ?_
    kernel_rfl
theorem graph_Last_1_r5 : R42 C42.r.b.b.r.r.r (S42_4 l_ who c4_ c5_ s432 y436) q = q .normal ⟨[(1, ri who), (2, rF 1), (7, rl (.one (.int .i64)) l_), (8, ri (l_.length : Int)), (9, ri (IntKind.wrap .i64 (s432.1 + 1)))], [[.vec (.int .i64) y436], [.vref 0 c4_], (tsNode.leaves c5_)], [], 23⟩ := by kernel_rfl
def graph_Last_1_l1_p : Option ((Int × (List Int)) ⊕ (Int × (List Int))) := (bif (decide (s432.1 < (l_.length : Int))) then (Option.bind (graph_Last_1_j2_p l_ who c4_ s432) (fun y436 : (List Int) => (some (Sum.inl ((IntKind.wrap .i64 (s432.1 + 1)), y436))))) else (some (Sum.inr s432)))
abbrev S42_5 (y437 : (Int × (List Int))) : St := ⟨[(1, ri who), (2, rF 1), (7, rl (.one (.int .i64)) l_), (8, ri (l_.length : Int)), (9, ri y437.1)], [[.vec (.int .i64) y437.2], [.vref 0 c4_], (tsNode.leaves c5_)], [], 23⟩
theorem graph_Last_1_l1_b : R42 C42.r.b.b (S42_1 l_ who c4_ c5_ s432) (loopKont 3 q) = Option.bind (graph_Last_1_l1_p l_ who c4_ s432) (either (fun y : (Int × (List Int)) => q .normal ⟨[(1, ri who), (2, rF 1), (7, rl (.one (.int .i64)) l_), (8, ri (l_.length : Int)), (9, ri y.1)], [[.vec (.int .i64) y.2], [.vref 0 c4_], (tsNode.leaves c5_)], [], 23⟩) (fun y437 : (Int × (List Int)) => q (.exit 0) (S42_5 l_ who c4_ c5_ y437))) := by
  refine .trans ?_ (bif_b (bind_b fun y436 => e2_0) e2_1)
  refine (pre1 (graph_Last_1_fz l_ who c4_ c5_ s432 _)).trans ?_
  refine .trans seq_push ?_
  refine (cond_e (b := (decide (s432.1 < (l_.length : Int)))) (st' := (S42_1 l_ who c4_ c5_ s432)) ).trans (bif_g ?_ ?_)
  · refine (skip_eq).trans ?_
    refine (seqC_normal (st' := (S42_1 l_ who c4_ c5_ s432))).trans ?_
    refine .trans seq_push ?_
    refine (graph_Last_1_j2 l_ who c4_ c5_ s432 _).trans (bind_g fun y436 => ?_)
    refine (graph_Last_1_r5 l_ who c4_ c5_ s432 y436 _).trans ?_
    kernel_rfl
  · refine ((exit_eq (j := 0))).trans ?_
    refine seqC_exit.trans ?_
    kernel_rfl
theorem graph_Last_1_l1 : R42 C42.r.b (S42_0 l_ who c3_ c4_ c5_) q = Option.bind (iterN (graph_Last_1_l1_p l_ who c4_) LL ((0 : Int), c3_)) (fun y437 : (Int × (List Int)) => q (.exit 0) (S42_5 l_ who c4_ c5_ y437)) :=
  Eq.trans (by kernel_rfl) (loop_iter1 (S := fun s432 : (Int × (List Int)) => (S42_1 l_ who c4_ c5_ s432)) (Y1 := fun y437 : (Int × (List Int)) => ((.exit 0), (S42_5 l_ who c4_ c5_ y437))) (fun s q => graph_Last_1_l1_b l_ who c4_ c5_ s q) (fun z => rfl) LL ((0 : Int), c3_))
/-- quilt/graph.Last$1 -/
def graph_Last_1 : Option (List Int) := (Option.bind (iterN (graph_Last_1_l1_p l_ who c4_) LL ((0 : Int), c3_)) (fun y437 : (Int × (List Int)) => (some y437.2)))
theorem graph_Last_1_is (k : R → Heap → Option α) : callBody E cp42 noE α 47 [rl (.one (.int .i64)) l_, ri who, rF 1] [[.vec (.int .i64) c3_], [.vref 0 c4_], (tsNode.leaves c5_)] k = Option.bind (graph_Last_1 l_ who c3_ c4_) (fun y : (List Int) => k (.tup []) [[.vec (.int .i64) y], [.vref 0 c4_], (tsNode.leaves c5_)]) := by
  refine .trans ?_ (bind_b fun y437 => some_b)
  refine (body_is (nt := 23) (regs := [(0, rl (.one (.int .i64)) l_), (1, ri who), (2, rF 1)]) (by kernel_rfl) (by kernel_rfl)).trans ?_
  refine (pre1 (graph_Last_1_f1 l_ who c3_ c4_ c5_ _)).trans ?_
  refine (block_push (id := 0)).trans ?_
  refine (graph_Last_1_l1 l_ who c3_ c4_ c5_ _).trans (bind_g fun y437 => ?_)
  refine block_same.trans ?_
  kernel_rfl
noncomputable def ce1 : CallE := withE noE 47 (decA [(.one (.g (.sl (.one (.int .i64))))), pI, (.one (.ref 1 0))] [(.cons (.vec (.int .i64)) .nil), (.cons (.vref 0) .nil), Z2]) .unit (fun y : (List Int) => ()) (fun x y => [[.vec (.int .i64) y], [.vref 0 x.2.2.1.1], (tsNode.leaves (x.2.2.2.1.1, x.2.2.2.1.2.1, x.2.2.2.1.2.2.1, x.2.2.2.1.2.2.2.1, x.2.2.2.1.2.2.2.2.1, x.2.2.2.1.2.2.2.2.2.1, x.2.2.2.1.2.2.2.2.2.2.1, x.2.2.2.1.2.2.2.2.2.2.2.1, x.2.2.2.1.2.2.2.2.2.2.2.2.1, x.2.2.2.1.2.2.2.2.2.2.2.2.2.1, x.2.2.2.1.2.2.2.2.2.2.2.2.2.2.1, x.2.2.2.1.2.2.2.2.2.2.2.2.2.2.2.1, x.2.2.2.1.2.2.2.2.2.2.2.2.2.2.2.2.1, x.2.2.2.1.2.2.2.2.2.2.2.2.2.2.2.2.2.1))]) (fun x => graph_Last_1 x.1.1 x.1.2.1 x.2.1.1 x.2.2.1.1)
theorem ce1_ok : EffOK E ce1 := conE eok cp42_ok noE_ok fun α x k => Eq.mp (by kernel_rfl) (graph_Last_1_is x.1.1 x.1.2.1 x.2.1.1 x.2.2.1.1 (x.2.2.2.1.1, x.2.2.2.1.2.1, x.2.2.2.1.2.2.1, x.2.2.2.1.2.2.2.1, x.2.2.2.1.2.2.2.2.1, x.2.2.2.1.2.2.2.2.2.1, x.2.2.2.1.2.2.2.2.2.2.1, x.2.2.2.1.2.2.2.2.2.2.2.1, x.2.2.2.1.2.2.2.2.2.2.2.2.1, x.2.2.2.1.2.2.2.2.2.2.2.2.2.1, x.2.2.2.1.2.2.2.2.2.2.2.2.2.2.1, x.2.2.2.1.2.2.2.2.2.2.2.2.2.2.2.1, x.2.2.2.1.2.2.2.2.2.2.2.2.2.2.2.2.1, x.2.2.2.1.2.2.2.2.2.2.2.2.2.2.2.2.2.1) k)
end
section
variable {α β : Type} (l_ : (List Int)) (who : Int) (c3_ : (List Int)) (c4_ : Nat) (s463 : (Int × (List Int))) (y467 : (List Int)) (k : St → Option α) (q : Kont α)
noncomputable abbrev C43 := codeOf E.P 47
noncomputable abbrev P43 := @preK α E 47 cp42 ce1
noncomputable abbrev R43 := @runCode α E 47 cp42 ce1
noncomputable abbrev Q43 := @seqC α E 47 cp42 ce1
abbrev S43_0 : St := ⟨[(1, ri who), (2, rF 1), (7, rl (.one (.int .i64)) l_), (8, ri (l_.length : Int)), (9, ri 0)], [[.vec (.int .i64) c3_], [.vref 0 c4_]], [], 23⟩
theorem graph_Last_1_s2_f1 : P43 1 C43 ⟨[(0, rl (.one (.int .i64)) l_), (1, ri who), (2, rF 1)], [[.vec (.int .i64) c3_], [.vref 0 c4_]], [], 23⟩ k = k (S43_0 l_ who c3_ c4_) := by kernel_rfl
abbrev S43_1 : St := ⟨[(1, ri who), (2, rF 1), (7, rl (.one (.int .i64)) l_), (8, ri (l_.length : Int)), (9, ri s463.1)], [[.vec (.int .i64) s463.2], [.vref 0 c4_]], [], 23⟩
theorem graph_Last_1_s2_fz : P43 1 C43.r.b.b (S43_1 l_ who c4_ s463) k = k ⟨[(1, ri who), (2, rF 1), (7, rl (.one (.int .i64)) l_), (8, ri (l_.length : Int)), (9, ri s463.1), (10, rb (decide (s463.1 < (l_.length : Int))))], [[.vec (.int .i64) s463.2], [.vref 0 c4_]], [], 23⟩ := by kernel_rfl
def graph_Last_1_s2_r2_p : Option Unit := (bif (decide ((0 : Int) ≤ s463.1)) then (bif (decide (s463.1 < (l_.length : Int))) then (some ()) else none) else none)
abbrev S43_2 : St := ⟨[(1, ri who), (2, rF 1), (6, ri (gt l_ s463.1 (0 : Int))), (7, rl (.one (.int .i64)) l_), (8, ri (l_.length : Int)), (9, ri s463.1)], [[.vec (.int .i64) s463.2], [.vref 0 c4_]], [], 23⟩
theorem graph_Last_1_s2_r2 : P43 1 C43.r.b.b.r.r.l.b (S43_1 l_ who c4_ s463) k = Option.bind (graph_Last_1_s2_r2_p l_ s463) (fun y464 : Unit => k (S43_2 l_ who c4_ s463)) := .trans (by kernel_rfl) (bif_b (bif_b some_b none_b) none_b)
def graph_Last_1_s2_r3_q (K : Bool → β) : β := (K (graph_within (gt l_ s463.1 (0 : Int)) (0 : Int) (IntKind.wrap .i64 (((c4_ : Nat) : Int) - 1))))
def graph_Last_1_s2_r3_p : Bool := graph_Last_1_s2_r3_q l_ c4_ s463 (fun y => y)
theorem graph_Last_1_s2_r3_n (K : Bool → β) : graph_Last_1_s2_r3_q l_ c4_ s463 K = K (graph_Last_1_s2_r3_p l_ c4_ s463) := rfl
theorem graph_Last_1_s2_r3 : P43 1 C43.r.b.b.r.r.l.b.r (S43_2 l_ who c4_ s463) k = k ⟨[(1, ri who), (2, rF 1), (6, ri (gt l_ s463.1 (0 : Int))), (7, rl (.one (.int .i64)) l_), (8, ri (l_.length : Int)), (9, ri s463.1), (17, rb (graph_Last_1_s2_r3_p l_ c4_ s463))], [[.vec (.int .i64) s463.2], [.vref 0 c4_]], [], 23⟩ := Eq.trans (by kernel_rfl) (graph_Last_1_s2_r3_n l_ c4_ s463 (fun y465 : Bool => k ⟨[(1, ri who), (2, rF 1), (6, ri (gt l_ s463.1 (0 : Int))), (7, rl (.one (.int .i64)) l_), (8, ri (l_.length : Int)), (9, ri s463.1), (17, rb y465)], [[.vec (.int .i64) s463.2], [.vref 0 c4_]], [], 23⟩))
def graph_Last_1_s2_r4_p : Option Unit := (bif (decide ((0 : Int) ≤ (gt l_ s463.1 (0 : Int)))) then (bif (decide ((gt l_ s463.1 (0 : Int)) < ((c4_ : Nat) : Int))) then (bif (decide ((Int.toNat (gt l_ s463.1 (0 : Int))) < s463.2.length)) then (some ()) else none) else none) else none)
abbrev S43_3 : St := ⟨[(1, ri who), (2, rF 1), (7, rl (.one (.int .i64)) l_), (8, ri (l_.length : Int)), (9, ri s463.1)], [[.vec (.int .i64) (s463.2.set (Int.toNat (gt l_ s463.1 (0 : Int))) who)], [.vref 0 c4_]], [], 23⟩
theorem graph_Last_1_s2_r4 : R43 C43.r.b.b.r.r.l.b.r.r.t (S43_2 l_ who c4_ s463) q = Option.bind (graph_Last_1_s2_r4_p l_ c4_ s463) (fun y466 : Unit => q .normal (S43_3 l_ who c4_ s463)) := .trans (by kernel_rfl) (bif_b (bif_b (bif_b some_b none_b) none_b) none_b)
def graph_Last_1_s2_j2_p : Option (List Int) := (Option.bind (graph_Last_1_s2_r2_p l_ s463) (fun y464 : Unit => (bif (graph_Last_1_s2_r3_p l_ c4_ s463) then (Option.bind (graph_Last_1_s2_r4_p l_ c4_ s463) (fun y466 : Unit => (some (s463.2.set (Int.toNat (gt l_ s463.1 (0 : Int))) who)))) else (some s463.2))))
abbrev S43_4 : St := ⟨[(1, ri who), (2, rF 1), (7, rl (.one (.int .i64)) l_), (8, ri (l_.length : Int)), (9, ri s463.1)], [[.vec (.int .i64) y467], [.vref 0 c4_]], [], 23⟩
theorem graph_Last_1_s2_j2 : R43 C43.r.b.b.r.r.l (S43_1 l_ who c4_ s463) (Q43 C43.r.b.b.r.r.r q) = Option.bind (graph_Last_1_s2_j2_p l_ who c4_ s463) (fun y467 : (List Int) => R43 C43.r.b.b.r.r.r (S43_4 l_ who c4_ s463 y467) q) := by
  refine .trans ?_ (bind_b fun y464 => (bif_b (bind_b fun y466 => some_b) some_b))
  refine (block_push (id := 1)).trans ?_
  refine (pre1 (graph_Last_1_s2_r2 l_ who c4_ s463 _)).trans (bind_g fun y464 => ?_)
  refine (pre1 (graph_Last_1_s2_r3 l_ who c4_ s463 _)).trans ?_
  refine (cond_e (b := (graph_Last_1_s2_r3_p l_ c4_ s463)) (st' := (S43_2 l_ who c4_ s463)) ).trans (bif_g ?_ ?_)
  · refine (graph_Last_1_s2_r4 l_ who c4_ s463 _).trans (bind_g fun y466 => ?_)
    refine block_normal.trans ?_
    refine (seqC_normal (st' := (S43_3 l_ who c4_ s463))).trans ?_
    kernel_rfl
  · refine (skip_eq).trans ?_
    refine block_normal.trans ?_
    refine (seqC_normal (st' := (S43_1 l_ who c4_ s463))).trans ?_
    kernel_rfl
theorem graph_Last_1_s2_r5 : R43 C43.r.b.b.r.r.r (S43_4 l_ who c4_ s463 y467) q = q .normal ⟨[(1, ri who), (2, rF 1), (7, rl (.one (.int .i64)) l_), (8, ri (l_.length : Int)), (9, ri (IntKind.wrap .i64 (s463.1 + 1)))], [[.vec (.int .i64) y467], [.vref 0 c4_]], [], 23⟩ := by kernel_rfl
def graph_Last_1_s2_l1_p : Option ((Int × (List Int)) ⊕ (Int × (List Int))) := (bif (decide (s463.1 < (l_.length : Int))) then (Option.bind (graph_Last_1_s2_j2_p l_ who c4_ s463) (fun y467 : (List Int) => (some (Sum.inl ((IntKind.wrap .i64 (s463.1 + 1)), y467))))) else (some (Sum.inr s463)))
abbrev S43_5 (y468 : (Int × (List Int))) : St := ⟨[(1, ri who), (2, rF 1), (7, rl (.one (.int .i64)) l_), (8, ri (l_.length : Int)), (9, ri y468.1)], [[.vec (.int .i64) y468.2], [.vref 0 c4_]], [], 23⟩
theorem graph_Last_1_s2_l1_b : R43 C43.r.b.b (S43_1 l_ who c4_ s463) (loopKont 2 q) = Option.bind (graph_Last_1_s2_l1_p l_ who c4_ s463) (either (fun y : (Int × (List Int)) => q .normal ⟨[(1, ri who), (2, rF 1), (7, rl (.one (.int .i64)) l_), (8, ri (l_.length : Int)), (9, ri y.1)], [[.vec (.int .i64) y.2], [.vref 0 c4_]], [], 23⟩) (fun y468 : (Int × (List Int)) => q (.exit 0) (S43_5 l_ who c4_ y468))) := by
  refine .trans ?_ (bif_b (bind_b fun y467 => e2_0) e2_1)
  refine (pre1 (graph_Last_1_s2_fz l_ who c4_ s463 _)).trans ?_
  refine .trans seq_push ?_
  refine (cond_e (b := (decide (s463.1 < (l_.length : Int)))) (st' := (S43_1 l_ who c4_ s463)) ).trans (bif_g ?_ ?_)
  · refine (skip_eq).trans ?_
    refine (seqC_normal (st' := (S43_1 l_ who c4_ s463))).trans ?_
    refine .trans seq_push ?_
    refine (graph_Last_1_s2_j2 l_ who c4_ s463 _).trans (bind_g fun y467 => ?_)
    refine (graph_Last_1_s2_r5 l_ who c4_ s463 y467 _).trans ?_
    kernel_rfl
  · refine ((exit_eq (j := 0))).trans ?_
    refine seqC_exit.trans ?_
    kernel_rfl
theorem graph_Last_1_s2_l1 : R43 C43.r.b (S43_0 l_ who c3_ c4_) q = Option.bind (iterN (graph_Last_1_s2_l1_p l_ who c4_) LL ((0 : Int), c3_)) (fun y468 : (Int × (List Int)) => q (.exit 0) (S43_5 l_ who c4_ y468)) :=
  Eq.trans (by kernel_rfl) (loop_iter1 (S := fun s463 : (Int × (List Int)) => (S43_1 l_ who c4_ s463)) (Y1 := fun y468 : (Int × (List Int)) => ((.exit 0), (S43_5 l_ who c4_ y468))) (fun s q => graph_Last_1_s2_l1_b l_ who c4_ s q) (fun z => rfl) LL ((0 : Int), c3_))
/-- quilt/graph.Last$1 -/
def graph_Last_1_s2 : Option (List Int) := (Option.bind (iterN (graph_Last_1_s2_l1_p l_ who c4_) LL ((0 : Int), c3_)) (fun y468 : (Int × (List Int)) => (some y468.2)))
theorem graph_Last_1_s2_is (k : R → Heap → Option α) : callBody E cp42 ce1 α 47 [rl (.one (.int .i64)) l_, ri who, rF 1] [[.vec (.int .i64) c3_], [.vref 0 c4_]] k = Option.bind (graph_Last_1_s2 l_ who c3_ c4_) (fun y : (List Int) => k (.tup []) [[.vec (.int .i64) y], [.vref 0 c4_]]) := by
  refine .trans ?_ (bind_b fun y468 => some_b)
  refine (body_is (nt := 23) (regs := [(0, rl (.one (.int .i64)) l_), (1, ri who), (2, rF 1)]) (by kernel_rfl) (by kernel_rfl)).trans ?_
  refine (pre1 (graph_Last_1_s2_f1 l_ who c3_ c4_ _)).trans ?_
  refine (block_push (id := 0)).trans ?_
  refine (graph_Last_1_s2_l1 l_ who c3_ c4_ _).trans (bind_g fun y468 => ?_)
  refine block_same.trans ?_
  kernel_rfl
noncomputable def ce2 : CallE := withE ce1 47 (decA [(.one (.g (.sl (.one (.int .i64))))), pI, (.one (.ref 1 0))] [(.cons (.vec (.int .i64)) .nil), (.cons (.vref 0) .nil)]) .unit (fun y : (List Int) => ()) (fun x y => [[.vec (.int .i64) y], [.vref 0 x.2.2.1.1]]) (fun x => graph_Last_1_s2 x.1.1 x.1.2.1 x.2.1.1 x.2.2.1.1)
theorem ce2_ok : EffOK E ce2 := conE eok cp42_ok ce1_ok fun α x k => Eq.mp (by kernel_rfl) (graph_Last_1_s2_is x.1.1 x.1.2.1 x.2.1.1 x.2.2.1.1 k)
end
section
variable {α β : Type} (g_ : Graph) (s421 : (Int × (List Int))) (y424 : (Int × (List Int))) (s452 : (Int × (List Int))) (y456 : (List Int)) (y457 : (Int × (List Int))) (y469 : (List Int)) (k : St → Option α) (q : Kont α)
noncomputable abbrev C44 := codeOf E.P 21
noncomputable abbrev P44 := @preK α E 21 cp42 ce2
noncomputable abbrev R44 := @runCode α E 21 cp42 ce2
def graph_Last_r1_p : Option Unit := (bif (decide ((0 : Int) ≤ (IntKind.wrap .i64 ((g_.1.length : Int) + (g_.2.1.length : Int))))) then (bif (decide ((IntKind.wrap .i64 ((g_.1.length : Int) + (g_.2.1.length : Int))) ≤ (IntKind.wrap .i64 ((g_.1.length : Int) + (g_.2.1.length : Int))))) then (bif (decide ((IntKind.wrap .i64 ((g_.1.length : Int) + (g_.2.1.length : Int))) ≤ (maxL : Int))) then (bif ((IntKind.wrap .i64 ((g_.1.length : Int) + (g_.2.1.length : Int))) == (IntKind.wrap .i64 ((g_.1.length : Int) + (g_.2.1.length : Int)))) then (some ()) else none) else none) else none) else none)
abbrev S44_0 : St := ⟨[(1, rC tsGraph g_), (3, rF 1)], [[.vec (.int .i64) (List.replicate (Int.toNat (IntKind.wrap .i64 ((g_.1.length : Int) + (g_.2.1.length : Int)))) (0 : Int))], [.vref 0 (Int.toNat (IntKind.wrap .i64 ((g_.1.length : Int) + (g_.2.1.length : Int))))]], [], 48⟩
theorem graph_Last_r1 : P44 2 C44 ⟨[(0, rA tsGraph g_)], [], [], 48⟩ k = Option.bind (graph_Last_r1_p g_) (fun y408 : Unit => k (S44_0 g_)) := .trans (by kernel_rfl) (bif_b (bif_b (bif_b (bif_b some_b none_b) none_b) none_b) none_b)
def graph_Last_r2_q (K : Int → β) : β := (K (((Int.toNat (IntKind.wrap .i64 ((g_.1.length : Int) + (g_.2.1.length : Int)))) : Nat) : Int))
def graph_Last_r2_p : Int := graph_Last_r2_q g_ (fun y => y)
theorem graph_Last_r2_n (K : Int → β) : graph_Last_r2_q g_ K = K (graph_Last_r2_p g_) := rfl
abbrev S44_1 : St := ⟨[(1, rC tsGraph g_), (3, rF 1), (17, ri (graph_Last_r2_p g_)), (18, ri 0)], [[.vec (.int .i64) (List.replicate (Int.toNat (IntKind.wrap .i64 ((g_.1.length : Int) + (g_.2.1.length : Int)))) (0 : Int))], [.vref 0 (Int.toNat (IntKind.wrap .i64 ((g_.1.length : Int) + (g_.2.1.length : Int))))]], [], 48⟩
theorem graph_Last_r2 : P44 1 C44.r.r.l (S44_0 g_) k = k (S44_1 g_) := Eq.trans (by kernel_rfl) (graph_Last_r2_n g_ (fun y417 : Int => k ⟨[(1, rC tsGraph g_), (3, rF 1), (17, ri y417), (18, ri 0)], [[.vec (.int .i64) (List.replicate (Int.toNat (IntKind.wrap .i64 ((g_.1.length : Int) + (g_.2.1.length : Int)))) (0 : Int))], [.vref 0 (Int.toNat (IntKind.wrap .i64 ((g_.1.length : Int) + (g_.2.1.length : Int))))]], [], 48⟩))
abbrev S44_2 : St := ⟨[(1, rC tsGraph g_), (3, rF 1), (17, ri (graph_Last_r2_p g_)), (18, ri s421.1)], [[.vec (.int .i64) s421.2], [.vref 0 (Int.toNat (IntKind.wrap .i64 ((g_.1.length : Int) + (g_.2.1.length : Int))))]], [], 48⟩
theorem graph_Last_fz : P44 1 C44.r.r.l.r.b.b (S44_2 g_ s421) k = k ⟨[(1, rC tsGraph g_), (3, rF 1), (17, ri (graph_Last_r2_p g_)), (18, ri s421.1), (19, rb (decide (s421.1 < (graph_Last_r2_p g_))))], [[.vec (.int .i64) s421.2], [.vref 0 (Int.toNat (IntKind.wrap .i64 ((g_.1.length : Int) + (g_.2.1.length : Int))))]], [], 48⟩ := by kernel_rfl
abbrev S44_3 : St := ⟨[(1, rC tsGraph g_), (3, rF 1), (4, ri s421.1), (17, ri (graph_Last_r2_p g_)), (18, ri s421.1)], [[.vec (.int .i64) s421.2], [.vref 0 (Int.toNat (IntKind.wrap .i64 ((g_.1.length : Int) + (g_.2.1.length : Int))))]], [], 48⟩
theorem graph_Last_f5 : P44 1 C44.r.r.l.r.b.b.r.r.l.b (S44_2 g_ s421) k = k (S44_3 g_ s421) := by kernel_rfl
def graph_Last_r5_p : Option Unit := (bif (decide ((0 : Int) ≤ s421.1)) then (bif (decide (s421.1 < (((Int.toNat (IntKind.wrap .i64 ((g_.1.length : Int) + (g_.2.1.length : Int)))) : Nat) : Int))) then (bif (decide ((Int.toNat s421.1) < s421.2.length)) then (some ()) else none) else none) else none)
abbrev S44_4 : St := ⟨[(1, rC tsGraph g_), (3, rF 1), (17, ri (graph_Last_r2_p g_)), (18, ri s421.1)], [[.vec (.int .i64) (s421.2.set (Int.toNat s421.1) (-1 : Int))], [.vref 0 (Int.toNat (IntKind.wrap .i64 ((g_.1.length : Int) + (g_.2.1.length : Int))))]], [], 48⟩
theorem graph_Last_r5 : R44 C44.r.r.l.r.b.b.r.r.l.b.r (S44_3 g_ s421) q = Option.bind (graph_Last_r5_p g_ s421) (fun y423 : Unit => q .normal (S44_4 g_ s421)) := .trans (by kernel_rfl) (bif_b (bif_b (bif_b some_b none_b) none_b) none_b)
theorem graph_Last_r6 : R44 C44.r.r.l.r.b.b.r.r.r (S44_4 g_ s421) q = q .normal ⟨[(1, rC tsGraph g_), (3, rF 1), (17, ri (graph_Last_r2_p g_)), (18, ri (IntKind.wrap .i64 (s421.1 + 1)))], [[.vec (.int .i64) (s421.2.set (Int.toNat s421.1) (-1 : Int))], [.vref 0 (Int.toNat (IntKind.wrap .i64 ((g_.1.length : Int) + (g_.2.1.length : Int))))]], [], 48⟩ := by kernel_rfl
def graph_Last_l3_p : Option ((Int × (List Int)) ⊕ (Int × (List Int))) := (bif (decide (s421.1 < (graph_Last_r2_p g_))) then (Option.bind (graph_Last_r5_p g_ s421) (fun y423 : Unit => (some (Sum.inl ((IntKind.wrap .i64 (s421.1 + 1)), (s421.2.set (Int.toNat s421.1) (-1 : Int))))))) else (some (Sum.inr s421)))
abbrev S44_5 : St := ⟨[(1, rC tsGraph g_), (3, rF 1), (17, ri (graph_Last_r2_p g_)), (18, ri y424.1)], [[.vec (.int .i64) y424.2], [.vref 0 (Int.toNat (IntKind.wrap .i64 ((g_.1.length : Int) + (g_.2.1.length : Int))))]], [], 48⟩
theorem graph_Last_l3_b : R44 C44.r.r.l.r.b.b (S44_2 g_ s421) (loopKont 2 q) = Option.bind (graph_Last_l3_p g_ s421) (either (fun y : (Int × (List Int)) => q .normal ⟨[(1, rC tsGraph g_), (3, rF 1), (17, ri (graph_Last_r2_p g_)), (18, ri y.1)], [[.vec (.int .i64) y.2], [.vref 0 (Int.toNat (IntKind.wrap .i64 ((g_.1.length : Int) + (g_.2.1.length : Int))))]], [], 48⟩) (fun y424 : (Int × (List Int)) => q (.exit 0) (S44_5 g_ y424))) := by
  refine .trans ?_ (bif_b (bind_b fun y423 => e2_0) e2_1)
  refine (pre1 (graph_Last_fz g_ s421 _)).trans ?_
  refine .trans seq_push ?_
  refine (cond_e (b := (decide (s421.1 < (graph_Last_r2_p g_)))) (st' := (S44_2 g_ s421)) ).trans (bif_g ?_ ?_)
  · refine (skip_eq).trans ?_
    refine (seqC_normal (st' := (S44_2 g_ s421))).trans ?_
    refine .trans seq_push ?_
    refine (block_push (id := 1)).trans ?_
    refine (pre1 (graph_Last_f5 g_ s421 _)).trans ?_
    refine (graph_Last_r5 g_ s421 _).trans (bind_g fun y423 => ?_)
    refine block_normal.trans ?_
    refine (seqC_normal (st' := (S44_4 g_ s421))).trans ?_
    refine (graph_Last_r6 g_ s421 _).trans ?_
    kernel_rfl
  · refine ((exit_eq (j := 0))).trans ?_
    refine seqC_exit.trans ?_
    kernel_rfl
theorem graph_Last_l3 : R44 C44.r.r.l.r.b (S44_1 g_) q = Option.bind (iterN (graph_Last_l3_p g_) LL ((0 : Int), (List.replicate (Int.toNat (IntKind.wrap .i64 ((g_.1.length : Int) + (g_.2.1.length : Int)))) (0 : Int)))) (fun y424 : (Int × (List Int)) => q (.exit 0) (S44_5 g_ y424)) :=
  Eq.trans (by kernel_rfl) (loop_iter1 (S := fun s421 : (Int × (List Int)) => (S44_2 g_ s421)) (Y1 := fun y424 : (Int × (List Int)) => ((.exit 0), (S44_5 g_ y424))) (fun s q => graph_Last_l3_b g_ s q) (fun z => rfl) LL ((0 : Int), (List.replicate (Int.toNat (IntKind.wrap .i64 ((g_.1.length : Int) + (g_.2.1.length : Int)))) (0 : Int))))
abbrev S44_6 : St := ⟨[(1, rC tsGraph g_), (3, rF 1)], [[.vec (.int .i64) y424.2], [.vref 0 (Int.toNat (IntKind.wrap .i64 ((g_.1.length : Int) + (g_.2.1.length : Int))))]], [], 48⟩
abbrev S44_7 : St := ⟨[(1, rC tsGraph g_), (3, rF 1), (5, .one (.fn 47 [.ref 1 0]))], [[.vec (.int .i64) y424.2], [.vref 0 (Int.toNat (IntKind.wrap .i64 ((g_.1.length : Int) + (g_.2.1.length : Int))))]], [], 48⟩
theorem graph_Last_f8 : P44 1 C44.r.r.r (S44_6 g_ y424) k = k (S44_7 g_ y424) := by kernel_rfl
abbrev S44_8 : St := ⟨[(1, rC tsGraph g_), (3, rF 1), (5, .one (.fn 47 [.ref 1 0])), (27, rl tsNode g_.2.1), (28, ri (g_.2.1.length : Int)), (29, ri 0)], [[.vec (.int .i64) y424.2], [.vref 0 (Int.toNat (IntKind.wrap .i64 ((g_.1.length : Int) + (g_.2.1.length : Int))))]], [], 48⟩
theorem graph_Last_f9 : P44 1 C44.r.r.r.r.l (S44_7 g_ y424) k = k (S44_8 g_ y424) := by kernel_rfl
abbrev S44_9 : St := ⟨[(1, rC tsGraph g_), (3, rF 1), (5, .one (.fn 47 [.ref 1 0])), (27, rl tsNode g_.2.1), (28, ri (g_.2.1.length : Int)), (29, ri s452.1)], [[.vec (.int .i64) s452.2], [.vref 0 (Int.toNat (IntKind.wrap .i64 ((g_.1.length : Int) + (g_.2.1.length : Int))))]], [], 48⟩
theorem graph_Last_fzx1 : P44 1 C44.r.r.r.r.l.r.b.b (S44_9 g_ s452) k = k ⟨[(1, rC tsGraph g_), (3, rF 1), (5, .one (.fn 47 [.ref 1 0])), (27, rl tsNode g_.2.1), (28, ri (g_.2.1.length : Int)), (29, ri s452.1), (30, rb (decide (s452.1 < (g_.2.1.length : Int))))], [[.vec (.int .i64) s452.2], [.vref 0 (Int.toNat (IntKind.wrap .i64 ((g_.1.length : Int) + (g_.2.1.length : Int))))]], [], 48⟩ := by kernel_rfl
def graph_Last_r10_p : Option Unit := (bif (decide ((0 : Int) ≤ s452.1)) then (bif (decide (s452.1 < (g_.2.1.length : Int))) then (some ()) else none) else none)
abbrev S44_10 : St := ⟨[(1, rC tsGraph g_), (3, rF 1), (5, .one (.fn 47 [.ref 1 0])), (6, ri s452.1), (7, rF 2), (27, rl tsNode g_.2.1), (28, ri (g_.2.1.length : Int)), (29, ri s452.1)], [[.vec (.int .i64) s452.2], [.vref 0 (Int.toNat (IntKind.wrap .i64 ((g_.1.length : Int) + (g_.2.1.length : Int))))], (tsNode.leaves (gt g_.2.1 s452.1 dNode))], [], 48⟩
theorem graph_Last_r10 : P44 1 C44.r.r.r.r.l.r.b.b.r.r.l.b (S44_9 g_ s452) k = Option.bind (graph_Last_r10_p g_ s452) (fun y455 : Unit => k (S44_10 g_ s452)) := .trans (by kernel_rfl) (bif_b (bif_b some_b none_b) none_b)
abbrev S44_11 : St := ⟨[(1, rC tsGraph g_), (3, rF 1), (5, .one (.fn 47 [.ref 1 0])), (27, rl tsNode g_.2.1), (28, ri (g_.2.1.length : Int)), (29, ri s452.1)], [[.vec (.int .i64) y456], [.vref 0 (Int.toNat (IntKind.wrap .i64 ((g_.1.length : Int) + (g_.2.1.length : Int))))], []], [], 48⟩
theorem graph_Last_r11 : R44 C44.r.r.r.r.l.r.b.b.r.r.l.b.r (S44_10 g_ s452) q = Option.bind (graph_Last_1 ((gt g_.2.1 s452.1 dNode).2.1) s452.1 s452.2 (Int.toNat (IntKind.wrap .i64 ((g_.1.length : Int) + (g_.2.1.length : Int))))) fun y456 : (List Int) => q .normal (S44_11 g_ s452 y456) := by kernel_rfl
theorem graph_Last_r12 : R44 C44.r.r.r.r.l.r.b.b.r.r.r (S44_11 g_ s452 y456) q = q .normal ⟨[(1, rC tsGraph g_), (3, rF 1), (5, .one (.fn 47 [.ref 1 0])), (27, rl tsNode g_.2.1), (28, ri (g_.2.1.length : Int)), (29, ri (IntKind.wrap .i64 (s452.1 + 1)))], [[.vec (.int .i64) y456], [.vref 0 (Int.toNat (IntKind.wrap .i64 ((g_.1.length : Int) + (g_.2.1.length : Int))))], []], [], 48⟩ := by kernel_rfl
def graph_Last_l9_p : Option ((Int × (List Int)) ⊕ (Int × (List Int))) := (bif (decide (s452.1 < (g_.2.1.length : Int))) then (Option.bind (graph_Last_r10_p g_ s452) (fun y455 : Unit => (Option.bind (graph_Last_1 ((gt g_.2.1 s452.1 dNode).2.1) s452.1 s452.2 (Int.toNat (IntKind.wrap .i64 ((g_.1.length : Int) + (g_.2.1.length : Int))))) (fun y456 : (List Int) => (some (Sum.inl ((IntKind.wrap .i64 (s452.1 + 1)), y456))))))) else (some (Sum.inr s452)))
abbrev S44_12 : St := ⟨[(1, rC tsGraph g_), (3, rF 1), (5, .one (.fn 47 [.ref 1 0])), (27, rl tsNode g_.2.1), (28, ri (g_.2.1.length : Int)), (29, ri y457.1)], [[.vec (.int .i64) y457.2], [.vref 0 (Int.toNat (IntKind.wrap .i64 ((g_.1.length : Int) + (g_.2.1.length : Int))))]], [], 48⟩
theorem graph_Last_l9_b : R44 C44.r.r.r.r.l.r.b.b (S44_9 g_ s452) (loopKont 2 q) = Option.bind (graph_Last_l9_p g_ s452) (either (fun y : (Int × (List Int)) => q .normal ⟨[(1, rC tsGraph g_), (3, rF 1), (5, .one (.fn 47 [.ref 1 0])), (27, rl tsNode g_.2.1), (28, ri (g_.2.1.length : Int)), (29, ri y.1)], [[.vec (.int .i64) y.2], [.vref 0 (Int.toNat (IntKind.wrap .i64 ((g_.1.length : Int) + (g_.2.1.length : Int))))]], [], 48⟩) (fun y457 : (Int × (List Int)) => q (.exit 2) (S44_12 g_ y457))) := by
  refine .trans ?_ (bif_b (bind_b fun y455 => (bind_b fun y456 => e2_0)) e2_1)
  refine (pre1 (graph_Last_fzx1 g_ s452 _)).trans ?_
  refine .trans seq_push ?_
  refine (cond_e (b := (decide (s452.1 < (g_.2.1.length : Int)))) (st' := (S44_9 g_ s452)) ).trans (bif_g ?_ ?_)
  · refine (skip_eq).trans ?_
    refine (seqC_normal (st' := (S44_9 g_ s452))).trans ?_
    refine .trans seq_push ?_
    refine (block_push (id := 3)).trans ?_
    refine (pre1 (graph_Last_r10 g_ s452 _)).trans (bind_g fun y455 => ?_)
    refine (graph_Last_r11 g_ s452 _).trans (bind_g fun y456 => ?_)
    refine block_normal.trans ?_
    refine (seqC_normal (st' := (S44_11 g_ s452 y456))).trans ?_
    refine (graph_Last_r12 g_ s452 y456 _).trans ?_
    kernel_rfl
  · refine ((exit_eq (j := 2))).trans ?_
    refine seqC_exit.trans ?_
    kernel_rfl
theorem graph_Last_l9 : R44 C44.r.r.r.r.l.r.b (S44_8 g_ y424) q = Option.bind (iterN (graph_Last_l9_p g_) LL ((0 : Int), y424.2)) (fun y457 : (Int × (List Int)) => q (.exit 2) (S44_12 g_ y457)) :=
  Eq.trans (by kernel_rfl) (loop_iter1 (S := fun s452 : (Int × (List Int)) => (S44_9 g_ s452)) (Y1 := fun y457 : (Int × (List Int)) => ((.exit 2), (S44_12 g_ y457))) (fun s q => graph_Last_l9_b g_ s q) (fun z => rfl) LL ((0 : Int), y424.2))
abbrev S44_13 : St := ⟨[(1, rC tsGraph g_), (3, rF 1), (5, .one (.fn 47 [.ref 1 0]))], [[.vec (.int .i64) y457.2], [.vref 0 (Int.toNat (IntKind.wrap .i64 ((g_.1.length : Int) + (g_.2.1.length : Int))))]], [], 48⟩
abbrev S44_14 : St := ⟨[(3, rF 1)], [[.vec (.int .i64) y469], [.vref 0 (Int.toNat (IntKind.wrap .i64 ((g_.1.length : Int) + (g_.2.1.length : Int))))]], [], 48⟩
theorem graph_Last_r13 : P44 1 C44.r.r.r.r.r (S44_13 g_ y457) k = Option.bind (graph_Last_1_s2 g_.2.2 (g_.2.1.length : Int) y457.2 (Int.toNat (IntKind.wrap .i64 ((g_.1.length : Int) + (g_.2.1.length : Int))))) fun y469 : (List Int) => k (S44_14 g_ y469) := by kernel_rfl
theorem graph_Last_fzx2 : P44 1 C44.r.r.r.r.r.r (S44_14 g_ y469) k = k ⟨[(2, .one (.vref 0 (Int.toNat (IntKind.wrap .i64 ((g_.1.length : Int) + (g_.2.1.length : Int))))))], [[.vec (.int .i64) y469], []], [], 48⟩ := by kernel_rfl
/-- quilt/graph.Last -/
def graph_Last : Option (List Int) := (Option.bind (graph_Last_r1_p g_) (fun y408 : Unit => (Option.bind (iterN (graph_Last_l3_p g_) LL ((0 : Int), (List.replicate (Int.toNat (IntKind.wrap .i64 ((g_.1.length : Int) + (g_.2.1.length : Int)))) (0 : Int)))) (fun y424 : (Int × (List Int)) => (Option.bind (iterN (graph_Last_l9_p g_) LL ((0 : Int), y424.2)) (fun y457 : (Int × (List Int)) => (Option.bind (graph_Last_1_s2 g_.2.2 (g_.2.1.length : Int) y457.2 (Int.toNat (IntKind.wrap .i64 ((g_.1.length : Int) + (g_.2.1.length : Int))))) (fun y469 : (List Int) => (bif (Nat.beq (Int.toNat (IntKind.wrap .i64 ((g_.1.length : Int) + (g_.2.1.length : Int)))) y469.length) then (some y469) else none)))))))))
theorem graph_Last_is : stepS E cp42 ce2 21 [rA tsGraph g_] = Option.bind (graph_Last g_) (fun y : (List Int) => some (rl (.one (.int .i64)) y : R)) := by
  refine .trans ?_ (bind_b fun y408 => (bind_b fun y424 => (bind_b fun y457 => (bind_b fun y469 => (bif_b some_b none_b)))))
  refine (stepG_is (nt := 48) (regs := [(0, rA tsGraph g_)])).trans ?_
  refine (pre2 (graph_Last_r1 g_ _)).trans (bind_g fun y408 => ?_)
  refine .trans seq_push ?_
  refine (pre1 (graph_Last_r2 g_ _)).trans ?_
  refine (block_push (id := 0)).trans ?_
  refine (graph_Last_l3 g_ _).trans (bind_g fun y424 => ?_)
  refine block_same.trans ?_
  refine (seqC_normal (st' := (S44_6 g_ y424))).trans ?_
  refine (pre1 (graph_Last_f8 g_ y424 _)).trans ?_
  refine .trans seq_push ?_
  refine (pre1 (graph_Last_f9 g_ y424 _)).trans ?_
  refine (block_push (id := 2)).trans ?_
  refine (graph_Last_l9 g_ y424 _).trans (bind_g fun y457 => ?_)
  refine block_same.trans ?_
  refine (seqC_normal (st' := (S44_13 g_ y457))).trans ?_
  refine (pre1 (graph_Last_r13 g_ y457 _)).trans (bind_g fun y469 => ?_)
  refine (pre1 (graph_Last_fzx2 g_ y469 _)).trans ?_
  refine (ret_eq).trans ?_
  kernel_rfl
noncomputable def cp43 : CallP := withC cp42 21 [(.agg tsGraph)] (.one (.one (.g (.sl (.one (.int .i64)))))) (fun y : (List Int) => y) (fun x => graph_Last x.1)
theorem cp43_ok : PureOK E cp43 := conS eok cp42_ok ce2_ok fun x => Eq.mp (by kernel_rfl) (graph_Last_is x.1)
end
end Go.V.P
