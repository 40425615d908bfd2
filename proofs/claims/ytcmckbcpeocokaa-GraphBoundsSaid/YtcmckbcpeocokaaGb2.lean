/- What functions compute. -/
import Derived.Test.YtcmckbcpeocokaaGb1
namespace Go.V.P
open Go.RowKit Go.V Go.Proofs
set_option linter.unusedVariables false
set_option maxRecDepth 100000
section
variable {α : Type} (g_ : Graph) (y320 : ((List I4) × Int)) (s391 : ((List I4) × Int × Int)) (y397 : ((List I4) × Bool)) (y398 : (I4 × Int)) (y399 : Int) (y400 : ((List I4) × Int × Int)) (k : St → Option α) (q : Kont α)
noncomputable abbrev C38 := codeOf E.P 19
noncomputable abbrev P38 := @preK α E 19 cp38 noE
noncomputable abbrev R38 := @runCode α E 19 cp38 noE
abbrev S38_0 : St := ⟨[(1, rC tsGraph g_), (4, rO tsI4 y320.1 4), (5, ri y320.2)], [], [], 70⟩
theorem graph_Values_r1 : P38 2 C38 ⟨[(0, rA tsGraph g_)], [], [], 70⟩ k = Option.bind (graph_goesIn g_) fun y320 : ((List I4) × Int) => k (S38_0 g_ y320) := by kernel_rfl
theorem graph_Values_f1000003 : P38 1 C38.r.r.l (S38_0 g_ y320) k = k ⟨[(1, rC tsGraph g_), (4, rO tsI4 y320.1 4), (5, ri y320.2), (21, rb (y320.2 != 0))], [], [], 70⟩ := by kernel_rfl
theorem graph_Values_fz : P38 1 C38.r.r.l.r.t (S38_0 g_ y320) k = k ⟨[(2, .one (.ow tsI4 [] (.v 2))), (3, ri y320.2)], [], [], 70⟩ := by kernel_rfl
abbrev S38_1 : St := ⟨[(1, rC tsGraph g_), (4, rO tsI4 y320.1 4)], [], [], 70⟩
abbrev S38_2 : St := ⟨[(1, rC tsGraph g_), (4, rO tsI4 y320.1 4), (6, ri 0)], [], [], 70⟩
theorem graph_Values_f5 : P38 1 C38.r.r.r (S38_1 g_ y320) k = k (S38_2 g_ y320) := by kernel_rfl
abbrev S38_3 : St := ⟨[(1, rC tsGraph g_), (4, rO tsI4 y320.1 4), (6, ri 0), (24, rl tsNode g_.2.1), (25, ri (g_.2.1.length : Int)), (26, ri 0)], [], [], 70⟩
theorem graph_Values_f6 : P38 1 C38.r.r.r.r.l (S38_2 g_ y320) k = k (S38_3 g_ y320) := by kernel_rfl
abbrev S38_4 : St := ⟨[(1, rC tsGraph g_), (4, rO tsI4 s391.1 4), (6, ri s391.2.1), (24, rl tsNode g_.2.1), (25, ri (g_.2.1.length : Int)), (26, ri s391.2.2)], [], [], 70⟩
theorem graph_Values_fzx1 : P38 1 C38.r.r.r.r.l.r.b.b (S38_4 g_ s391) k = k ⟨[(1, rC tsGraph g_), (4, rO tsI4 s391.1 4), (6, ri s391.2.1), (24, rl tsNode g_.2.1), (25, ri (g_.2.1.length : Int)), (26, ri s391.2.2), (27, rb (decide (s391.2.2 < (g_.2.1.length : Int))))], [], [], 70⟩ := by kernel_rfl
def graph_Values_r7_p : Option Unit := (bif (decide ((0 : Int) ≤ s391.2.2)) then (bif (decide (s391.2.2 < (g_.2.1.length : Int))) then (some ()) else none) else none)
abbrev S38_5 : St := ⟨[(1, rC tsGraph g_), (4, rO tsI4 s391.1 4), (6, ri s391.2.1), (8, rF 0), (24, rl tsNode g_.2.1), (25, ri (g_.2.1.length : Int)), (26, ri s391.2.2)], [(tsNode.leaves (gt g_.2.1 s391.2.2 dNode))], [], 70⟩
theorem graph_Values_r7 : P38 1 C38.r.r.r.r.l.r.b.b.r.r.l.b (S38_4 g_ s391) k = Option.bind (graph_Values_r7_p g_ s391) (fun y396 : Unit => k (S38_5 g_ s391)) := .trans (by kernel_rfl) (bif_b (bif_b some_b none_b) none_b)
abbrev S38_6 : St := ⟨[(1, rC tsGraph g_), (4, rO tsI4 s391.1 4), (6, ri s391.2.1), (8, rF 0), (9, rO tsI4 y397.1 9), (10, rb y397.2), (24, rl tsNode g_.2.1), (25, ri (g_.2.1.length : Int)), (26, ri s391.2.2)], [(tsNode.leaves (gt g_.2.1 s391.2.2 dNode))], [], 70⟩
theorem graph_Values_r8 : P38 1 C38.r.r.r.r.l.r.b.b.r.r.l.b.r (S38_5 g_ s391) k = Option.bind (graph_picked s391.1 ((gt g_.2.1 s391.2.2 dNode).2.1)) fun y397 : ((List I4) × Bool) => k (S38_6 g_ s391 y397) := by kernel_rfl
theorem graph_Values_f1000010 : P38 1 C38.r.r.r.r.l.r.b.b.r.r.l.b.r.r.l (S38_6 g_ s391 y397) k = k ⟨[(1, rC tsGraph g_), (4, rO tsI4 s391.1 4), (6, ri s391.2.1), (8, rF 0), (9, rO tsI4 y397.1 9), (24, rl tsNode g_.2.1), (25, ri (g_.2.1.length : Int)), (26, ri s391.2.2), (38, rb (!y397.2))], [(tsNode.leaves (gt g_.2.1 s391.2.2 dNode))], [], 70⟩ := by kernel_rfl
abbrev S38_7 : St := ⟨[(1, rC tsGraph g_), (4, rO tsI4 s391.1 4), (6, ri s391.2.1), (8, rF 0), (9, rO tsI4 y397.1 9), (24, rl tsNode g_.2.1), (25, ri (g_.2.1.length : Int)), (26, ri s391.2.2)], [(tsNode.leaves (gt g_.2.1 s391.2.2 dNode))], [], 70⟩
abbrev S38_8 : St := ⟨[(2, .one (.ow tsI4 [] (.v 2))), (3, ri 13)], [[]], [], 70⟩
theorem graph_Values_fzx2 : P38 1 C38.r.r.r.r.l.r.b.b.r.r.l.b.r.r.l.r.t (S38_7 g_ s391 y397) k = k S38_8 := by kernel_rfl
abbrev S38_9 : St := ⟨[(1, rC tsGraph g_), (4, rO tsI4 s391.1 4), (6, ri s391.2.1), (8, rF 0), (11, rF 1), (12, ri y398.2), (24, rl tsNode g_.2.1), (25, ri (g_.2.1.length : Int)), (26, ri s391.2.2)], [(tsNode.leaves (gt g_.2.1 s391.2.2 dNode)), (tsI4.leaves y398.1)], [], 70⟩
theorem graph_Values_r11 : P38 1 C38.r.r.r.r.l.r.b.b.r.r.l.b.r.r.r (S38_7 g_ s391 y397) k = Option.bind (graph_Value (gt g_.2.1 s391.2.2 dNode) y397.1) fun y398 : (I4 × Int) => k (S38_9 g_ s391 y398) := by kernel_rfl
theorem graph_Values_f1000013 : P38 1 C38.r.r.r.r.l.r.b.b.r.r.l.b.r.r.r.r.l (S38_9 g_ s391 y398) k = k ⟨[(1, rC tsGraph g_), (4, rO tsI4 s391.1 4), (6, ri s391.2.1), (8, rF 0), (11, rF 1), (12, ri y398.2), (24, rl tsNode g_.2.1), (25, ri (g_.2.1.length : Int)), (26, ri s391.2.2), (46, rb (y398.2 != 0))], [(tsNode.leaves (gt g_.2.1 s391.2.2 dNode)), (tsI4.leaves y398.1)], [], 70⟩ := by kernel_rfl
theorem graph_Values_fzx3 : P38 1 C38.r.r.r.r.l.r.b.b.r.r.l.b.r.r.r.r.l.r.t (S38_9 g_ s391 y398) k = k ⟨[(2, .one (.ow tsI4 [] (.v 2))), (3, ri y398.2)], [[], []], [], 70⟩ := by kernel_rfl
def graph_Values_r14_p : Option Int := (bif (decide (s391.1.length + ([y398.1] : List I4).length ≤ maxL)) then (some (IntKind.wrap .i64 (s391.2.1 + (((gt g_.2.1 s391.2.2 dNode).2.2.2.2.2.2.2.2.2.2.2.2.1).length : Int)))) else none)
abbrev S38_10 : St := ⟨[(1, rC tsGraph g_), (4, rO tsI4 s391.1 4), (6, ri s391.2.1), (8, rF 0), (11, rF 1), (24, rl tsNode g_.2.1), (25, ri (g_.2.1.length : Int)), (26, ri s391.2.2)], [(tsNode.leaves (gt g_.2.1 s391.2.2 dNode)), (tsI4.leaves y398.1)], [], 70⟩
abbrev S38_11 : St := ⟨[(1, rC tsGraph g_), (4, .one (.ow tsI4 (s391.1 ++ [y398.1]) (.v 4))), (6, ri y399), (24, rl tsNode g_.2.1), (25, ri (g_.2.1.length : Int)), (26, ri s391.2.2)], [[], []], [], 70⟩
theorem graph_Values_r14 : R38 C38.r.r.r.r.l.r.b.b.r.r.l.b.r.r.r.r.r (S38_10 g_ s391 y398) q = Option.bind (graph_Values_r14_p g_ s391 y398) (fun y399 : Int => q .normal (S38_11 g_ s391 y398 y399)) := .trans (by kernel_rfl) (bif_b some_b none_b)
theorem graph_Values_r15 : R38 C38.r.r.r.r.l.r.b.b.r.r.r (S38_11 g_ s391 y398 y399) q = q .normal ⟨[(1, rC tsGraph g_), (4, .one (.ow tsI4 (s391.1 ++ [y398.1]) (.v 4))), (6, ri y399), (24, rl tsNode g_.2.1), (25, ri (g_.2.1.length : Int)), (26, ri (IntKind.wrap .i64 (s391.2.2 + 1)))], [[], []], [], 70⟩ := by kernel_rfl
def graph_Values_l6_p : Option (((List I4) × Int × Int) ⊕ (((List I4) × Int × Int) ⊕ (Unit ⊕ Int))) := (bif (decide (s391.2.2 < (g_.2.1.length : Int))) then (Option.bind (graph_Values_r7_p g_ s391) (fun y396 : Unit => (Option.bind (graph_picked s391.1 ((gt g_.2.1 s391.2.2 dNode).2.1)) (fun y397 : ((List I4) × Bool) => (bif (!y397.2) then (some (Sum.inr (Sum.inr (Sum.inl ())))) else (Option.bind (graph_Value (gt g_.2.1 s391.2.2 dNode) y397.1) (fun y398 : (I4 × Int) => (bif (y398.2 != 0) then (some (Sum.inr (Sum.inr (Sum.inr y398.2)))) else (Option.bind (graph_Values_r14_p g_ s391 y398) (fun y399 : Int => (some (Sum.inl ((s391.1 ++ [y398.1]), y399, (IntKind.wrap .i64 (s391.2.2 + 1))))))))))))))) else (some (Sum.inr (Sum.inl s391))))
abbrev S38_12 : St := ⟨[(1, rC tsGraph g_), (4, rO tsI4 y400.1 4), (6, ri y400.2.1), (24, rl tsNode g_.2.1), (25, ri (g_.2.1.length : Int)), (26, ri y400.2.2)], [], [], 70⟩
abbrev S38_13 (y402 : Int) : St := ⟨[(2, .one (.ow tsI4 [] (.v 2))), (3, ri y402)], [[], []], [], 70⟩
theorem graph_Values_l6_b : R38 C38.r.r.r.r.l.r.b.b (S38_4 g_ s391) (loopKont 0 q) = Option.bind (graph_Values_l6_p g_ s391) (either (fun y : ((List I4) × Int × Int) => q .normal ⟨[(1, rC tsGraph g_), (4, rO tsI4 y.1 4), (6, ri y.2.1), (24, rl tsNode g_.2.1), (25, ri (g_.2.1.length : Int)), (26, ri y.2.2)], [], [], 70⟩) (either (fun y400 : ((List I4) × Int × Int) => q (.exit 0) (S38_12 g_ y400)) (either (fun y401 : Unit => q .ret S38_8) (fun y402 : Int => q .ret (S38_13 y402))))) := by
  refine .trans ?_ (bif_b (bind_b fun y396 => (bind_b fun y397 => (bif_b e4_2 (bind_b fun y398 => (bif_b e4_3 (bind_b fun y399 => e4_0)))))) e4_1)
  refine (pre1 (graph_Values_fzx1 g_ s391 _)).trans ?_
  refine .trans seq_push ?_
  refine (cond_e (b := (decide (s391.2.2 < (g_.2.1.length : Int)))) (st' := (S38_4 g_ s391)) ).trans (bif_g ?_ ?_)
  · refine (skip_eq).trans ?_
    refine (seqC_normal (st' := (S38_4 g_ s391))).trans ?_
    refine .trans seq_push ?_
    refine (block_push (id := 1)).trans ?_
    refine (pre1 (graph_Values_r7 g_ s391 _)).trans (bind_g fun y396 => ?_)
    refine (pre1 (graph_Values_r8 g_ s391 _)).trans (bind_g fun y397 => ?_)
    refine .trans seq_push ?_
    refine (pre1 (graph_Values_f1000010 g_ s391 y397 _)).trans ?_
    refine (cond_e (b := (!y397.2)) (st' := (S38_7 g_ s391 y397)) ).trans (bif_g ?_ ?_)
    · refine (pre1 (graph_Values_fzx2 g_ s391 y397 _)).trans ?_
      refine (ret_eq).trans ?_
      refine seqC_ret.trans ?_
      refine block_ret.trans ?_
      refine seqC_ret.trans ?_
      kernel_rfl
    · refine (skip_eq).trans ?_
      refine (seqC_normal (st' := (S38_7 g_ s391 y397))).trans ?_
      refine (pre1 (graph_Values_r11 g_ s391 y397 _)).trans (bind_g fun y398 => ?_)
      refine .trans seq_push ?_
      refine (pre1 (graph_Values_f1000013 g_ s391 y398 _)).trans ?_
      refine (cond_e (b := (y398.2 != 0)) (st' := (S38_9 g_ s391 y398)) ).trans (bif_g ?_ ?_)
      · refine (pre1 (graph_Values_fzx3 g_ s391 y398 _)).trans ?_
        refine (ret_eq).trans ?_
        refine seqC_ret.trans ?_
        refine block_ret.trans ?_
        refine seqC_ret.trans ?_
        kernel_rfl
      · refine (skip_eq).trans ?_
        refine (seqC_normal (st' := (S38_10 g_ s391 y398))).trans ?_
        refine (graph_Values_r14 g_ s391 y398 _).trans (bind_g fun y399 => ?_)
        refine block_normal.trans ?_
        refine (seqC_normal (st' := (S38_11 g_ s391 y398 y399))).trans ?_
        refine (graph_Values_r15 g_ s391 y398 y399 _).trans ?_
        kernel_rfl
  · refine ((exit_eq (j := 0))).trans ?_
    refine seqC_exit.trans ?_
    kernel_rfl
theorem graph_Values_l6 : R38 C38.r.r.r.r.l.r.b (S38_3 g_ y320) q = Option.bind (iterN (graph_Values_l6_p g_) LL (y320.1, (0 : Int), (0 : Int))) (either (fun y400 : ((List I4) × Int × Int) => q (.exit 0) (S38_12 g_ y400)) (either (fun y401 : Unit => q .ret S38_8) (fun y402 : Int => q .ret (S38_13 y402)))) :=
  Eq.trans (by kernel_rfl) (loop_iter3 (S := fun s391 : ((List I4) × Int × Int) => (S38_4 g_ s391)) (Y1 := fun y400 : ((List I4) × Int × Int) => ((.exit 0), (S38_12 g_ y400))) (Y2 := fun y401 : Unit => (.ret, S38_8)) (Y3 := fun y402 : Int => (.ret, (S38_13 y402))) (fun s q => graph_Values_l6_b g_ s q) (fun z => rfl) (fun z => rfl) (fun z => rfl) LL (y320.1, (0 : Int), (0 : Int)))
abbrev S38_14 : St := ⟨[(1, rC tsGraph g_), (4, rO tsI4 y400.1 4), (6, ri y400.2.1)], [], [], 70⟩
theorem graph_Values_f1000017 : P38 1 C38.r.r.r.r.r.l (S38_14 g_ y400) k = k ⟨[(1, rC tsGraph g_), (4, rO tsI4 y400.1 4), (59, rb (decide (y400.2.1 > 4096)))], [], [], 70⟩ := by kernel_rfl
abbrev S38_15 : St := ⟨[(1, rC tsGraph g_), (4, rO tsI4 y400.1 4)], [], [], 70⟩
theorem graph_Values_fzx4 : P38 1 C38.r.r.r.r.r.l.r.t (S38_15 g_ y400) k = k ⟨[(2, .one (.ow tsI4 [] (.v 2))), (3, ri 3)], [], [], 70⟩ := by kernel_rfl
theorem graph_Values_r18 : P38 1 C38.r.r.r.r.r.r.l (S38_15 g_ y400) k = Option.bind (graph_picked y400.1 g_.2.2) fun y404 : ((List I4) × Bool) => k ⟨[(4, rO tsI4 y400.1 4), (14, rb y404.2)], [], [], 70⟩ := by kernel_rfl
theorem graph_Values_f1000020 (y404 : ((List I4) × Bool)) (k : St → Option α) : P38 1 C38.r.r.r.r.r.r.l.r ⟨[(4, rO tsI4 y400.1 4), (14, rb y404.2)], [], [], 70⟩ k = k ⟨[(4, rO tsI4 y400.1 4), (68, rb (!y404.2))], [], [], 70⟩ := by kernel_rfl
abbrev S38_16 : St := ⟨[(4, rO tsI4 y400.1 4)], [], [], 70⟩
theorem graph_Values_fzx5 : P38 1 C38.r.r.r.r.r.r.l.r.r.t (S38_16 y400) k = k ⟨[(2, .one (.ow tsI4 [] (.v 2))), (3, ri 13)], [], [], 70⟩ := by kernel_rfl
theorem graph_Values_fzx6 : P38 1 C38.r.r.r.r.r.r.r (S38_16 y400) k = k ⟨[(2, rO tsI4 y400.1 4), (3, ri 0)], [], [], 70⟩ := by kernel_rfl
/-- quilt/graph.Values -/
def graph_Values : Option ((List I4) × Int) := (Option.bind (graph_goesIn g_) (fun y320 : ((List I4) × Int) => (bif (y320.2 != 0) then (some ([], y320.2)) else (Option.bind (iterN (graph_Values_l6_p g_) LL (y320.1, (0 : Int), (0 : Int))) (either (fun y400 : ((List I4) × Int × Int) => (bif (decide (y400.2.1 > 4096)) then (some ([], (3 : Int))) else (Option.bind (graph_picked y400.1 g_.2.2) (fun y404 : ((List I4) × Bool) => (bif (!y404.2) then (some ([], (13 : Int))) else (some (y400.1, (0 : Int)))))))) (either (fun y401 : Unit => (some ([], (13 : Int)))) (fun y402 : Int => (some ([], y402)))))))))
theorem graph_Values_is : stepO E cp38 noE 19 [rA tsGraph g_] = Option.bind (graph_Values g_) (fun y : ((List I4) × Int) => some (.tup [.one (.ow tsI4 y.1 (.s 0)), ri y.2] : R)) := by
  refine .trans ?_ (bind_b fun y320 => (bif_b some_b (bind_b (either_b (fun y400 => (bif_b some_b (bind_b fun y404 => (bif_b some_b some_b)))) (either_b (fun y401 => some_b) (fun y402 => some_b))))))
  refine (stepG_is (nt := 70) (regs := [(0, rA tsGraph g_)])).trans ?_
  refine (pre2 (graph_Values_r1 g_ _)).trans (bind_g fun y320 => ?_)
  refine .trans seq_push ?_
  refine (pre1 (graph_Values_f1000003 g_ y320 _)).trans ?_
  refine (cond_e (b := (y320.2 != 0)) (st' := (S38_0 g_ y320)) ).trans (bif_g ?_ ?_)
  · refine (pre1 (graph_Values_fz g_ y320 _)).trans ?_
    refine (ret_eq).trans ?_
    refine seqC_ret.trans ?_
    kernel_rfl
  · refine (skip_eq).trans ?_
    refine (seqC_normal (st' := (S38_1 g_ y320))).trans ?_
    refine (pre1 (graph_Values_f5 g_ y320 _)).trans ?_
    refine .trans seq_push ?_
    refine (pre1 (graph_Values_f6 g_ y320 _)).trans ?_
    refine (block_push (id := 0)).trans ?_
    refine (graph_Values_l6 g_ y320 _).trans (bind_g (either_g (fun y400 => ?_) (either_g (fun y401 => ?_) (fun y402 => ?_))))
    · refine block_same.trans ?_
      refine (seqC_normal (st' := (S38_14 g_ y400))).trans ?_
      refine .trans seq_push ?_
      refine (pre1 (graph_Values_f1000017 g_ y400 _)).trans ?_
      refine (cond_e (b := (decide (y400.2.1 > 4096))) (st' := (S38_15 g_ y400)) ).trans (bif_g ?_ ?_)
      · refine (pre1 (graph_Values_fzx4 g_ y400 _)).trans ?_
        refine (ret_eq).trans ?_
        refine seqC_ret.trans ?_
        kernel_rfl
      · refine (skip_eq).trans ?_
        refine (seqC_normal (st' := (S38_15 g_ y400))).trans ?_
        refine .trans seq_push ?_
        refine (pre1 (graph_Values_r18 g_ y400 _)).trans (bind_g fun y404 => ?_)
        refine (pre1 (graph_Values_f1000020 y400 y404 _)).trans ?_
        refine (cond_e (b := (!y404.2)) (st' := (S38_16 y400)) ).trans (bif_g ?_ ?_)
        · refine (pre1 (graph_Values_fzx5 y400 _)).trans ?_
          refine (ret_eq).trans ?_
          refine seqC_ret.trans ?_
          kernel_rfl
        · refine (skip_eq).trans ?_
          refine (seqC_normal (st' := (S38_16 y400))).trans ?_
          refine (pre1 (graph_Values_fzx6 y400 _)).trans ?_
          refine (ret_eq).trans ?_
          kernel_rfl
    · refine block_ret.trans ?_
      refine seqC_ret.trans ?_
      kernel_rfl
    · refine block_ret.trans ?_
      refine seqC_ret.trans ?_
      kernel_rfl
noncomputable def cp39 : CallP := withC cp38 19 [(.agg tsGraph)] (.tup [(.one (.ow tsI4)), pI]) (fun y : ((List I4) × Int) => (y.1, y.2, ())) (fun x => graph_Values x.1)
theorem cp39_ok : PureOK E cp39 := conO eok cp38_ok noE_ok fun x => Eq.mp (by kernel_rfl) (graph_Values_is x.1)
end
end Go.V.P
