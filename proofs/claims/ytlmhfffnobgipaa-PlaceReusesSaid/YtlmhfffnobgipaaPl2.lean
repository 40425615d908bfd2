/- What functions compute. -/
import Derived.Test.YtlmhfffnobgipaaPl1
namespace Go.V.P
open Go.RowKit Go.V Go.Proofs
set_option linter.unusedVariables false
set_option maxRecDepth 100000
section
variable {α : Type} (g_ : Graph) (y61 : ((List I4) × Int)) (s348 : ((List I4) × Int × Int)) (y354 : ((List I4) × Bool)) (y355 : (I4 × Int)) (y356 : Int) (y357 : ((List I4) × Int × Int)) (k : St → Option α) (q : Kont α)
noncomputable abbrev C37 := codeOf E.P 29
noncomputable abbrev P37 := @preK α E 29 cp37 noE
noncomputable abbrev R37 := @runCode α E 29 cp37 noE
abbrev S37_0 : St := ⟨[(1, rC tsGraph g_), (4, rO tsI4 y61.1 4), (5, ri y61.2)], [], [], 70⟩
theorem graph_Values_r1 : P37 2 C37 ⟨[(0, rA tsGraph g_)], [], [], 70⟩ k = Option.bind (graph_goesIn g_) fun y61 : ((List I4) × Int) => k (S37_0 g_ y61) := by kernel_rfl
theorem graph_Values_f1000003 : P37 1 C37.r.r.l (S37_0 g_ y61) k = k ⟨[(1, rC tsGraph g_), (4, rO tsI4 y61.1 4), (5, ri y61.2), (21, rb (y61.2 != 0))], [], [], 70⟩ := by kernel_rfl
theorem graph_Values_fz : P37 1 C37.r.r.l.r.t (S37_0 g_ y61) k = k ⟨[(2, .one (.ow tsI4 [] (.v 2))), (3, ri y61.2)], [], [], 70⟩ := by kernel_rfl
abbrev S37_1 : St := ⟨[(1, rC tsGraph g_), (4, rO tsI4 y61.1 4)], [], [], 70⟩
abbrev S37_2 : St := ⟨[(1, rC tsGraph g_), (4, rO tsI4 y61.1 4), (6, ri 0)], [], [], 70⟩
theorem graph_Values_f5 : P37 1 C37.r.r.r (S37_1 g_ y61) k = k (S37_2 g_ y61) := by kernel_rfl
abbrev S37_3 : St := ⟨[(1, rC tsGraph g_), (4, rO tsI4 y61.1 4), (6, ri 0), (24, rl tsNode g_.2.1), (25, ri (g_.2.1.length : Int)), (26, ri 0)], [], [], 70⟩
theorem graph_Values_f6 : P37 1 C37.r.r.r.r.l (S37_2 g_ y61) k = k (S37_3 g_ y61) := by kernel_rfl
abbrev S37_4 : St := ⟨[(1, rC tsGraph g_), (4, rO tsI4 s348.1 4), (6, ri s348.2.1), (24, rl tsNode g_.2.1), (25, ri (g_.2.1.length : Int)), (26, ri s348.2.2)], [], [], 70⟩
theorem graph_Values_fzx1 : P37 1 C37.r.r.r.r.l.r.b.b (S37_4 g_ s348) k = k ⟨[(1, rC tsGraph g_), (4, rO tsI4 s348.1 4), (6, ri s348.2.1), (24, rl tsNode g_.2.1), (25, ri (g_.2.1.length : Int)), (26, ri s348.2.2), (27, rb (decide (s348.2.2 < (g_.2.1.length : Int))))], [], [], 70⟩ := by kernel_rfl
def graph_Values_r7_p : Option Unit := (bif (decide ((0 : Int) ≤ s348.2.2)) then (bif (decide (s348.2.2 < (g_.2.1.length : Int))) then (some ()) else none) else none)
abbrev S37_5 : St := ⟨[(1, rC tsGraph g_), (4, rO tsI4 s348.1 4), (6, ri s348.2.1), (8, rF 0), (24, rl tsNode g_.2.1), (25, ri (g_.2.1.length : Int)), (26, ri s348.2.2)], [(tsNode.leaves (gt g_.2.1 s348.2.2 dNode))], [], 70⟩
theorem graph_Values_r7 : P37 1 C37.r.r.r.r.l.r.b.b.r.r.l.b (S37_4 g_ s348) k = Option.bind (graph_Values_r7_p g_ s348) (fun y353 : Unit => k (S37_5 g_ s348)) := .trans (by kernel_rfl) (bif_b (bif_b some_b none_b) none_b)
abbrev S37_6 : St := ⟨[(1, rC tsGraph g_), (4, rO tsI4 s348.1 4), (6, ri s348.2.1), (8, rF 0), (9, rO tsI4 y354.1 9), (10, rb y354.2), (24, rl tsNode g_.2.1), (25, ri (g_.2.1.length : Int)), (26, ri s348.2.2)], [(tsNode.leaves (gt g_.2.1 s348.2.2 dNode))], [], 70⟩
theorem graph_Values_r8 : P37 1 C37.r.r.r.r.l.r.b.b.r.r.l.b.r (S37_5 g_ s348) k = Option.bind (graph_picked s348.1 ((gt g_.2.1 s348.2.2 dNode).2.1)) fun y354 : ((List I4) × Bool) => k (S37_6 g_ s348 y354) := by kernel_rfl
theorem graph_Values_f1000010 : P37 1 C37.r.r.r.r.l.r.b.b.r.r.l.b.r.r.l (S37_6 g_ s348 y354) k = k ⟨[(1, rC tsGraph g_), (4, rO tsI4 s348.1 4), (6, ri s348.2.1), (8, rF 0), (9, rO tsI4 y354.1 9), (24, rl tsNode g_.2.1), (25, ri (g_.2.1.length : Int)), (26, ri s348.2.2), (38, rb (!y354.2))], [(tsNode.leaves (gt g_.2.1 s348.2.2 dNode))], [], 70⟩ := by kernel_rfl
abbrev S37_7 : St := ⟨[(1, rC tsGraph g_), (4, rO tsI4 s348.1 4), (6, ri s348.2.1), (8, rF 0), (9, rO tsI4 y354.1 9), (24, rl tsNode g_.2.1), (25, ri (g_.2.1.length : Int)), (26, ri s348.2.2)], [(tsNode.leaves (gt g_.2.1 s348.2.2 dNode))], [], 70⟩
abbrev S37_8 : St := ⟨[(2, .one (.ow tsI4 [] (.v 2))), (3, ri 13)], [[]], [], 70⟩
theorem graph_Values_fzx2 : P37 1 C37.r.r.r.r.l.r.b.b.r.r.l.b.r.r.l.r.t (S37_7 g_ s348 y354) k = k S37_8 := by kernel_rfl
abbrev S37_9 : St := ⟨[(1, rC tsGraph g_), (4, rO tsI4 s348.1 4), (6, ri s348.2.1), (8, rF 0), (11, rF 1), (12, ri y355.2), (24, rl tsNode g_.2.1), (25, ri (g_.2.1.length : Int)), (26, ri s348.2.2)], [(tsNode.leaves (gt g_.2.1 s348.2.2 dNode)), (tsI4.leaves y355.1)], [], 70⟩
theorem graph_Values_r11 : P37 1 C37.r.r.r.r.l.r.b.b.r.r.l.b.r.r.r (S37_7 g_ s348 y354) k = Option.bind (graph_Value (gt g_.2.1 s348.2.2 dNode) y354.1) fun y355 : (I4 × Int) => k (S37_9 g_ s348 y355) := by kernel_rfl
theorem graph_Values_f1000013 : P37 1 C37.r.r.r.r.l.r.b.b.r.r.l.b.r.r.r.r.l (S37_9 g_ s348 y355) k = k ⟨[(1, rC tsGraph g_), (4, rO tsI4 s348.1 4), (6, ri s348.2.1), (8, rF 0), (11, rF 1), (12, ri y355.2), (24, rl tsNode g_.2.1), (25, ri (g_.2.1.length : Int)), (26, ri s348.2.2), (46, rb (y355.2 != 0))], [(tsNode.leaves (gt g_.2.1 s348.2.2 dNode)), (tsI4.leaves y355.1)], [], 70⟩ := by kernel_rfl
theorem graph_Values_fzx3 : P37 1 C37.r.r.r.r.l.r.b.b.r.r.l.b.r.r.r.r.l.r.t (S37_9 g_ s348 y355) k = k ⟨[(2, .one (.ow tsI4 [] (.v 2))), (3, ri y355.2)], [[], []], [], 70⟩ := by kernel_rfl
def graph_Values_r14_p : Option Int := (bif (decide (s348.1.length + ([y355.1] : List I4).length ≤ maxL)) then (some (IntKind.wrap .i64 (s348.2.1 + (((gt g_.2.1 s348.2.2 dNode).2.2.2.2.2.2.2.2.2.2.2.2.1).length : Int)))) else none)
abbrev S37_10 : St := ⟨[(1, rC tsGraph g_), (4, rO tsI4 s348.1 4), (6, ri s348.2.1), (8, rF 0), (11, rF 1), (24, rl tsNode g_.2.1), (25, ri (g_.2.1.length : Int)), (26, ri s348.2.2)], [(tsNode.leaves (gt g_.2.1 s348.2.2 dNode)), (tsI4.leaves y355.1)], [], 70⟩
abbrev S37_11 : St := ⟨[(1, rC tsGraph g_), (4, .one (.ow tsI4 (s348.1 ++ [y355.1]) (.v 4))), (6, ri y356), (24, rl tsNode g_.2.1), (25, ri (g_.2.1.length : Int)), (26, ri s348.2.2)], [[], []], [], 70⟩
theorem graph_Values_r14 : R37 C37.r.r.r.r.l.r.b.b.r.r.l.b.r.r.r.r.r (S37_10 g_ s348 y355) q = Option.bind (graph_Values_r14_p g_ s348 y355) (fun y356 : Int => q .normal (S37_11 g_ s348 y355 y356)) := .trans (by kernel_rfl) (bif_b some_b none_b)
theorem graph_Values_r15 : R37 C37.r.r.r.r.l.r.b.b.r.r.r (S37_11 g_ s348 y355 y356) q = q .normal ⟨[(1, rC tsGraph g_), (4, .one (.ow tsI4 (s348.1 ++ [y355.1]) (.v 4))), (6, ri y356), (24, rl tsNode g_.2.1), (25, ri (g_.2.1.length : Int)), (26, ri (IntKind.wrap .i64 (s348.2.2 + 1)))], [[], []], [], 70⟩ := by kernel_rfl
def graph_Values_l6_p : Option (((List I4) × Int × Int) ⊕ (((List I4) × Int × Int) ⊕ (Unit ⊕ Int))) := (bif (decide (s348.2.2 < (g_.2.1.length : Int))) then (Option.bind (graph_Values_r7_p g_ s348) (fun y353 : Unit => (Option.bind (graph_picked s348.1 ((gt g_.2.1 s348.2.2 dNode).2.1)) (fun y354 : ((List I4) × Bool) => (bif (!y354.2) then (some (Sum.inr (Sum.inr (Sum.inl ())))) else (Option.bind (graph_Value (gt g_.2.1 s348.2.2 dNode) y354.1) (fun y355 : (I4 × Int) => (bif (y355.2 != 0) then (some (Sum.inr (Sum.inr (Sum.inr y355.2)))) else (Option.bind (graph_Values_r14_p g_ s348 y355) (fun y356 : Int => (some (Sum.inl ((s348.1 ++ [y355.1]), y356, (IntKind.wrap .i64 (s348.2.2 + 1))))))))))))))) else (some (Sum.inr (Sum.inl s348))))
abbrev S37_12 : St := ⟨[(1, rC tsGraph g_), (4, rO tsI4 y357.1 4), (6, ri y357.2.1), (24, rl tsNode g_.2.1), (25, ri (g_.2.1.length : Int)), (26, ri y357.2.2)], [], [], 70⟩
abbrev S37_13 (y359 : Int) : St := ⟨[(2, .one (.ow tsI4 [] (.v 2))), (3, ri y359)], [[], []], [], 70⟩
theorem graph_Values_l6_b : R37 C37.r.r.r.r.l.r.b.b (S37_4 g_ s348) (loopKont 0 q) = Option.bind (graph_Values_l6_p g_ s348) (either (fun y : ((List I4) × Int × Int) => q .normal ⟨[(1, rC tsGraph g_), (4, rO tsI4 y.1 4), (6, ri y.2.1), (24, rl tsNode g_.2.1), (25, ri (g_.2.1.length : Int)), (26, ri y.2.2)], [], [], 70⟩) (either (fun y357 : ((List I4) × Int × Int) => q (.exit 0) (S37_12 g_ y357)) (either (fun y358 : Unit => q .ret S37_8) (fun y359 : Int => q .ret (S37_13 y359))))) := by
  refine .trans ?_ (bif_b (bind_b fun y353 => (bind_b fun y354 => (bif_b e4_2 (bind_b fun y355 => (bif_b e4_3 (bind_b fun y356 => e4_0)))))) e4_1)
  refine (pre1 (graph_Values_fzx1 g_ s348 _)).trans ?_
  refine .trans seq_push ?_
  refine (cond_e (b := (decide (s348.2.2 < (g_.2.1.length : Int)))) (st' := (S37_4 g_ s348)) ).trans (bif_g ?_ ?_)
  · refine (skip_eq).trans ?_
    refine (seqC_normal (st' := (S37_4 g_ s348))).trans ?_
    refine .trans seq_push ?_
    refine (block_push (id := 1)).trans ?_
    refine (pre1 (graph_Values_r7 g_ s348 _)).trans (bind_g fun y353 => ?_)
    refine (pre1 (graph_Values_r8 g_ s348 _)).trans (bind_g fun y354 => ?_)
    refine .trans seq_push ?_
    refine (pre1 (graph_Values_f1000010 g_ s348 y354 _)).trans ?_
    refine (cond_e (b := (!y354.2)) (st' := (S37_7 g_ s348 y354)) ).trans (bif_g ?_ ?_)
    · refine (pre1 (graph_Values_fzx2 g_ s348 y354 _)).trans ?_
      refine (ret_eq).trans ?_
      refine seqC_ret.trans ?_
      refine block_ret.trans ?_
      refine seqC_ret.trans ?_
      kernel_rfl
    · refine (skip_eq).trans ?_
      refine (seqC_normal (st' := (S37_7 g_ s348 y354))).trans ?_
      refine (pre1 (graph_Values_r11 g_ s348 y354 _)).trans (bind_g fun y355 => ?_)
      refine .trans seq_push ?_
      refine (pre1 (graph_Values_f1000013 g_ s348 y355 _)).trans ?_
      refine (cond_e (b := (y355.2 != 0)) (st' := (S37_9 g_ s348 y355)) ).trans (bif_g ?_ ?_)
      · refine (pre1 (graph_Values_fzx3 g_ s348 y355 _)).trans ?_
        refine (ret_eq).trans ?_
        refine seqC_ret.trans ?_
        refine block_ret.trans ?_
        refine seqC_ret.trans ?_
        kernel_rfl
      · refine (skip_eq).trans ?_
        refine (seqC_normal (st' := (S37_10 g_ s348 y355))).trans ?_
        refine (graph_Values_r14 g_ s348 y355 _).trans (bind_g fun y356 => ?_)
        refine block_normal.trans ?_
        refine (seqC_normal (st' := (S37_11 g_ s348 y355 y356))).trans ?_
        refine (graph_Values_r15 g_ s348 y355 y356 _).trans ?_
        kernel_rfl
  · refine ((exit_eq (j := 0))).trans ?_
    refine seqC_exit.trans ?_
    kernel_rfl
theorem graph_Values_l6 : R37 C37.r.r.r.r.l.r.b (S37_3 g_ y61) q = Option.bind (iterN (graph_Values_l6_p g_) LL (y61.1, (0 : Int), (0 : Int))) (either (fun y357 : ((List I4) × Int × Int) => q (.exit 0) (S37_12 g_ y357)) (either (fun y358 : Unit => q .ret S37_8) (fun y359 : Int => q .ret (S37_13 y359)))) :=
  Eq.trans (by kernel_rfl) (loop_iter3 (S := fun s348 : ((List I4) × Int × Int) => (S37_4 g_ s348)) (Y1 := fun y357 : ((List I4) × Int × Int) => ((.exit 0), (S37_12 g_ y357))) (Y2 := fun y358 : Unit => (.ret, S37_8)) (Y3 := fun y359 : Int => (.ret, (S37_13 y359))) (fun s q => graph_Values_l6_b g_ s q) (fun z => rfl) (fun z => rfl) (fun z => rfl) LL (y61.1, (0 : Int), (0 : Int)))
abbrev S37_14 : St := ⟨[(1, rC tsGraph g_), (4, rO tsI4 y357.1 4), (6, ri y357.2.1)], [], [], 70⟩
theorem graph_Values_f1000017 : P37 1 C37.r.r.r.r.r.l (S37_14 g_ y357) k = k ⟨[(1, rC tsGraph g_), (4, rO tsI4 y357.1 4), (59, rb (decide (y357.2.1 > 4096)))], [], [], 70⟩ := by kernel_rfl
abbrev S37_15 : St := ⟨[(1, rC tsGraph g_), (4, rO tsI4 y357.1 4)], [], [], 70⟩
theorem graph_Values_fzx4 : P37 1 C37.r.r.r.r.r.l.r.t (S37_15 g_ y357) k = k ⟨[(2, .one (.ow tsI4 [] (.v 2))), (3, ri 3)], [], [], 70⟩ := by kernel_rfl
theorem graph_Values_r18 : P37 1 C37.r.r.r.r.r.r.l (S37_15 g_ y357) k = Option.bind (graph_picked y357.1 g_.2.2) fun y361 : ((List I4) × Bool) => k ⟨[(4, rO tsI4 y357.1 4), (14, rb y361.2)], [], [], 70⟩ := by kernel_rfl
theorem graph_Values_f1000020 (y361 : ((List I4) × Bool)) (k : St → Option α) : P37 1 C37.r.r.r.r.r.r.l.r ⟨[(4, rO tsI4 y357.1 4), (14, rb y361.2)], [], [], 70⟩ k = k ⟨[(4, rO tsI4 y357.1 4), (68, rb (!y361.2))], [], [], 70⟩ := by kernel_rfl
abbrev S37_16 : St := ⟨[(4, rO tsI4 y357.1 4)], [], [], 70⟩
theorem graph_Values_fzx5 : P37 1 C37.r.r.r.r.r.r.l.r.r.t (S37_16 y357) k = k ⟨[(2, .one (.ow tsI4 [] (.v 2))), (3, ri 13)], [], [], 70⟩ := by kernel_rfl
theorem graph_Values_fzx6 : P37 1 C37.r.r.r.r.r.r.r (S37_16 y357) k = k ⟨[(2, rO tsI4 y357.1 4), (3, ri 0)], [], [], 70⟩ := by kernel_rfl
/-- quilt/graph.Values -/
def graph_Values : Option ((List I4) × Int) := (Option.bind (graph_goesIn g_) (fun y61 : ((List I4) × Int) => (bif (y61.2 != 0) then (some ([], y61.2)) else (Option.bind (iterN (graph_Values_l6_p g_) LL (y61.1, (0 : Int), (0 : Int))) (either (fun y357 : ((List I4) × Int × Int) => (bif (decide (y357.2.1 > 4096)) then (some ([], (3 : Int))) else (Option.bind (graph_picked y357.1 g_.2.2) (fun y361 : ((List I4) × Bool) => (bif (!y361.2) then (some ([], (13 : Int))) else (some (y357.1, (0 : Int)))))))) (either (fun y358 : Unit => (some ([], (13 : Int)))) (fun y359 : Int => (some ([], y359)))))))))
theorem graph_Values_is : stepO E cp37 noE 29 [rA tsGraph g_] = Option.bind (graph_Values g_) (fun y : ((List I4) × Int) => some (.tup [.one (.ow tsI4 y.1 (.s 0)), ri y.2] : R)) := by
  refine .trans ?_ (bind_b fun y61 => (bif_b some_b (bind_b (either_b (fun y357 => (bif_b some_b (bind_b fun y361 => (bif_b some_b some_b)))) (either_b (fun y358 => some_b) (fun y359 => some_b))))))
  refine (stepG_is (nt := 70) (regs := [(0, rA tsGraph g_)])).trans ?_
  refine (pre2 (graph_Values_r1 g_ _)).trans (bind_g fun y61 => ?_)
  refine .trans seq_push ?_
  refine (pre1 (graph_Values_f1000003 g_ y61 _)).trans ?_
  refine (cond_e (b := (y61.2 != 0)) (st' := (S37_0 g_ y61)) ).trans (bif_g ?_ ?_)
  · refine (pre1 (graph_Values_fz g_ y61 _)).trans ?_
    refine (ret_eq).trans ?_
    refine seqC_ret.trans ?_
    kernel_rfl
  · refine (skip_eq).trans ?_
    refine (seqC_normal (st' := (S37_1 g_ y61))).trans ?_
    refine (pre1 (graph_Values_f5 g_ y61 _)).trans ?_
    refine .trans seq_push ?_
    refine (pre1 (graph_Values_f6 g_ y61 _)).trans ?_
    refine (block_push (id := 0)).trans ?_
    refine (graph_Values_l6 g_ y61 _).trans (bind_g (either_g (fun y357 => ?_) (either_g (fun y358 => ?_) (fun y359 => ?_))))
    · refine block_same.trans ?_
      refine (seqC_normal (st' := (S37_14 g_ y357))).trans ?_
      refine .trans seq_push ?_
      refine (pre1 (graph_Values_f1000017 g_ y357 _)).trans ?_
      refine (cond_e (b := (decide (y357.2.1 > 4096))) (st' := (S37_15 g_ y357)) ).trans (bif_g ?_ ?_)
      · refine (pre1 (graph_Values_fzx4 g_ y357 _)).trans ?_
        refine (ret_eq).trans ?_
        refine seqC_ret.trans ?_
        kernel_rfl
      · refine (skip_eq).trans ?_
        refine (seqC_normal (st' := (S37_15 g_ y357))).trans ?_
        refine .trans seq_push ?_
        refine (pre1 (graph_Values_r18 g_ y357 _)).trans (bind_g fun y361 => ?_)
        refine (pre1 (graph_Values_f1000020 y357 y361 _)).trans ?_
        refine (cond_e (b := (!y361.2)) (st' := (S37_16 y357)) ).trans (bif_g ?_ ?_)
        · refine (pre1 (graph_Values_fzx5 y357 _)).trans ?_
          refine (ret_eq).trans ?_
          refine seqC_ret.trans ?_
          kernel_rfl
        · refine (skip_eq).trans ?_
          refine (seqC_normal (st' := (S37_16 y357))).trans ?_
          refine (pre1 (graph_Values_fzx6 y357 _)).trans ?_
          refine (ret_eq).trans ?_
          kernel_rfl
    · refine block_ret.trans ?_
      refine seqC_ret.trans ?_
      kernel_rfl
    · refine block_ret.trans ?_
      refine seqC_ret.trans ?_
      kernel_rfl
noncomputable def cp38 : CallP := withC cp37 29 [(.agg tsGraph)] (.tup [(.one (.ow tsI4)), pI]) (fun y : ((List I4) × Int) => (y.1, y.2, ())) (fun x => graph_Values x.1)
theorem cp38_ok : PureOK E cp38 := conO eok cp37_ok noE_ok fun x => Eq.mp (by kernel_rfl) (graph_Values_is x.1)
end
noncomputable abbrev C38 := codeOf E.P 22
noncomputable abbrev P38 {α : Type} := @preK α E 22 cp38 noE
theorem graph_Check_r1 {α : Type} (g_ : Graph) (k : St → Option α) : P38 2 C38 ⟨[(0, rA tsGraph g_)], [], [], 11⟩ k = Option.bind (graph_Values g_) fun y363 : ((List I4) × Int) => k ⟨[(4, ri y363.2)], [], [], 11⟩ := by kernel_rfl
theorem graph_Check_fz {α : Type} (y363 : ((List I4) × Int)) (k : St → Option α) : P38 1 C38.r.r ⟨[(4, ri y363.2)], [], [], 11⟩ k = k ⟨[(2, ri y363.2)], [], [], 11⟩ := by kernel_rfl
/-- quilt/graph.Check -/
def graph_Check (g_ : Graph) : Option Int := (Option.bind (graph_Values g_) (fun y363 : ((List I4) × Int) => (some y363.2)))
theorem graph_Check_is (g_ : Graph) : stepS E cp38 noE 22 [rA tsGraph g_] = Option.bind (graph_Check g_) (fun y : Int => some (ri y : R)) := by
  refine .trans ?_ (bind_b fun y363 => some_b)
  refine (stepG_is (nt := 11) (regs := [(0, rA tsGraph g_)])).trans ?_
  refine (pre2 (graph_Check_r1 g_ _)).trans (bind_g fun y363 => ?_)
  refine (pre1 (graph_Check_fz y363 _)).trans ?_
  refine (ret_eq).trans ?_
  kernel_rfl
noncomputable def cp39 : CallP := withC cp38 22 [(.agg tsGraph)] (.one pI) (fun y : Int => y) (fun x => graph_Check x.1)
theorem cp39_ok : PureOK E cp39 := conS eok cp38_ok noE_ok fun x => Eq.mp (by kernel_rfl) (graph_Check_is x.1)
section
variable {α β : Type} (l_ : (List Int)) (who : Int) (c3_ : (List Int)) (c4_ : Nat) (c5_ : Node) (s390 : (Int × (List Int))) (y394 : (List Int)) (k : St → Option α) (q : Kont α)
noncomputable abbrev C39 := codeOf E.P 30
noncomputable abbrev P39 := @preK α E 30 cp39 noE
noncomputable abbrev R39 := @runCode α E 30 cp39 noE
noncomputable abbrev Q39 := @seqC α E 30 cp39 noE
abbrev S39_0 : St := ⟨[(1, ri who), (2, rF 1), (7, rl (.one (.int .i64)) l_), (8, ri (l_.length : Int)), (9, ri 0)], [[.vec (.int .i64) c3_], [.vref 0 c4_], (tsNode.leaves c5_)], [], 23⟩
theorem graph_Last_1_f1 : P39 1 C39 ⟨[(0, rl (.one (.int .i64)) l_), (1, ri who), (2, rF 1)], [[.vec (.int .i64) c3_], [.vref 0 c4_], (tsNode.leaves c5_)], [], 23⟩ k = k (S39_0 l_ who c3_ c4_ c5_) := by kernel_rfl
abbrev S39_1 : St := ⟨[(1, ri who), (2, rF 1), (7, rl (.one (.int .i64)) l_), (8, ri (l_.length : Int)), (9, ri s390.1)], [[.vec (.int .i64) s390.2], [.vref 0 c4_], (tsNode.leaves c5_)], [], 23⟩
theorem graph_Last_1_fz : P39 1 C39.r.b.b (S39_1 l_ who c4_ c5_ s390) k = k ⟨[(1, ri who), (2, rF 1), (7, rl (.one (.int .i64)) l_), (8, ri (l_.length : Int)), (9, ri s390.1), (10, rb (decide (s390.1 < (l_.length : Int))))], [[.vec (.int .i64) s390.2], [.vref 0 c4_], (tsNode.leaves c5_)], [], 23⟩ := by kernel_rfl
def graph_Last_1_r2_p : Option Unit := (bif (decide ((0 : Int) ≤ s390.1)) then (bif (decide (s390.1 < (l_.length : Int))) then (some ()) else none) else none)
abbrev S39_2 : St := ⟨[(1, ri who), (2, rF 1), (6, ri (gt l_ s390.1 (0 : Int))), (7, rl (.one (.int .i64)) l_), (8, ri (l_.length : Int)), (9, ri s390.1)], [[.vec (.int .i64) s390.2], [.vref 0 c4_], (tsNode.leaves c5_)], [], 23⟩
theorem graph_Last_1_r2 : P39 1 C39.r.b.b.r.r.l.b (S39_1 l_ who c4_ c5_ s390) k = Option.bind (graph_Last_1_r2_p l_ s390) (fun y391 : Unit => k (S39_2 l_ who c4_ c5_ s390)) := .trans (by kernel_rfl) (bif_b (bif_b some_b none_b) none_b)
def graph_Last_1_r3_q (K : Bool → β) : β := (K (graph_within (gt l_ s390.1 (0 : Int)) (0 : Int) (IntKind.wrap .i64 (((c4_ : Nat) : Int) - 1))))
def graph_Last_1_r3_p : Bool := graph_Last_1_r3_q l_ c4_ s390 (fun y => y)
theorem graph_Last_1_r3_n (K : Bool → β) : graph_Last_1_r3_q l_ c4_ s390 K = K (graph_Last_1_r3_p l_ c4_ s390) := rfl
theorem graph_Last_1_r3 : P39 1 C39.r.b.b.r.r.l.b.r (S39_2 l_ who c4_ c5_ s390) k = k ⟨[(1, ri who), (2, rF 1), (6, ri (gt l_ s390.1 (0 : Int))), (7, rl (.one (.int .i64)) l_), (8, ri (l_.length : Int)), (9, ri s390.1), (17, rb (graph_Last_1_r3_p l_ c4_ s390))], [[.vec (.int .i64) s390.2], [.vref 0 c4_], (tsNode.leaves c5_)], [], 23⟩ := Eq.trans (by kernel_rfl) (graph_Last_1_r3_n l_ c4_ s390 (fun y392 : Bool => k ⟨[(1, ri who), (2, rF 1), (6, ri (gt l_ s390.1 (0 : Int))), (7, rl (.one (.int .i64)) l_), (8, ri (l_.length : Int)), (9, ri s390.1), (17, rb y392)], [[.vec (.int .i64) s390.2], [.vref 0 c4_], (tsNode.leaves c5_)], [], 23⟩))
def graph_Last_1_r4_p : Option Unit := (bif (decide ((0 : Int) ≤ (gt l_ s390.1 (0 : Int)))) then (bif (decide ((gt l_ s390.1 (0 : Int)) < ((c4_ : Nat) : Int))) then (bif (decide ((Int.toNat (gt l_ s390.1 (0 : Int))) < s390.2.length)) then (some ()) else none) else none) else none)
abbrev S39_3 : St := ⟨[(1, ri who), (2, rF 1), (7, rl (.one (.int .i64)) l_), (8, ri (l_.length : Int)), (9, ri s390.1)], [[.vec (.int .i64) (s390.2.set (Int.toNat (gt l_ s390.1 (0 : Int))) who)], [.vref 0 c4_], (tsNode.leaves c5_)], [], 23⟩
theorem graph_Last_1_r4 : R39 C39.r.b.b.r.r.l.b.r.r.t (S39_2 l_ who c4_ c5_ s390) q = Option.bind (graph_Last_1_r4_p l_ c4_ s390) (fun y393 : Unit => q .normal (S39_3 l_ who c4_ c5_ s390)) := .trans (by kernel_rfl) (bif_b (bif_b (bif_b some_b none_b) none_b) none_b)
def graph_Last_1_j2_p : Option (List Int) := (Option.bind (graph_Last_1_r2_p l_ s390) (fun y391 : Unit => (bif (graph_Last_1_r3_p l_ c4_ s390) then (Option.bind (graph_Last_1_r4_p l_ c4_ s390) (fun y393 : Unit => (some (s390.2.set (Int.toNat (gt l_ s390.1 (0 : Int))) who)))) else (some s390.2))))
abbrev S39_4 : St := ⟨[(1, ri who), (2, rF 1), (7, rl (.one (.int .i64)) l_), (8, ri (l_.length : Int)), (9, ri s390.1)], [[.vec (.int .i64) y394], [.vref 0 c4_], (tsNode.leaves c5_)], [], 23⟩
theorem graph_Last_1_j2 : R39 C39.r.b.b.r.r.l (S39_1 l_ who c4_ c5_ s390) (Q39 C39.r.b.b.r.r.r q) = Option.bind (graph_Last_1_j2_p l_ who c4_ s390) (fun y394 : (List Int) => R39 C39.r.b.b.r.r.r (S39_4 l_ who c4_ c5_ s390 y394) q) := by
  refine .trans ?_ (bind_b fun y391 => (bif_b (bind_b fun y393 => some_b) some_b))
  refine (block_push (id := 1)).trans ?_
  refine (pre1 (graph_Last_1_r2 l_ who c4_ c5_ s390 _)).trans (bind_g fun y391 => ?_)
  refine (pre1 (graph_Last_1_r3 l_ who c4_ c5_ s390 _)).trans ?_
  refine (cond_e (b := (graph_Last_1_r3_p l_ c4_ s390)) (st' := (S39_2 l_ who c4_ c5_ s390)) ).trans (bif_g ?_ ?_)
  · refine (graph_Last_1_r4 l_ who c4_ c5_ s390 _).trans (bind_g fun y393 => ?_)
    refine block_normal.trans ?_
    refine (seqC_normal (st' := (S39_3 l_ who c4_ c5_ s390))).trans ?_
    kernel_rfl
  · refine (skip_eq).trans ?_
    refine block_normal.trans ?_
    refine (seqC_normal (st' := (S39_1 l_ who c4_ c5_ s390))).trans ?_
    kernel_rfl
theorem graph_Last_1_r5 : R39 C39.r.b.b.r.r.r (S39_4 l_ who c4_ c5_ s390 y394) q = q .normal ⟨[(1, ri who), (2, rF 1), (7, rl (.one (.int .i64)) l_), (8, ri (l_.length : Int)), (9, ri (IntKind.wrap .i64 (s390.1 + 1)))], [[.vec (.int .i64) y394], [.vref 0 c4_], (tsNode.leaves c5_)], [], 23⟩ := by kernel_rfl
def graph_Last_1_l1_p : Option ((Int × (List Int)) ⊕ (Int × (List Int))) := (bif (decide (s390.1 < (l_.length : Int))) then (Option.bind (graph_Last_1_j2_p l_ who c4_ s390) (fun y394 : (List Int) => (some (Sum.inl ((IntKind.wrap .i64 (s390.1 + 1)), y394))))) else (some (Sum.inr s390)))
abbrev S39_5 (y395 : (Int × (List Int))) : St := ⟨[(1, ri who), (2, rF 1), (7, rl (.one (.int .i64)) l_), (8, ri (l_.length : Int)), (9, ri y395.1)], [[.vec (.int .i64) y395.2], [.vref 0 c4_], (tsNode.leaves c5_)], [], 23⟩
theorem graph_Last_1_l1_b : R39 C39.r.b.b (S39_1 l_ who c4_ c5_ s390) (loopKont 3 q) = Option.bind (graph_Last_1_l1_p l_ who c4_ s390) (either (fun y : (Int × (List Int)) => q .normal ⟨[(1, ri who), (2, rF 1), (7, rl (.one (.int .i64)) l_), (8, ri (l_.length : Int)), (9, ri y.1)], [[.vec (.int .i64) y.2], [.vref 0 c4_], (tsNode.leaves c5_)], [], 23⟩) (fun y395 : (Int × (List Int)) => q (.exit 0) (S39_5 l_ who c4_ c5_ y395))) := by
  refine .trans ?_ (bif_b (bind_b fun y394 => e2_0) e2_1)
  refine (pre1 (graph_Last_1_fz l_ who c4_ c5_ s390 _)).trans ?_
  refine .trans seq_push ?_
  refine (cond_e (b := (decide (s390.1 < (l_.length : Int)))) (st' := (S39_1 l_ who c4_ c5_ s390)) ).trans (bif_g ?_ ?_)
  · refine (skip_eq).trans ?_
    refine (seqC_normal (st' := (S39_1 l_ who c4_ c5_ s390))).trans ?_
    refine .trans seq_push ?_
    refine (graph_Last_1_j2 l_ who c4_ c5_ s390 _).trans (bind_g fun y394 => ?_)
    refine (graph_Last_1_r5 l_ who c4_ c5_ s390 y394 _).trans ?_
    kernel_rfl
  · refine ((exit_eq (j := 0))).trans ?_
    refine seqC_exit.trans ?_
    kernel_rfl
theorem graph_Last_1_l1 : R39 C39.r.b (S39_0 l_ who c3_ c4_ c5_) q = Option.bind (iterN (graph_Last_1_l1_p l_ who c4_) LL ((0 : Int), c3_)) (fun y395 : (Int × (List Int)) => q (.exit 0) (S39_5 l_ who c4_ c5_ y395)) :=
  Eq.trans (by kernel_rfl) (loop_iter1 (S := fun s390 : (Int × (List Int)) => (S39_1 l_ who c4_ c5_ s390)) (Y1 := fun y395 : (Int × (List Int)) => ((.exit 0), (S39_5 l_ who c4_ c5_ y395))) (fun s q => graph_Last_1_l1_b l_ who c4_ c5_ s q) (fun z => rfl) LL ((0 : Int), c3_))
/-- quilt/graph.Last$1 -/
def graph_Last_1 : Option (List Int) := (Option.bind (iterN (graph_Last_1_l1_p l_ who c4_) LL ((0 : Int), c3_)) (fun y395 : (Int × (List Int)) => (some y395.2)))
theorem graph_Last_1_is (k : R → Heap → Option α) : callBody E cp39 noE α 30 [rl (.one (.int .i64)) l_, ri who, rF 1] [[.vec (.int .i64) c3_], [.vref 0 c4_], (tsNode.leaves c5_)] k = Option.bind (graph_Last_1 l_ who c3_ c4_) (fun y : (List Int) => k (.tup []) [[.vec (.int .i64) y], [.vref 0 c4_], (tsNode.leaves c5_)]) := by
  refine .trans ?_ (bind_b fun y395 => some_b)
  refine (body_is (nt := 23) (regs := [(0, rl (.one (.int .i64)) l_), (1, ri who), (2, rF 1)]) (by kernel_rfl) (by kernel_rfl)).trans ?_
  refine (pre1 (graph_Last_1_f1 l_ who c3_ c4_ c5_ _)).trans ?_
  refine (block_push (id := 0)).trans ?_
  refine (graph_Last_1_l1 l_ who c3_ c4_ c5_ _).trans (bind_g fun y395 => ?_)
  refine block_same.trans ?_
  kernel_rfl
noncomputable def ce1 : CallE := withE noE 30 (decA [(.one (.g (.sl (.one (.int .i64))))), pI, (.one (.ref 1 0))] [(.cons (.vec (.int .i64)) .nil), (.cons (.vref 0) .nil), Z2]) .unit (fun y : (List Int) => ()) (fun x y => [[.vec (.int .i64) y], [.vref 0 x.2.2.1.1], (tsNode.leaves (x.2.2.2.1.1, x.2.2.2.1.2.1, x.2.2.2.1.2.2.1, x.2.2.2.1.2.2.2.1, x.2.2.2.1.2.2.2.2.1, x.2.2.2.1.2.2.2.2.2.1, x.2.2.2.1.2.2.2.2.2.2.1, x.2.2.2.1.2.2.2.2.2.2.2.1, x.2.2.2.1.2.2.2.2.2.2.2.2.1, x.2.2.2.1.2.2.2.2.2.2.2.2.2.1, x.2.2.2.1.2.2.2.2.2.2.2.2.2.2.1, x.2.2.2.1.2.2.2.2.2.2.2.2.2.2.2.1, x.2.2.2.1.2.2.2.2.2.2.2.2.2.2.2.2.1, x.2.2.2.1.2.2.2.2.2.2.2.2.2.2.2.2.2.1))]) (fun x => graph_Last_1 x.1.1 x.1.2.1 x.2.1.1 x.2.2.1.1)
theorem ce1_ok : EffOK E ce1 := conE eok cp39_ok noE_ok fun α x k => Eq.mp (by kernel_rfl) (graph_Last_1_is x.1.1 x.1.2.1 x.2.1.1 x.2.2.1.1 (x.2.2.2.1.1, x.2.2.2.1.2.1, x.2.2.2.1.2.2.1, x.2.2.2.1.2.2.2.1, x.2.2.2.1.2.2.2.2.1, x.2.2.2.1.2.2.2.2.2.1, x.2.2.2.1.2.2.2.2.2.2.1, x.2.2.2.1.2.2.2.2.2.2.2.1, x.2.2.2.1.2.2.2.2.2.2.2.2.1, x.2.2.2.1.2.2.2.2.2.2.2.2.2.1, x.2.2.2.1.2.2.2.2.2.2.2.2.2.2.1, x.2.2.2.1.2.2.2.2.2.2.2.2.2.2.2.1, x.2.2.2.1.2.2.2.2.2.2.2.2.2.2.2.2.1, x.2.2.2.1.2.2.2.2.2.2.2.2.2.2.2.2.2.1) k)
end
section
variable {α β : Type} (l_ : (List Int)) (who : Int) (c3_ : (List Int)) (c4_ : Nat) (s421 : (Int × (List Int))) (y425 : (List Int)) (k : St → Option α) (q : Kont α)
noncomputable abbrev C40 := codeOf E.P 30
noncomputable abbrev P40 := @preK α E 30 cp39 ce1
noncomputable abbrev R40 := @runCode α E 30 cp39 ce1
noncomputable abbrev Q40 := @seqC α E 30 cp39 ce1
abbrev S40_0 : St := ⟨[(1, ri who), (2, rF 1), (7, rl (.one (.int .i64)) l_), (8, ri (l_.length : Int)), (9, ri 0)], [[.vec (.int .i64) c3_], [.vref 0 c4_]], [], 23⟩
theorem graph_Last_1_s2_f1 : P40 1 C40 ⟨[(0, rl (.one (.int .i64)) l_), (1, ri who), (2, rF 1)], [[.vec (.int .i64) c3_], [.vref 0 c4_]], [], 23⟩ k = k (S40_0 l_ who c3_ c4_) := by kernel_rfl
abbrev S40_1 : St := ⟨[(1, ri who), (2, rF 1), (7, rl (.one (.int .i64)) l_), (8, ri (l_.length : Int)), (9, ri s421.1)], [[.vec (.int .i64) s421.2], [.vref 0 c4_]], [], 23⟩
theorem graph_Last_1_s2_fz : P40 1 C40.r.b.b (S40_1 l_ who c4_ s421) k = k ⟨[(1, ri who), (2, rF 1), (7, rl (.one (.int .i64)) l_), (8, ri (l_.length : Int)), (9, ri s421.1), (10, rb (decide (s421.1 < (l_.length : Int))))], [[.vec (.int .i64) s421.2], [.vref 0 c4_]], [], 23⟩ := by kernel_rfl
def graph_Last_1_s2_r2_p : Option Unit := (bif (decide ((0 : Int) ≤ s421.1)) then (bif (decide (s421.1 < (l_.length : Int))) then (some ()) else none) else none)
abbrev S40_2 : St := ⟨[(1, ri who), (2, rF 1), (6, ri (gt l_ s421.1 (0 : Int))), (7, rl (.one (.int .i64)) l_), (8, ri (l_.length : Int)), (9, ri s421.1)], [[.vec (.int .i64) s421.2], [.vref 0 c4_]], [], 23⟩
theorem graph_Last_1_s2_r2 : P40 1 C40.r.b.b.r.r.l.b (S40_1 l_ who c4_ s421) k = Option.bind (graph_Last_1_s2_r2_p l_ s421) (fun y422 : Unit => k (S40_2 l_ who c4_ s421)) := .trans (by kernel_rfl) (bif_b (bif_b some_b none_b) none_b)
def graph_Last_1_s2_r3_q (K : Bool → β) : β := (K (graph_within (gt l_ s421.1 (0 : Int)) (0 : Int) (IntKind.wrap .i64 (((c4_ : Nat) : Int) - 1))))
def graph_Last_1_s2_r3_p : Bool := graph_Last_1_s2_r3_q l_ c4_ s421 (fun y => y)
theorem graph_Last_1_s2_r3_n (K : Bool → β) : graph_Last_1_s2_r3_q l_ c4_ s421 K = K (graph_Last_1_s2_r3_p l_ c4_ s421) := rfl
theorem graph_Last_1_s2_r3 : P40 1 C40.r.b.b.r.r.l.b.r (S40_2 l_ who c4_ s421) k = k ⟨[(1, ri who), (2, rF 1), (6, ri (gt l_ s421.1 (0 : Int))), (7, rl (.one (.int .i64)) l_), (8, ri (l_.length : Int)), (9, ri s421.1), (17, rb (graph_Last_1_s2_r3_p l_ c4_ s421))], [[.vec (.int .i64) s421.2], [.vref 0 c4_]], [], 23⟩ := Eq.trans (by kernel_rfl) (graph_Last_1_s2_r3_n l_ c4_ s421 (fun y423 : Bool => k ⟨[(1, ri who), (2, rF 1), (6, ri (gt l_ s421.1 (0 : Int))), (7, rl (.one (.int .i64)) l_), (8, ri (l_.length : Int)), (9, ri s421.1), (17, rb y423)], [[.vec (.int .i64) s421.2], [.vref 0 c4_]], [], 23⟩))
def graph_Last_1_s2_r4_p : Option Unit := (bif (decide ((0 : Int) ≤ (gt l_ s421.1 (0 : Int)))) then (bif (decide ((gt l_ s421.1 (0 : Int)) < ((c4_ : Nat) : Int))) then (bif (decide ((Int.toNat (gt l_ s421.1 (0 : Int))) < s421.2.length)) then (some ()) else none) else none) else none)
abbrev S40_3 : St := ⟨[(1, ri who), (2, rF 1), (7, rl (.one (.int .i64)) l_), (8, ri (l_.length : Int)), (9, ri s421.1)], [[.vec (.int .i64) (s421.2.set (Int.toNat (gt l_ s421.1 (0 : Int))) who)], [.vref 0 c4_]], [], 23⟩
theorem graph_Last_1_s2_r4 : R40 C40.r.b.b.r.r.l.b.r.r.t (S40_2 l_ who c4_ s421) q = Option.bind (graph_Last_1_s2_r4_p l_ c4_ s421) (fun y424 : Unit => q .normal (S40_3 l_ who c4_ s421)) := .trans (by kernel_rfl) (bif_b (bif_b (bif_b some_b none_b) none_b) none_b)
def graph_Last_1_s2_j2_p : Option (List Int) := (Option.bind (graph_Last_1_s2_r2_p l_ s421) (fun y422 : Unit => (bif (graph_Last_1_s2_r3_p l_ c4_ s421) then (Option.bind (graph_Last_1_s2_r4_p l_ c4_ s421) (fun y424 : Unit => (some (s421.2.set (Int.toNat (gt l_ s421.1 (0 : Int))) who)))) else (some s421.2))))
abbrev S40_4 : St := ⟨[(1, ri who), (2, rF 1), (7, rl (.one (.int .i64)) l_), (8, ri (l_.length : Int)), (9, ri s421.1)], [[.vec (.int .i64) y425], [.vref 0 c4_]], [], 23⟩
theorem graph_Last_1_s2_j2 : R40 C40.r.b.b.r.r.l (S40_1 l_ who c4_ s421) (Q40 C40.r.b.b.r.r.r q) = Option.bind (graph_Last_1_s2_j2_p l_ who c4_ s421) (fun y425 : (List Int) => R40 C40.r.b.b.r.r.r (S40_4 l_ who c4_ s421 y425) q) := by
  refine .trans ?_ (bind_b fun y422 => (bif_b (bind_b fun y424 => some_b) some_b))
  refine (block_push (id := 1)).trans ?_
  refine (pre1 (graph_Last_1_s2_r2 l_ who c4_ s421 _)).trans (bind_g fun y422 => ?_)
  refine (pre1 (graph_Last_1_s2_r3 l_ who c4_ s421 _)).trans ?_
  refine (cond_e (b := (graph_Last_1_s2_r3_p l_ c4_ s421)) (st' := (S40_2 l_ who c4_ s421)) ).trans (bif_g ?_ ?_)
  · refine (graph_Last_1_s2_r4 l_ who c4_ s421 _).trans (bind_g fun y424 => ?_)
    refine block_normal.trans ?_
    refine (seqC_normal (st' := (S40_3 l_ who c4_ s421))).trans ?_
    kernel_rfl
  · refine (skip_eq).trans ?_
    refine block_normal.trans ?_
    refine (seqC_normal (st' := (S40_1 l_ who c4_ s421))).trans ?_
    kernel_rfl
theorem graph_Last_1_s2_r5 : R40 C40.r.b.b.r.r.r (S40_4 l_ who c4_ s421 y425) q = q .normal ⟨[(1, ri who), (2, rF 1), (7, rl (.one (.int .i64)) l_), (8, ri (l_.length : Int)), (9, ri (IntKind.wrap .i64 (s421.1 + 1)))], [[.vec (.int .i64) y425], [.vref 0 c4_]], [], 23⟩ := by kernel_rfl
def graph_Last_1_s2_l1_p : Option ((Int × (List Int)) ⊕ (Int × (List Int))) := (bif (decide (s421.1 < (l_.length : Int))) then (Option.bind (graph_Last_1_s2_j2_p l_ who c4_ s421) (fun y425 : (List Int) => (some (Sum.inl ((IntKind.wrap .i64 (s421.1 + 1)), y425))))) else (some (Sum.inr s421)))
abbrev S40_5 (y426 : (Int × (List Int))) : St := ⟨[(1, ri who), (2, rF 1), (7, rl (.one (.int .i64)) l_), (8, ri (l_.length : Int)), (9, ri y426.1)], [[.vec (.int .i64) y426.2], [.vref 0 c4_]], [], 23⟩
theorem graph_Last_1_s2_l1_b : R40 C40.r.b.b (S40_1 l_ who c4_ s421) (loopKont 2 q) = Option.bind (graph_Last_1_s2_l1_p l_ who c4_ s421) (either (fun y : (Int × (List Int)) => q .normal ⟨[(1, ri who), (2, rF 1), (7, rl (.one (.int .i64)) l_), (8, ri (l_.length : Int)), (9, ri y.1)], [[.vec (.int .i64) y.2], [.vref 0 c4_]], [], 23⟩) (fun y426 : (Int × (List Int)) => q (.exit 0) (S40_5 l_ who c4_ y426))) := by
  refine .trans ?_ (bif_b (bind_b fun y425 => e2_0) e2_1)
  refine (pre1 (graph_Last_1_s2_fz l_ who c4_ s421 _)).trans ?_
  refine .trans seq_push ?_
  refine (cond_e (b := (decide (s421.1 < (l_.length : Int)))) (st' := (S40_1 l_ who c4_ s421)) ).trans (bif_g ?_ ?_)
  · refine (skip_eq).trans ?_
    refine (seqC_normal (st' := (S40_1 l_ who c4_ s421))).trans ?_
    refine .trans seq_push ?_
    refine (graph_Last_1_s2_j2 l_ who c4_ s421 _).trans (bind_g fun y425 => ?_)
    refine (graph_Last_1_s2_r5 l_ who c4_ s421 y425 _).trans ?_
    kernel_rfl
  · refine ((exit_eq (j := 0))).trans ?_
    refine seqC_exit.trans ?_
    kernel_rfl
theorem graph_Last_1_s2_l1 : R40 C40.r.b (S40_0 l_ who c3_ c4_) q = Option.bind (iterN (graph_Last_1_s2_l1_p l_ who c4_) LL ((0 : Int), c3_)) (fun y426 : (Int × (List Int)) => q (.exit 0) (S40_5 l_ who c4_ y426)) :=
  Eq.trans (by kernel_rfl) (loop_iter1 (S := fun s421 : (Int × (List Int)) => (S40_1 l_ who c4_ s421)) (Y1 := fun y426 : (Int × (List Int)) => ((.exit 0), (S40_5 l_ who c4_ y426))) (fun s q => graph_Last_1_s2_l1_b l_ who c4_ s q) (fun z => rfl) LL ((0 : Int), c3_))
/-- quilt/graph.Last$1 -/
def graph_Last_1_s2 : Option (List Int) := (Option.bind (iterN (graph_Last_1_s2_l1_p l_ who c4_) LL ((0 : Int), c3_)) (fun y426 : (Int × (List Int)) => (some y426.2)))
theorem graph_Last_1_s2_is (k : R → Heap → Option α) : callBody E cp39 ce1 α 30 [rl (.one (.int .i64)) l_, ri who, rF 1] [[.vec (.int .i64) c3_], [.vref 0 c4_]] k = Option.bind (graph_Last_1_s2 l_ who c3_ c4_) (fun y : (List Int) => k (.tup []) [[.vec (.int .i64) y], [.vref 0 c4_]]) := by
  refine .trans ?_ (bind_b fun y426 => some_b)
  refine (body_is (nt := 23) (regs := [(0, rl (.one (.int .i64)) l_), (1, ri who), (2, rF 1)]) (by kernel_rfl) (by kernel_rfl)).trans ?_
  refine (pre1 (graph_Last_1_s2_f1 l_ who c3_ c4_ _)).trans ?_
  refine (block_push (id := 0)).trans ?_
  refine (graph_Last_1_s2_l1 l_ who c3_ c4_ _).trans (bind_g fun y426 => ?_)
  refine block_same.trans ?_
  kernel_rfl
noncomputable def ce2 : CallE := withE ce1 30 (decA [(.one (.g (.sl (.one (.int .i64))))), pI, (.one (.ref 1 0))] [(.cons (.vec (.int .i64)) .nil), (.cons (.vref 0) .nil)]) .unit (fun y : (List Int) => ()) (fun x y => [[.vec (.int .i64) y], [.vref 0 x.2.2.1.1]]) (fun x => graph_Last_1_s2 x.1.1 x.1.2.1 x.2.1.1 x.2.2.1.1)
theorem ce2_ok : EffOK E ce2 := conE eok cp39_ok ce1_ok fun α x k => Eq.mp (by kernel_rfl) (graph_Last_1_s2_is x.1.1 x.1.2.1 x.2.1.1 x.2.2.1.1 k)
end
section
variable {α β : Type} (g_ : Graph) (s379 : (Int × (List Int))) (y382 : (Int × (List Int))) (s410 : (Int × (List Int))) (y414 : (List Int)) (y415 : (Int × (List Int))) (y427 : (List Int)) (k : St → Option α) (q : Kont α)
noncomputable abbrev C41 := codeOf E.P 23
noncomputable abbrev P41 := @preK α E 23 cp39 ce2
noncomputable abbrev R41 := @runCode α E 23 cp39 ce2
def graph_Last_r1_p : Option Unit := (bif (decide ((0 : Int) ≤ (IntKind.wrap .i64 ((g_.1.length : Int) + (g_.2.1.length : Int))))) then (bif (decide ((IntKind.wrap .i64 ((g_.1.length : Int) + (g_.2.1.length : Int))) ≤ (IntKind.wrap .i64 ((g_.1.length : Int) + (g_.2.1.length : Int))))) then (bif (decide ((IntKind.wrap .i64 ((g_.1.length : Int) + (g_.2.1.length : Int))) ≤ (maxL : Int))) then (bif ((IntKind.wrap .i64 ((g_.1.length : Int) + (g_.2.1.length : Int))) == (IntKind.wrap .i64 ((g_.1.length : Int) + (g_.2.1.length : Int)))) then (some ()) else none) else none) else none) else none)
abbrev S41_0 : St := ⟨[(1, rC tsGraph g_), (3, rF 1)], [[.vec (.int .i64) (List.replicate (Int.toNat (IntKind.wrap .i64 ((g_.1.length : Int) + (g_.2.1.length : Int)))) (0 : Int))], [.vref 0 (Int.toNat (IntKind.wrap .i64 ((g_.1.length : Int) + (g_.2.1.length : Int))))]], [], 48⟩
theorem graph_Last_r1 : P41 2 C41 ⟨[(0, rA tsGraph g_)], [], [], 48⟩ k = Option.bind (graph_Last_r1_p g_) (fun y366 : Unit => k (S41_0 g_)) := .trans (by kernel_rfl) (bif_b (bif_b (bif_b (bif_b some_b none_b) none_b) none_b) none_b)
def graph_Last_r2_q (K : Int → β) : β := (K (((Int.toNat (IntKind.wrap .i64 ((g_.1.length : Int) + (g_.2.1.length : Int)))) : Nat) : Int))
def graph_Last_r2_p : Int := graph_Last_r2_q g_ (fun y => y)
theorem graph_Last_r2_n (K : Int → β) : graph_Last_r2_q g_ K = K (graph_Last_r2_p g_) := rfl
abbrev S41_1 : St := ⟨[(1, rC tsGraph g_), (3, rF 1), (17, ri (graph_Last_r2_p g_)), (18, ri 0)], [[.vec (.int .i64) (List.replicate (Int.toNat (IntKind.wrap .i64 ((g_.1.length : Int) + (g_.2.1.length : Int)))) (0 : Int))], [.vref 0 (Int.toNat (IntKind.wrap .i64 ((g_.1.length : Int) + (g_.2.1.length : Int))))]], [], 48⟩
theorem graph_Last_r2 : P41 1 C41.r.r.l (S41_0 g_) k = k (S41_1 g_) := Eq.trans (by kernel_rfl) (graph_Last_r2_n g_ (fun y375 : Int => k ⟨[(1, rC tsGraph g_), (3, rF 1), (17, ri y375), (18, ri 0)], [[.vec (.int .i64) (List.replicate (Int.toNat (IntKind.wrap .i64 ((g_.1.length : Int) + (g_.2.1.length : Int)))) (0 : Int))], [.vref 0 (Int.toNat (IntKind.wrap .i64 ((g_.1.length : Int) + (g_.2.1.length : Int))))]], [], 48⟩))
abbrev S41_2 : St := ⟨[(1, rC tsGraph g_), (3, rF 1), (17, ri (graph_Last_r2_p g_)), (18, ri s379.1)], [[.vec (.int .i64) s379.2], [.vref 0 (Int.toNat (IntKind.wrap .i64 ((g_.1.length : Int) + (g_.2.1.length : Int))))]], [], 48⟩
theorem graph_Last_fz : P41 1 C41.r.r.l.r.b.b (S41_2 g_ s379) k = k ⟨[(1, rC tsGraph g_), (3, rF 1), (17, ri (graph_Last_r2_p g_)), (18, ri s379.1), (19, rb (decide (s379.1 < (graph_Last_r2_p g_))))], [[.vec (.int .i64) s379.2], [.vref 0 (Int.toNat (IntKind.wrap .i64 ((g_.1.length : Int) + (g_.2.1.length : Int))))]], [], 48⟩ := by kernel_rfl
abbrev S41_3 : St := ⟨[(1, rC tsGraph g_), (3, rF 1), (4, ri s379.1), (17, ri (graph_Last_r2_p g_)), (18, ri s379.1)], [[.vec (.int .i64) s379.2], [.vref 0 (Int.toNat (IntKind.wrap .i64 ((g_.1.length : Int) + (g_.2.1.length : Int))))]], [], 48⟩
theorem graph_Last_f5 : P41 1 C41.r.r.l.r.b.b.r.r.l.b (S41_2 g_ s379) k = k (S41_3 g_ s379) := by kernel_rfl
def graph_Last_r5_p : Option Unit := (bif (decide ((0 : Int) ≤ s379.1)) then (bif (decide (s379.1 < (((Int.toNat (IntKind.wrap .i64 ((g_.1.length : Int) + (g_.2.1.length : Int)))) : Nat) : Int))) then (bif (decide ((Int.toNat s379.1) < s379.2.length)) then (some ()) else none) else none) else none)
abbrev S41_4 : St := ⟨[(1, rC tsGraph g_), (3, rF 1), (17, ri (graph_Last_r2_p g_)), (18, ri s379.1)], [[.vec (.int .i64) (s379.2.set (Int.toNat s379.1) (-1 : Int))], [.vref 0 (Int.toNat (IntKind.wrap .i64 ((g_.1.length : Int) + (g_.2.1.length : Int))))]], [], 48⟩
theorem graph_Last_r5 : R41 C41.r.r.l.r.b.b.r.r.l.b.r (S41_3 g_ s379) q = Option.bind (graph_Last_r5_p g_ s379) (fun y381 : Unit => q .normal (S41_4 g_ s379)) := .trans (by kernel_rfl) (bif_b (bif_b (bif_b some_b none_b) none_b) none_b)
theorem graph_Last_r6 : R41 C41.r.r.l.r.b.b.r.r.r (S41_4 g_ s379) q = q .normal ⟨[(1, rC tsGraph g_), (3, rF 1), (17, ri (graph_Last_r2_p g_)), (18, ri (IntKind.wrap .i64 (s379.1 + 1)))], [[.vec (.int .i64) (s379.2.set (Int.toNat s379.1) (-1 : Int))], [.vref 0 (Int.toNat (IntKind.wrap .i64 ((g_.1.length : Int) + (g_.2.1.length : Int))))]], [], 48⟩ := by kernel_rfl
def graph_Last_l3_p : Option ((Int × (List Int)) ⊕ (Int × (List Int))) := (bif (decide (s379.1 < (graph_Last_r2_p g_))) then (Option.bind (graph_Last_r5_p g_ s379) (fun y381 : Unit => (some (Sum.inl ((IntKind.wrap .i64 (s379.1 + 1)), (s379.2.set (Int.toNat s379.1) (-1 : Int))))))) else (some (Sum.inr s379)))
abbrev S41_5 : St := ⟨[(1, rC tsGraph g_), (3, rF 1), (17, ri (graph_Last_r2_p g_)), (18, ri y382.1)], [[.vec (.int .i64) y382.2], [.vref 0 (Int.toNat (IntKind.wrap .i64 ((g_.1.length : Int) + (g_.2.1.length : Int))))]], [], 48⟩
theorem graph_Last_l3_b : R41 C41.r.r.l.r.b.b (S41_2 g_ s379) (loopKont 2 q) = Option.bind (graph_Last_l3_p g_ s379) (either (fun y : (Int × (List Int)) => q .normal ⟨[(1, rC tsGraph g_), (3, rF 1), (17, ri (graph_Last_r2_p g_)), (18, ri y.1)], [[.vec (.int .i64) y.2], [.vref 0 (Int.toNat (IntKind.wrap .i64 ((g_.1.length : Int) + (g_.2.1.length : Int))))]], [], 48⟩) (fun y382 : (Int × (List Int)) => q (.exit 0) (S41_5 g_ y382))) := by
  refine .trans ?_ (bif_b (bind_b fun y381 => e2_0) e2_1)
  refine (pre1 (graph_Last_fz g_ s379 _)).trans ?_
  refine .trans seq_push ?_
  refine (cond_e (b := (decide (s379.1 < (graph_Last_r2_p g_)))) (st' := (S41_2 g_ s379)) ).trans (bif_g ?_ ?_)
  · refine (skip_eq).trans ?_
    refine (seqC_normal (st' := (S41_2 g_ s379))).trans ?_
    refine .trans seq_push ?_
    refine (block_push (id := 1)).trans ?_
    refine (pre1 (graph_Last_f5 g_ s379 _)).trans ?_
    refine (graph_Last_r5 g_ s379 _).trans (bind_g fun y381 => ?_)
    refine block_normal.trans ?_
    refine (seqC_normal (st' := (S41_4 g_ s379))).trans ?_
    refine (graph_Last_r6 g_ s379 _).trans ?_
    kernel_rfl
  · refine ((exit_eq (j := 0))).trans ?_
    refine seqC_exit.trans ?_
    kernel_rfl
theorem graph_Last_l3 : R41 C41.r.r.l.r.b (S41_1 g_) q = Option.bind (iterN (graph_Last_l3_p g_) LL ((0 : Int), (List.replicate (Int.toNat (IntKind.wrap .i64 ((g_.1.length : Int) + (g_.2.1.length : Int)))) (0 : Int)))) (fun y382 : (Int × (List Int)) => q (.exit 0) (S41_5 g_ y382)) :=
  Eq.trans (by kernel_rfl) (loop_iter1 (S := fun s379 : (Int × (List Int)) => (S41_2 g_ s379)) (Y1 := fun y382 : (Int × (List Int)) => ((.exit 0), (S41_5 g_ y382))) (fun s q => graph_Last_l3_b g_ s q) (fun z => rfl) LL ((0 : Int), (List.replicate (Int.toNat (IntKind.wrap .i64 ((g_.1.length : Int) + (g_.2.1.length : Int)))) (0 : Int))))
abbrev S41_6 : St := ⟨[(1, rC tsGraph g_), (3, rF 1)], [[.vec (.int .i64) y382.2], [.vref 0 (Int.toNat (IntKind.wrap .i64 ((g_.1.length : Int) + (g_.2.1.length : Int))))]], [], 48⟩
abbrev S41_7 : St := ⟨[(1, rC tsGraph g_), (3, rF 1), (5, .one (.fn 30 [.ref 1 0]))], [[.vec (.int .i64) y382.2], [.vref 0 (Int.toNat (IntKind.wrap .i64 ((g_.1.length : Int) + (g_.2.1.length : Int))))]], [], 48⟩
theorem graph_Last_f8 : P41 1 C41.r.r.r (S41_6 g_ y382) k = k (S41_7 g_ y382) := by kernel_rfl
abbrev S41_8 : St := ⟨[(1, rC tsGraph g_), (3, rF 1), (5, .one (.fn 30 [.ref 1 0])), (27, rl tsNode g_.2.1), (28, ri (g_.2.1.length : Int)), (29, ri 0)], [[.vec (.int .i64) y382.2], [.vref 0 (Int.toNat (IntKind.wrap .i64 ((g_.1.length : Int) + (g_.2.1.length : Int))))]], [], 48⟩
theorem graph_Last_f9 : P41 1 C41.r.r.r.r.l (S41_7 g_ y382) k = k (S41_8 g_ y382) := by kernel_rfl
abbrev S41_9 : St := ⟨[(1, rC tsGraph g_), (3, rF 1), (5, .one (.fn 30 [.ref 1 0])), (27, rl tsNode g_.2.1), (28, ri (g_.2.1.length : Int)), (29, ri s410.1)], [[.vec (.int .i64) s410.2], [.vref 0 (Int.toNat (IntKind.wrap .i64 ((g_.1.length : Int) + (g_.2.1.length : Int))))]], [], 48⟩
theorem graph_Last_fzx1 : P41 1 C41.r.r.r.r.l.r.b.b (S41_9 g_ s410) k = k ⟨[(1, rC tsGraph g_), (3, rF 1), (5, .one (.fn 30 [.ref 1 0])), (27, rl tsNode g_.2.1), (28, ri (g_.2.1.length : Int)), (29, ri s410.1), (30, rb (decide (s410.1 < (g_.2.1.length : Int))))], [[.vec (.int .i64) s410.2], [.vref 0 (Int.toNat (IntKind.wrap .i64 ((g_.1.length : Int) + (g_.2.1.length : Int))))]], [], 48⟩ := by kernel_rfl
def graph_Last_r10_p : Option Unit := (bif (decide ((0 : Int) ≤ s410.1)) then (bif (decide (s410.1 < (g_.2.1.length : Int))) then (some ()) else none) else none)
abbrev S41_10 : St := ⟨[(1, rC tsGraph g_), (3, rF 1), (5, .one (.fn 30 [.ref 1 0])), (6, ri s410.1), (7, rF 2), (27, rl tsNode g_.2.1), (28, ri (g_.2.1.length : Int)), (29, ri s410.1)], [[.vec (.int .i64) s410.2], [.vref 0 (Int.toNat (IntKind.wrap .i64 ((g_.1.length : Int) + (g_.2.1.length : Int))))], (tsNode.leaves (gt g_.2.1 s410.1 dNode))], [], 48⟩
theorem graph_Last_r10 : P41 1 C41.r.r.r.r.l.r.b.b.r.r.l.b (S41_9 g_ s410) k = Option.bind (graph_Last_r10_p g_ s410) (fun y413 : Unit => k (S41_10 g_ s410)) := .trans (by kernel_rfl) (bif_b (bif_b some_b none_b) none_b)
abbrev S41_11 : St := ⟨[(1, rC tsGraph g_), (3, rF 1), (5, .one (.fn 30 [.ref 1 0])), (27, rl tsNode g_.2.1), (28, ri (g_.2.1.length : Int)), (29, ri s410.1)], [[.vec (.int .i64) y414], [.vref 0 (Int.toNat (IntKind.wrap .i64 ((g_.1.length : Int) + (g_.2.1.length : Int))))], []], [], 48⟩
theorem graph_Last_r11 : R41 C41.r.r.r.r.l.r.b.b.r.r.l.b.r (S41_10 g_ s410) q = Option.bind (graph_Last_1 ((gt g_.2.1 s410.1 dNode).2.1) s410.1 s410.2 (Int.toNat (IntKind.wrap .i64 ((g_.1.length : Int) + (g_.2.1.length : Int))))) fun y414 : (List Int) => q .normal (S41_11 g_ s410 y414) := by kernel_rfl
theorem graph_Last_r12 : R41 C41.r.r.r.r.l.r.b.b.r.r.r (S41_11 g_ s410 y414) q = q .normal ⟨[(1, rC tsGraph g_), (3, rF 1), (5, .one (.fn 30 [.ref 1 0])), (27, rl tsNode g_.2.1), (28, ri (g_.2.1.length : Int)), (29, ri (IntKind.wrap .i64 (s410.1 + 1)))], [[.vec (.int .i64) y414], [.vref 0 (Int.toNat (IntKind.wrap .i64 ((g_.1.length : Int) + (g_.2.1.length : Int))))], []], [], 48⟩ := by kernel_rfl
def graph_Last_l9_p : Option ((Int × (List Int)) ⊕ (Int × (List Int))) := (bif (decide (s410.1 < (g_.2.1.length : Int))) then (Option.bind (graph_Last_r10_p g_ s410) (fun y413 : Unit => (Option.bind (graph_Last_1 ((gt g_.2.1 s410.1 dNode).2.1) s410.1 s410.2 (Int.toNat (IntKind.wrap .i64 ((g_.1.length : Int) + (g_.2.1.length : Int))))) (fun y414 : (List Int) => (some (Sum.inl ((IntKind.wrap .i64 (s410.1 + 1)), y414))))))) else (some (Sum.inr s410)))
abbrev S41_12 : St := ⟨[(1, rC tsGraph g_), (3, rF 1), (5, .one (.fn 30 [.ref 1 0])), (27, rl tsNode g_.2.1), (28, ri (g_.2.1.length : Int)), (29, ri y415.1)], [[.vec (.int .i64) y415.2], [.vref 0 (Int.toNat (IntKind.wrap .i64 ((g_.1.length : Int) + (g_.2.1.length : Int))))]], [], 48⟩
theorem graph_Last_l9_b : R41 C41.r.r.r.r.l.r.b.b (S41_9 g_ s410) (loopKont 2 q) = Option.bind (graph_Last_l9_p g_ s410) (either (fun y : (Int × (List Int)) => q .normal ⟨[(1, rC tsGraph g_), (3, rF 1), (5, .one (.fn 30 [.ref 1 0])), (27, rl tsNode g_.2.1), (28, ri (g_.2.1.length : Int)), (29, ri y.1)], [[.vec (.int .i64) y.2], [.vref 0 (Int.toNat (IntKind.wrap .i64 ((g_.1.length : Int) + (g_.2.1.length : Int))))]], [], 48⟩) (fun y415 : (Int × (List Int)) => q (.exit 2) (S41_12 g_ y415))) := by
  refine .trans ?_ (bif_b (bind_b fun y413 => (bind_b fun y414 => e2_0)) e2_1)
  refine (pre1 (graph_Last_fzx1 g_ s410 _)).trans ?_
  refine .trans seq_push ?_
  refine (cond_e (b := (decide (s410.1 < (g_.2.1.length : Int)))) (st' := (S41_9 g_ s410)) ).trans (bif_g ?_ ?_)
  · refine (skip_eq).trans ?_
    refine (seqC_normal (st' := (S41_9 g_ s410))).trans ?_
    refine .trans seq_push ?_
    refine (block_push (id := 3)).trans ?_
    refine (pre1 (graph_Last_r10 g_ s410 _)).trans (bind_g fun y413 => ?_)
    refine (graph_Last_r11 g_ s410 _).trans (bind_g fun y414 => ?_)
    refine block_normal.trans ?_
    refine (seqC_normal (st' := (S41_11 g_ s410 y414))).trans ?_
    refine (graph_Last_r12 g_ s410 y414 _).trans ?_
    kernel_rfl
  · refine ((exit_eq (j := 2))).trans ?_
    refine seqC_exit.trans ?_
    kernel_rfl
theorem graph_Last_l9 : R41 C41.r.r.r.r.l.r.b (S41_8 g_ y382) q = Option.bind (iterN (graph_Last_l9_p g_) LL ((0 : Int), y382.2)) (fun y415 : (Int × (List Int)) => q (.exit 2) (S41_12 g_ y415)) :=
  Eq.trans (by kernel_rfl) (loop_iter1 (S := fun s410 : (Int × (List Int)) => (S41_9 g_ s410)) (Y1 := fun y415 : (Int × (List Int)) => ((.exit 2), (S41_12 g_ y415))) (fun s q => graph_Last_l9_b g_ s q) (fun z => rfl) LL ((0 : Int), y382.2))
abbrev S41_13 : St := ⟨[(1, rC tsGraph g_), (3, rF 1), (5, .one (.fn 30 [.ref 1 0]))], [[.vec (.int .i64) y415.2], [.vref 0 (Int.toNat (IntKind.wrap .i64 ((g_.1.length : Int) + (g_.2.1.length : Int))))]], [], 48⟩
abbrev S41_14 : St := ⟨[(3, rF 1)], [[.vec (.int .i64) y427], [.vref 0 (Int.toNat (IntKind.wrap .i64 ((g_.1.length : Int) + (g_.2.1.length : Int))))]], [], 48⟩
theorem graph_Last_r13 : P41 1 C41.r.r.r.r.r (S41_13 g_ y415) k = Option.bind (graph_Last_1_s2 g_.2.2 (g_.2.1.length : Int) y415.2 (Int.toNat (IntKind.wrap .i64 ((g_.1.length : Int) + (g_.2.1.length : Int))))) fun y427 : (List Int) => k (S41_14 g_ y427) := by kernel_rfl
theorem graph_Last_fzx2 : P41 1 C41.r.r.r.r.r.r (S41_14 g_ y427) k = k ⟨[(2, .one (.vref 0 (Int.toNat (IntKind.wrap .i64 ((g_.1.length : Int) + (g_.2.1.length : Int))))))], [[.vec (.int .i64) y427], []], [], 48⟩ := by kernel_rfl
/-- quilt/graph.Last -/
def graph_Last : Option (List Int) := (Option.bind (graph_Last_r1_p g_) (fun y366 : Unit => (Option.bind (iterN (graph_Last_l3_p g_) LL ((0 : Int), (List.replicate (Int.toNat (IntKind.wrap .i64 ((g_.1.length : Int) + (g_.2.1.length : Int)))) (0 : Int)))) (fun y382 : (Int × (List Int)) => (Option.bind (iterN (graph_Last_l9_p g_) LL ((0 : Int), y382.2)) (fun y415 : (Int × (List Int)) => (Option.bind (graph_Last_1_s2 g_.2.2 (g_.2.1.length : Int) y415.2 (Int.toNat (IntKind.wrap .i64 ((g_.1.length : Int) + (g_.2.1.length : Int))))) (fun y427 : (List Int) => (bif (Nat.beq (Int.toNat (IntKind.wrap .i64 ((g_.1.length : Int) + (g_.2.1.length : Int)))) y427.length) then (some y427) else none)))))))))
theorem graph_Last_is : stepS E cp39 ce2 23 [rA tsGraph g_] = Option.bind (graph_Last g_) (fun y : (List Int) => some (rl (.one (.int .i64)) y : R)) := by
  refine .trans ?_ (bind_b fun y366 => (bind_b fun y382 => (bind_b fun y415 => (bind_b fun y427 => (bif_b some_b none_b)))))
  refine (stepG_is (nt := 48) (regs := [(0, rA tsGraph g_)])).trans ?_
  refine (pre2 (graph_Last_r1 g_ _)).trans (bind_g fun y366 => ?_)
  refine .trans seq_push ?_
  refine (pre1 (graph_Last_r2 g_ _)).trans ?_
  refine (block_push (id := 0)).trans ?_
  refine (graph_Last_l3 g_ _).trans (bind_g fun y382 => ?_)
  refine block_same.trans ?_
  refine (seqC_normal (st' := (S41_6 g_ y382))).trans ?_
  refine (pre1 (graph_Last_f8 g_ y382 _)).trans ?_
  refine .trans seq_push ?_
  refine (pre1 (graph_Last_f9 g_ y382 _)).trans ?_
  refine (block_push (id := 2)).trans ?_
  refine (graph_Last_l9 g_ y382 _).trans (bind_g fun y415 => ?_)
  refine block_same.trans ?_
  refine (seqC_normal (st' := (S41_13 g_ y415))).trans ?_
  refine (pre1 (graph_Last_r13 g_ y415 _)).trans (bind_g fun y427 => ?_)
  refine (pre1 (graph_Last_fzx2 g_ y427 _)).trans ?_
  refine (ret_eq).trans ?_
  kernel_rfl
noncomputable def cp40 : CallP := withC cp39 23 [(.agg tsGraph)] (.one (.one (.g (.sl (.one (.int .i64)))))) (fun y : (List Int) => y) (fun x => graph_Last x.1)
theorem cp40_ok : PureOK E cp40 := conS eok cp39_ok ce2_ok fun x => Eq.mp (by kernel_rfl) (graph_Last_is x.1)
end
section
variable {α : Type} (g_ : Graph) (y365 : Int) (y440 : (List Int)) (s446 : ((List I2) × Int)) (y450 : (List I2)) (y451 : ((List I2) × Int)) (k : St → Option α) (q : Kont α)
noncomputable abbrev C42 := codeOf E.P 10
noncomputable abbrev P42 := @preK α E 10 cp40 ce2
noncomputable abbrev R42 := @runCode α E 10 cp40 ce2
abbrev S42_0 : St := ⟨[(1, rC tsGraph g_)], [], [], 38⟩
theorem place_Live_f1 : P42 1 C42 ⟨[(0, rA tsGraph g_)], [], [], 38⟩ k = k (S42_0 g_) := by kernel_rfl
abbrev S42_1 : St := ⟨[(1, rC tsGraph g_), (4, ri y365)], [], [], 38⟩
theorem place_Live_r1 : P42 1 C42.r.l (S42_0 g_) k = Option.bind (graph_Check g_) fun y365 : Int => k (S42_1 g_ y365) := by kernel_rfl
theorem place_Live_f1000003 : P42 1 C42.r.l.r (S42_1 g_ y365) k = k ⟨[(1, rC tsGraph g_), (4, ri y365), (12, rb (y365 != 0))], [], [], 38⟩ := by kernel_rfl
theorem place_Live_fz : P42 1 C42.r.l.r.r.t (S42_1 g_ y365) k = k ⟨[(2, .one (.ow tsI2 [] (.v 2))), (3, ri y365)], [], [], 38⟩ := by kernel_rfl
abbrev S42_2 : St := ⟨[(1, rC tsGraph g_), (5, .one (.ow tsI2 [] (.v 5)))], [], [], 38⟩
theorem place_Live_f5 : P42 1 C42.r.r (S42_0 g_) k = k (S42_2 g_) := by kernel_rfl
abbrev S42_3 : St := ⟨[(1, rC tsGraph g_), (5, .one (.ow tsI2 [] (.v 5))), (15, rl (.one (.int .i64)) y440), (16, ri (y440.length : Int)), (17, ri 0)], [], [], 38⟩
theorem place_Live_r5 : P42 1 C42.r.r.r.l (S42_2 g_) k = Option.bind (graph_Last g_) fun y440 : (List Int) => k (S42_3 g_ y440) := by kernel_rfl
abbrev S42_4 : St := ⟨[(1, rC tsGraph g_), (5, rO tsI2 s446.1 5), (15, rl (.one (.int .i64)) y440), (16, ri (y440.length : Int)), (17, ri s446.2)], [], [], 38⟩
theorem place_Live_fzx1 : P42 1 C42.r.r.r.l.r.b.b (S42_4 g_ y440 s446) k = k ⟨[(1, rC tsGraph g_), (5, rO tsI2 s446.1 5), (15, rl (.one (.int .i64)) y440), (16, ri (y440.length : Int)), (17, ri s446.2), (18, rb (decide (s446.2 < (y440.length : Int))))], [], [], 38⟩ := by kernel_rfl
def place_Live_r7_p : Option Unit := (bif (decide ((0 : Int) ≤ s446.2)) then (bif (decide (s446.2 < (y440.length : Int))) then (some ()) else none) else none)
abbrev S42_5 : St := ⟨[(1, rC tsGraph g_), (5, rO tsI2 s446.1 5), (6, ri s446.2), (7, ri (gt y440 s446.2 (0 : Int))), (15, rl (.one (.int .i64)) y440), (16, ri (y440.length : Int)), (17, ri s446.2)], [], [], 38⟩
theorem place_Live_r7 : P42 1 C42.r.r.r.l.r.b.b.r.r.l.b (S42_4 g_ y440 s446) k = Option.bind (place_Live_r7_p y440 s446) (fun y449 : Unit => k (S42_5 g_ y440 s446)) := .trans (by kernel_rfl) (bif_b (bif_b some_b none_b) none_b)
abbrev S42_6 : St := ⟨[(1, rC tsGraph g_), (5, rO tsI2 s446.1 5), (7, ri (gt y440 s446.2 (0 : Int))), (8, ri (max (IntKind.wrap .i64 (s446.2 - (g_.1.length : Int))) (-1 : Int))), (15, rl (.one (.int .i64)) y440), (16, ri (y440.length : Int)), (17, ri s446.2)], [], [], 38⟩
theorem place_Live_f9 : P42 1 C42.r.r.r.l.r.b.b.r.r.l.b.r (S42_5 g_ y440 s446) k = k (S42_6 g_ y440 s446) := by kernel_rfl
def place_Live_r9_p : Option (List I2) := (bif (decide (s446.1.length + ([((max (IntKind.wrap .i64 (s446.2 - (g_.1.length : Int))) (-1 : Int)), (max (max (IntKind.wrap .i64 (s446.2 - (g_.1.length : Int))) (-1 : Int)) (gt y440 s446.2 (0 : Int))))] : List I2).length ≤ maxL)) then (some (s446.1 ++ [((max (IntKind.wrap .i64 (s446.2 - (g_.1.length : Int))) (-1 : Int)), (max (max (IntKind.wrap .i64 (s446.2 - (g_.1.length : Int))) (-1 : Int)) (gt y440 s446.2 (0 : Int))))])) else none)
abbrev S42_7 : St := ⟨[(1, rC tsGraph g_), (5, rO tsI2 y450 5), (15, rl (.one (.int .i64)) y440), (16, ri (y440.length : Int)), (17, ri s446.2)], [], [], 38⟩
theorem place_Live_r9 : R42 C42.r.r.r.l.r.b.b.r.r.l.b.r.r (S42_6 g_ y440 s446) q = Option.bind (place_Live_r9_p g_ y440 s446) (fun y450 : (List I2) => q .normal (S42_7 g_ y440 s446 y450)) := .trans (by kernel_rfl) (bif_b some_b none_b)
theorem place_Live_r10 : R42 C42.r.r.r.l.r.b.b.r.r.r (S42_7 g_ y440 s446 y450) q = q .normal ⟨[(1, rC tsGraph g_), (5, rO tsI2 y450 5), (15, rl (.one (.int .i64)) y440), (16, ri (y440.length : Int)), (17, ri (IntKind.wrap .i64 (s446.2 + 1)))], [], [], 38⟩ := by kernel_rfl
def place_Live_l6_p : Option (((List I2) × Int) ⊕ ((List I2) × Int)) := (bif (decide (s446.2 < (y440.length : Int))) then (Option.bind (place_Live_r7_p y440 s446) (fun y449 : Unit => (Option.bind (place_Live_r9_p g_ y440 s446) (fun y450 : (List I2) => (some (Sum.inl (y450, (IntKind.wrap .i64 (s446.2 + 1))))))))) else (some (Sum.inr s446)))
abbrev S42_8 : St := ⟨[(1, rC tsGraph g_), (5, rO tsI2 y451.1 5), (15, rl (.one (.int .i64)) y440), (16, ri (y440.length : Int)), (17, ri y451.2)], [], [], 38⟩
theorem place_Live_l6_b : R42 C42.r.r.r.l.r.b.b (S42_4 g_ y440 s446) (loopKont 0 q) = Option.bind (place_Live_l6_p g_ y440 s446) (either (fun y : ((List I2) × Int) => q .normal ⟨[(1, rC tsGraph g_), (5, rO tsI2 y.1 5), (15, rl (.one (.int .i64)) y440), (16, ri (y440.length : Int)), (17, ri y.2)], [], [], 38⟩) (fun y451 : ((List I2) × Int) => q (.exit 0) (S42_8 g_ y440 y451))) := by
  refine .trans ?_ (bif_b (bind_b fun y449 => (bind_b fun y450 => e2_0)) e2_1)
  refine (pre1 (place_Live_fzx1 g_ y440 s446 _)).trans ?_
  refine .trans seq_push ?_
  refine (cond_e (b := (decide (s446.2 < (y440.length : Int)))) (st' := (S42_4 g_ y440 s446)) ).trans (bif_g ?_ ?_)
  · refine (skip_eq).trans ?_
    refine (seqC_normal (st' := (S42_4 g_ y440 s446))).trans ?_
    refine .trans seq_push ?_
    refine (block_push (id := 1)).trans ?_
    refine (pre1 (place_Live_r7 g_ y440 s446 _)).trans (bind_g fun y449 => ?_)
    refine (pre1 (place_Live_f9 g_ y440 s446 _)).trans ?_
    refine (place_Live_r9 g_ y440 s446 _).trans (bind_g fun y450 => ?_)
    refine block_normal.trans ?_
    refine (seqC_normal (st' := (S42_7 g_ y440 s446 y450))).trans ?_
    refine (place_Live_r10 g_ y440 s446 y450 _).trans ?_
    kernel_rfl
  · refine ((exit_eq (j := 0))).trans ?_
    refine seqC_exit.trans ?_
    kernel_rfl
theorem place_Live_l6 : R42 C42.r.r.r.l.r.b (S42_3 g_ y440) q = Option.bind (iterN (place_Live_l6_p g_ y440) LL ([], (0 : Int))) (fun y451 : ((List I2) × Int) => q (.exit 0) (S42_8 g_ y440 y451)) :=
  Eq.trans (by kernel_rfl) (loop_iter1 (S := fun s446 : ((List I2) × Int) => (S42_4 g_ y440 s446)) (Y1 := fun y451 : ((List I2) × Int) => ((.exit 0), (S42_8 g_ y440 y451))) (fun s q => place_Live_l6_b g_ y440 s q) (fun z => rfl) LL ([], (0 : Int)))
theorem place_Live_fzx2 : P42 1 C42.r.r.r.r ⟨[(5, rO tsI2 y451.1 5)], [], [], 38⟩ k = k ⟨[(2, rO tsI2 y451.1 5), (3, ri 0)], [], [], 38⟩ := by kernel_rfl
/-- quilt/place.Live -/
def place_Live : Option ((List I2) × Int) := (Option.bind (graph_Check g_) (fun y365 : Int => (bif (y365 != 0) then (some ([], y365)) else (Option.bind (graph_Last g_) (fun y440 : (List Int) => (Option.bind (iterN (place_Live_l6_p g_ y440) LL ([], (0 : Int))) (fun y451 : ((List I2) × Int) => (some (y451.1, (0 : Int))))))))))
theorem place_Live_is : stepO E cp40 ce2 10 [rA tsGraph g_] = Option.bind (place_Live g_) (fun y : ((List I2) × Int) => some (.tup [.one (.ow tsI2 y.1 (.s 0)), ri y.2] : R)) := by
  refine .trans ?_ (bind_b fun y365 => (bif_b some_b (bind_b fun y440 => (bind_b fun y451 => some_b))))
  refine (stepG_is (nt := 38) (regs := [(0, rA tsGraph g_)])).trans ?_
  refine (pre1 (place_Live_f1 g_ _)).trans ?_
  refine .trans seq_push ?_
  refine (pre1 (place_Live_r1 g_ _)).trans (bind_g fun y365 => ?_)
  refine (pre1 (place_Live_f1000003 g_ y365 _)).trans ?_
  refine (cond_e (b := (y365 != 0)) (st' := (S42_1 g_ y365)) ).trans (bif_g ?_ ?_)
  · refine (pre1 (place_Live_fz g_ y365 _)).trans ?_
    refine (ret_eq).trans ?_
    refine seqC_ret.trans ?_
    kernel_rfl
  · refine (skip_eq).trans ?_
    refine (seqC_normal (st' := (S42_0 g_))).trans ?_
    refine (pre1 (place_Live_f5 g_ _)).trans ?_
    refine .trans seq_push ?_
    refine (pre1 (place_Live_r5 g_ _)).trans (bind_g fun y440 => ?_)
    refine (block_push (id := 0)).trans ?_
    refine (place_Live_l6 g_ y440 _).trans (bind_g fun y451 => ?_)
    refine block_same.trans ?_
    refine (seqC_normal (st' := ⟨[(5, rO tsI2 y451.1 5)], [], [], 38⟩)).trans ?_
    refine (pre1 (place_Live_fzx2 y451 _)).trans ?_
    refine (ret_eq).trans ?_
    kernel_rfl
noncomputable def cp41 : CallP := withC cp40 10 [(.agg tsGraph)] (.tup [(.one (.ow tsI2)), pI]) (fun y : ((List I2) × Int) => (y.1, y.2, ())) (fun x => place_Live x.1)
theorem cp41_ok : PureOK E cp41 := conO eok cp40_ok ce2_ok fun x => Eq.mp (by kernel_rfl) (place_Live_is x.1)
end
section
variable {α β : Type} (l_ : I4) (other : I4) (k : St → Option α)
noncomputable abbrev C43 := codeOf E.P 34
noncomputable abbrev P43 := @preK α E 34 cp41 ce2
abbrev S43_0 : St := ⟨[(2, rC tsI4 l_), (3, rC tsI4 other)], [], [], 37⟩
theorem place_lot_after_f1 : P43 1 C43 ⟨[(0, rA tsI4 l_), (1, rA tsI4 other)], [], [], 37⟩ k = k (S43_0 l_ other) := by kernel_rfl
def place_lot_after_r1_q (K : Bool → β) : β := (bif (decide (l_.2.1 < other.1)) then (K true) else (bif (decide (other.2.1 < l_.1)) then (K true) else (bif (decide (other.2.2.2 ≤ l_.2.2.1)) then (K true) else (K (decide (l_.2.2.2 ≤ other.2.2.1))))))
def place_lot_after_r1_p : Bool := place_lot_after_r1_q l_ other (fun y => y)
theorem place_lot_after_r1_n (K : Bool → β) : place_lot_after_r1_q l_ other K = K (place_lot_after_r1_p l_ other) := (bif_k K rfl (bif_k K rfl (bif_k K rfl rfl)))
theorem place_lot_after_r1 : P43 1 C43.r.l (S43_0 l_ other) k = k ⟨[(2, rC tsI4 l_), (34, rb (place_lot_after_r1_p l_ other))], [], [], 37⟩ := Eq.trans (by kernel_rfl) (place_lot_after_r1_n l_ other (fun y459 : Bool => k ⟨[(2, rC tsI4 l_), (34, rb y459)], [], [], 37⟩))
abbrev S43_1 : St := ⟨[(2, rC tsI4 l_)], [], [], 37⟩
theorem place_lot_after_fz : P43 1 C43.r.l.r.t (S43_1 l_) k = k ⟨[(4, ri 0)], [], [], 37⟩ := by kernel_rfl
theorem place_lot_after_fzx1 : P43 1 C43.r.r (S43_1 l_) k = k ⟨[(4, ri l_.2.2.2)], [], [], 37⟩ := by kernel_rfl
/-- (quilt/place.lot).after -/
def place_lot_after_q (K : Int → β) : β := (bif (place_lot_after_r1_p l_ other) then (K (0 : Int)) else (K l_.2.2.2))
def place_lot_after : Int := place_lot_after_q l_ other (fun y => y)
theorem place_lot_after_n (K : Int → β) : place_lot_after_q l_ other K = K (place_lot_after l_ other) := (bif_k K rfl rfl)
theorem place_lot_after_is : stepS E cp41 ce2 34 [rA tsI4 l_, rA tsI4 other] = (fun y : Int => some (ri y : R)) (place_lot_after l_ other) := by
  refine Eq.trans ?_ (place_lot_after_n l_ other (fun y : Int => some (ri y : R)))
  refine (stepG_is (nt := 37) (regs := [(0, rA tsI4 l_), (1, rA tsI4 other)])).trans ?_
  unfold place_lot_after_q
  refine (pre1 (place_lot_after_f1 l_ other _)).trans ?_
  refine .trans seq_push ?_
  refine (pre1 (place_lot_after_r1 l_ other _)).trans ?_
  refine (cond_e (b := (place_lot_after_r1_p l_ other)) (st' := (S43_1 l_)) ).trans (bif_g ?_ ?_)
  · refine (pre1 (place_lot_after_fz l_ _)).trans ?_
    refine (ret_eq).trans ?_
    refine seqC_ret.trans ?_
    kernel_rfl
  · refine (skip_eq).trans ?_
    refine (seqC_normal (st' := (S43_1 l_))).trans ?_
    refine (pre1 (place_lot_after_fzx1 l_ _)).trans ?_
    refine (ret_eq).trans ?_
    kernel_rfl
noncomputable def cp42 : CallP := withC cp41 34 [(.agg tsI4), (.agg tsI4)] (.one pI) (fun y : Int => y) (fun x => some (place_lot_after x.1 x.2.1))
theorem cp42_ok : PureOK E cp42 := conS eok cp41_ok ce2_ok fun x => Eq.mp (by kernel_rfl) (place_lot_after_is x.1 x.2.1)
end
section
variable {α : Type} (at_ : Int) (c5_ : (List I2)) (c6_ : (List I4)) (c7_ : Int) (c9_ : Int) (s475 : Int) (y479 : Int) (k : St → Option α) (q : Kont α)
noncomputable abbrev C44 := codeOf E.P 33
noncomputable abbrev P44 := @preK α E 33 cp42 ce2
noncomputable abbrev R44 := @runCode α E 33 cp42 ce2
abbrev S44_0 : St := ⟨[(0, ri at_), (1, rF 1), (2, rF 0), (3, rF 2), (4, rF 4)], [[.ow tsI2 c5_ (.h 0 0)], [.ow tsI4 c6_ (.h 1 0)], [di c7_], [], [di c9_]], [], 31⟩
theorem place_lots_1_f1 : P44 1 C44 (S44_0 at_ c5_ c6_ c7_ c9_) k = k (S44_0 at_ c5_ c6_ c7_ c9_) := by kernel_rfl
abbrev S44_1 : St := ⟨[(0, ri at_), (2, rF 0), (3, rF 2), (4, rF 4), (10, .one (.ow tsI4 c6_ (.h 1 0))), (11, ri (c6_.length : Int)), (12, ri 0)], [[.ow tsI2 c5_ (.h 0 0)], [.ow tsI4 c6_ (.h 1 0)], [di c7_], [], [di c9_]], [], 31⟩
theorem place_lots_1_f2 : P44 1 C44.r.l (S44_0 at_ c5_ c6_ c7_ c9_) k = k (S44_1 at_ c5_ c6_ c7_ c9_) := by kernel_rfl
abbrev S44_2 : St := ⟨[(0, ri at_), (2, rF 0), (3, rF 2), (4, rF 4), (10, .one (.ow tsI4 c6_ (.h 1 0))), (11, ri (c6_.length : Int)), (12, ri s475)], [[.ow tsI2 c5_ (.h 0 0)], [.ow tsI4 c6_ (.h 1 0)], [di c7_], [], [di c9_]], [], 31⟩
theorem place_lots_1_fz : P44 1 C44.r.l.r.b.b (S44_2 at_ c5_ c6_ c7_ c9_ s475) k = k ⟨[(0, ri at_), (2, rF 0), (3, rF 2), (4, rF 4), (10, .one (.ow tsI4 c6_ (.h 1 0))), (11, ri (c6_.length : Int)), (12, ri s475), (13, rb (decide (s475 < (c6_.length : Int))))], [[.ow tsI2 c5_ (.h 0 0)], [.ow tsI4 c6_ (.h 1 0)], [di c7_], [], [di c9_]], [], 31⟩ := by kernel_rfl
def place_lots_1_r3_p : Option Unit := (bif (decide ((0 : Int) ≤ s475)) then (bif (decide (s475 < (c6_.length : Int))) then (some ()) else none) else none)
abbrev S44_3 : St := ⟨[(0, ri at_), (2, rF 0), (3, rF 2), (4, rF 4), (8, rF 5), (10, .one (.ow tsI4 c6_ (.h 1 0))), (11, ri (c6_.length : Int)), (12, ri s475)], [[.ow tsI2 c5_ (.h 0 0)], [.ow tsI4 c6_ (.h 1 0)], [di c7_], [], [di c9_], (tsI4.leaves (gt c6_ s475 dI4))], [], 31⟩
theorem place_lots_1_r3 : P44 1 C44.r.l.r.b.b.r.r.l.b (S44_2 at_ c5_ c6_ c7_ c9_ s475) k = Option.bind (place_lots_1_r3_p c6_ s475) (fun y478 : Unit => k (S44_3 at_ c5_ c6_ c7_ c9_ s475)) := .trans (by kernel_rfl) (bif_b (bif_b some_b none_b) none_b)
def place_lots_1_r4_p : Option Int := (bif (decide ((0 : Int) ≤ c7_)) then (bif (decide (c7_ < (c5_.length : Int))) then (some (place_lot_after (gt c6_ s475 dI4) ((gt c5_ c7_ dI2).1, (gt c5_ c7_ dI2).2, at_, (IntKind.wrap .i64 (at_ + c9_))))) else none) else none)
abbrev S44_4 : St := ⟨[(0, ri at_), (2, rF 0), (3, rF 2), (4, rF 4), (9, ri y479), (10, .one (.ow tsI4 c6_ (.h 1 0))), (11, ri (c6_.length : Int)), (12, ri s475)], [[.ow tsI2 c5_ (.h 0 0)], [.ow tsI4 c6_ (.h 1 0)], [di c7_], [], [di c9_], []], [], 31⟩
theorem place_lots_1_r4 : P44 1 C44.r.l.r.b.b.r.r.l.b.r (S44_3 at_ c5_ c6_ c7_ c9_ s475) k = Option.bind (place_lots_1_r4_p at_ c5_ c6_ c7_ c9_ s475) (fun y479 : Int => k (S44_4 at_ c5_ c6_ c7_ c9_ s475 y479)) := .trans (by kernel_rfl) (bif_b (bif_b some_b none_b) none_b)
theorem place_lots_1_f1000006 : P44 1 C44.r.l.r.b.b.r.r.l.b.r.r (S44_4 at_ c5_ c6_ c7_ c9_ s475 y479) k = k ⟨[(0, ri at_), (2, rF 0), (3, rF 2), (4, rF 4), (9, ri y479), (10, .one (.ow tsI4 c6_ (.h 1 0))), (11, ri (c6_.length : Int)), (12, ri s475), (28, rb (decide (y479 > 0)))], [[.ow tsI2 c5_ (.h 0 0)], [.ow tsI4 c6_ (.h 1 0)], [di c7_], [], [di c9_], []], [], 31⟩ := by kernel_rfl
theorem place_lots_1_fzx1 : P44 1 C44.r.l.r.b.b.r.r.l.b.r.r.r.t (S44_4 at_ c5_ c6_ c7_ c9_ s475 y479) k = k ⟨[(6, ri y479)], [[.ow tsI2 c5_ (.h 0 0)], [.ow tsI4 c6_ (.h 1 0)], [di c7_], [], [di c9_], []], [], 31⟩ := by kernel_rfl
abbrev S44_5 : St := ⟨[(0, ri at_), (2, rF 0), (3, rF 2), (4, rF 4), (10, .one (.ow tsI4 c6_ (.h 1 0))), (11, ri (c6_.length : Int)), (12, ri s475)], [[.ow tsI2 c5_ (.h 0 0)], [.ow tsI4 c6_ (.h 1 0)], [di c7_], [], [di c9_], []], [], 31⟩
theorem place_lots_1_r7 : R44 C44.r.l.r.b.b.r.r.r (S44_5 at_ c5_ c6_ c7_ c9_ s475) q = q .normal ⟨[(0, ri at_), (2, rF 0), (3, rF 2), (4, rF 4), (10, .one (.ow tsI4 c6_ (.h 1 0))), (11, ri (c6_.length : Int)), (12, ri (IntKind.wrap .i64 (s475 + 1)))], [[.ow tsI2 c5_ (.h 0 0)], [.ow tsI4 c6_ (.h 1 0)], [di c7_], [], [di c9_], []], [], 31⟩ := by kernel_rfl
def place_lots_1_l2_p : Option (Int ⊕ (Int ⊕ Int)) := (bif (decide (s475 < (c6_.length : Int))) then (Option.bind (place_lots_1_r3_p c6_ s475) (fun y478 : Unit => (Option.bind (place_lots_1_r4_p at_ c5_ c6_ c7_ c9_ s475) (fun y479 : Int => (bif (decide (y479 > 0)) then (some (Sum.inr (Sum.inr y479))) else (some (Sum.inl (IntKind.wrap .i64 (s475 + 1))))))))) else (some (Sum.inr (Sum.inl s475))))
abbrev S44_6 (y480 : Int) : St := ⟨[(0, ri at_), (2, rF 0), (3, rF 2), (4, rF 4), (10, .one (.ow tsI4 c6_ (.h 1 0))), (11, ri (c6_.length : Int)), (12, ri y480)], [[.ow tsI2 c5_ (.h 0 0)], [.ow tsI4 c6_ (.h 1 0)], [di c7_], [], [di c9_]], [], 31⟩
abbrev S44_7 (y481 : Int) : St := ⟨[(6, ri y481)], [[.ow tsI2 c5_ (.h 0 0)], [.ow tsI4 c6_ (.h 1 0)], [di c7_], [], [di c9_], []], [], 31⟩
theorem place_lots_1_l2_b : R44 C44.r.l.r.b.b (S44_2 at_ c5_ c6_ c7_ c9_ s475) (loopKont 5 q) = Option.bind (place_lots_1_l2_p at_ c5_ c6_ c7_ c9_ s475) (either (fun y : Int => q .normal ⟨[(0, ri at_), (2, rF 0), (3, rF 2), (4, rF 4), (10, .one (.ow tsI4 c6_ (.h 1 0))), (11, ri (c6_.length : Int)), (12, ri y)], [[.ow tsI2 c5_ (.h 0 0)], [.ow tsI4 c6_ (.h 1 0)], [di c7_], [], [di c9_]], [], 31⟩) (either (fun y480 : Int => q (.exit 0) (S44_6 at_ c5_ c6_ c7_ c9_ y480)) (fun y481 : Int => q .ret (S44_7 c5_ c6_ c7_ c9_ y481)))) := by
  refine .trans ?_ (bif_b (bind_b fun y478 => (bind_b fun y479 => (bif_b e3_2 e3_0))) e3_1)
  refine (pre1 (place_lots_1_fz at_ c5_ c6_ c7_ c9_ s475 _)).trans ?_
  refine .trans seq_push ?_
  refine (cond_e (b := (decide (s475 < (c6_.length : Int)))) (st' := (S44_2 at_ c5_ c6_ c7_ c9_ s475)) ).trans (bif_g ?_ ?_)
  · refine (skip_eq).trans ?_
    refine (seqC_normal (st' := (S44_2 at_ c5_ c6_ c7_ c9_ s475))).trans ?_
    refine .trans seq_push ?_
    refine (block_push (id := 1)).trans ?_
    refine (pre1 (place_lots_1_r3 at_ c5_ c6_ c7_ c9_ s475 _)).trans (bind_g fun y478 => ?_)
    refine (pre1 (place_lots_1_r4 at_ c5_ c6_ c7_ c9_ s475 _)).trans (bind_g fun y479 => ?_)
    refine (pre1 (place_lots_1_f1000006 at_ c5_ c6_ c7_ c9_ s475 y479 _)).trans ?_
    refine (cond_e (b := (decide (y479 > 0))) (st' := (S44_4 at_ c5_ c6_ c7_ c9_ s475 y479)) ).trans (bif_g ?_ ?_)
    · refine (pre1 (place_lots_1_fzx1 at_ c5_ c6_ c7_ c9_ s475 y479 _)).trans ?_
      refine (ret_eq).trans ?_
      refine block_ret.trans ?_
      refine seqC_ret.trans ?_
      kernel_rfl
    · refine (skip_eq).trans ?_
      refine block_normal.trans ?_
      refine (seqC_normal (st' := (S44_5 at_ c5_ c6_ c7_ c9_ s475))).trans ?_
      refine (place_lots_1_r7 at_ c5_ c6_ c7_ c9_ s475 _).trans ?_
      kernel_rfl
  · refine ((exit_eq (j := 0))).trans ?_
    refine seqC_exit.trans ?_
    kernel_rfl
theorem place_lots_1_l2 : R44 C44.r.l.r.b (S44_1 at_ c5_ c6_ c7_ c9_) q = Option.bind (iterN (place_lots_1_l2_p at_ c5_ c6_ c7_ c9_) LL (0 : Int)) (either (fun y480 : Int => q (.exit 0) (S44_6 at_ c5_ c6_ c7_ c9_ y480)) (fun y481 : Int => q .ret (S44_7 c5_ c6_ c7_ c9_ y481))) :=
  Eq.trans (by kernel_rfl) (loop_iter2 (S := fun s475 : Int => (S44_2 at_ c5_ c6_ c7_ c9_ s475)) (Y1 := fun y480 : Int => ((.exit 0), (S44_6 at_ c5_ c6_ c7_ c9_ y480))) (Y2 := fun y481 : Int => (.ret, (S44_7 c5_ c6_ c7_ c9_ y481))) (fun s q => place_lots_1_l2_b at_ c5_ c6_ c7_ c9_ s q) (fun z => rfl) (fun z => rfl) LL (0 : Int))
abbrev S44_8 : St := ⟨[], [[.ow tsI2 c5_ (.h 0 0)], [.ow tsI4 c6_ (.h 1 0)], [di c7_], [], [di c9_]], [], 31⟩
theorem place_lots_1_fzx2 : P44 1 C44.r.r (S44_8 c5_ c6_ c7_ c9_) k = k ⟨[(6, ri (-1 : Int))], [[.ow tsI2 c5_ (.h 0 0)], [.ow tsI4 c6_ (.h 1 0)], [di c7_], [], [di c9_]], [], 31⟩ := by kernel_rfl
/-- quilt/place.lots$1 -/
def place_lots_1 : Option Int := (Option.bind (iterN (place_lots_1_l2_p at_ c5_ c6_ c7_ c9_) LL (0 : Int)) (either (fun y480 : Int => (some (-1 : Int))) (fun y481 : Int => (some y481))))
theorem place_lots_1_is (k : R → Heap → Option α) : callBody E cp42 ce2 α 33 [ri at_, rF 1, rF 0, rF 2, rF 4] [[.ow tsI2 c5_ (.h 0 0)], [.ow tsI4 c6_ (.h 1 0)], [di c7_], [], [di c9_]] k = Option.bind (place_lots_1 at_ c5_ c6_ c7_ c9_) (fun y : Int => k (ri y) [[.ow tsI2 c5_ (.h 0 0)], [.ow tsI4 c6_ (.h 1 0)], [di c7_], [], [di c9_]]) := by
  refine .trans ?_ (bind_b (either_b (fun y480 => some_b) (fun y481 => some_b)))
  refine (body_is (nt := 31) (regs := [(0, ri at_), (1, rF 1), (2, rF 0), (3, rF 2), (4, rF 4)]) (by kernel_rfl) (by kernel_rfl)).trans ?_
  refine (pre1 (place_lots_1_f1 at_ c5_ c6_ c7_ c9_ _)).trans ?_
  refine .trans seq_push ?_
  refine (pre1 (place_lots_1_f2 at_ c5_ c6_ c7_ c9_ _)).trans ?_
  refine (block_push (id := 0)).trans ?_
  refine (place_lots_1_l2 at_ c5_ c6_ c7_ c9_ _).trans (bind_g (either_g (fun y480 => ?_) (fun y481 => ?_)))
  · refine block_same.trans ?_
    refine (seqC_normal (st' := (S44_8 c5_ c6_ c7_ c9_))).trans ?_
    refine (pre1 (place_lots_1_fzx2 c5_ c6_ c7_ c9_ _)).trans ?_
    refine (ret_eq).trans ?_
    kernel_rfl
  · refine block_ret.trans ?_
    refine seqC_ret.trans ?_
    kernel_rfl
noncomputable def ce3 : CallE := withE ce2 33 (decA [pI, (.one (.ref 1 0)), (.one (.ref 0 0)), (.one (.ref 2 0)), (.one (.ref 4 0))] [(.cons (.owh tsI2 0 0) .nil), (.cons (.owh tsI4 1 0) .nil), (.cons (.g (.int .i64)) .nil), .nil, (.cons (.g (.int .i64)) .nil)]) (.one pI) (fun y : Int => y) (fun x y => [[.ow tsI2 x.2.1.1 (.h 0 0)], [.ow tsI4 x.2.2.1.1 (.h 1 0)], [di x.2.2.2.1.1], [], [di x.2.2.2.2.2.1.1]]) (fun x => place_lots_1 x.1.1 x.2.1.1 x.2.2.1.1 x.2.2.2.1.1 x.2.2.2.2.2.1.1)
theorem ce3_ok : EffOK E ce3 := conE eok cp42_ok ce2_ok fun α x k => Eq.mp (by kernel_rfl) (place_lots_1_is x.1.1 x.2.1.1 x.2.2.1.1 x.2.2.2.1.1 x.2.2.2.2.2.1.1 k)
end
section
variable {α : Type} (g_ : Graph) (y541 : ((List I4) × Int)) (y542 : ((List I2) × Int)) (s637 : (Int × (List I4))) (y654 : Int) (y661 : Int) (s664 : (Int × Int)) (y666 : (Int × Int)) (y667 : (List I4)) (y668 : (Int × (List I4))) (k : St → Option α) (q : Kont α)
noncomputable abbrev C45 := codeOf E.P 25
noncomputable abbrev P45 := @preK α E 25 cp42 ce3
noncomputable abbrev R45 := @runCode α E 25 cp42 ce3
abbrev S45_0 : St := ⟨[(1, rC tsGraph g_), (4, rO tsI4 y541.1 4), (5, ri y541.2)], [], [], 62⟩
theorem place_lots_r1 : P45 2 C45 ⟨[(0, rA tsGraph g_)], [], [], 62⟩ k = Option.bind (graph_Values g_) fun y541 : ((List I4) × Int) => k (S45_0 g_ y541) := by kernel_rfl
theorem place_lots_f1000003 : P45 1 C45.r.r.l (S45_0 g_ y541) k = k ⟨[(1, rC tsGraph g_), (4, rO tsI4 y541.1 4), (5, ri y541.2), (21, rb (y541.2 != 0))], [], [], 62⟩ := by kernel_rfl
theorem place_lots_fz : P45 1 C45.r.r.l.r.t (S45_0 g_ y541) k = k ⟨[(2, .one (.ow tsI4 [] (.v 2))), (3, ri y541.2)], [], [], 62⟩ := by kernel_rfl
abbrev S45_1 : St := ⟨[(1, rC tsGraph g_), (4, rO tsI4 y541.1 4)], [], [], 62⟩
abbrev S45_2 : St := ⟨[(4, rO tsI4 y541.1 4), (6, rF 0)], [[.ow tsI2 y542.1 (.h 0 0)]], [], 62⟩
theorem place_lots_r4 : P45 1 C45.r.r.r (S45_1 g_ y541) k = Option.bind (place_Live g_) fun y542 : ((List I2) × Int) => k (S45_2 y541 y542) := by kernel_rfl
abbrev S45_3 : St := ⟨[(4, rO tsI4 y541.1 4), (6, rF 0), (8, rF 1)], [[.ow tsI2 y542.1 (.h 0 0)], [.ow tsI4 [] (.h 1 0)]], [], 62⟩
theorem place_lots_f6 : P45 1 C45.r.r.r.r (S45_2 y541 y542) k = k (S45_3 y541 y542) := by kernel_rfl
abbrev S45_4 : St := ⟨[(6, rF 0), (8, rF 1), (28, rl tsI4 y541.1), (29, ri (y541.1.length : Int)), (30, ri 0)], [[.ow tsI2 y542.1 (.h 0 0)], [.ow tsI4 [] (.h 1 0)]], [], 62⟩
theorem place_lots_f7 : P45 1 C45.r.r.r.r.r.l (S45_3 y541 y542) k = k (S45_4 y541 y542) := by kernel_rfl
abbrev S45_5 : St := ⟨[(6, rF 0), (8, rF 1), (28, rl tsI4 y541.1), (29, ri (y541.1.length : Int)), (30, ri s637.1)], [[.ow tsI2 y542.1 (.h 0 0)], [.ow tsI4 s637.2 (.h 1 0)]], [], 62⟩
theorem place_lots_fzx1 : P45 1 C45.r.r.r.r.r.l.r.b.b (S45_5 y541 y542 s637) k = k ⟨[(6, rF 0), (8, rF 1), (28, rl tsI4 y541.1), (29, ri (y541.1.length : Int)), (30, ri s637.1), (31, rb (decide (s637.1 < (y541.1.length : Int))))], [[.ow tsI2 y542.1 (.h 0 0)], [.ow tsI4 s637.2 (.h 1 0)]], [], 62⟩ := by kernel_rfl
def place_lots_r8_p : Option Unit := (bif (decide ((0 : Int) ≤ s637.1)) then (bif (decide (s637.1 < (y541.1.length : Int))) then (some ()) else none) else none)
abbrev S45_6 : St := ⟨[(6, rF 0), (8, rF 1), (9, rF 2), (10, rF 3), (28, rl tsI4 y541.1), (29, ri (y541.1.length : Int)), (30, ri s637.1)], [[.ow tsI2 y542.1 (.h 0 0)], [.ow tsI4 s637.2 (.h 1 0)], [di s637.1], (tsI4.leaves (gt y541.1 s637.1 dI4))], [], 62⟩
theorem place_lots_r8 : P45 1 C45.r.r.r.r.r.l.r.b.b.r.r.l.b (S45_5 y541 y542 s637) k = Option.bind (place_lots_r8_p y541 s637) (fun y653 : Unit => k (S45_6 y541 y542 s637)) := .trans (by kernel_rfl) (bif_b (bif_b some_b none_b) none_b)
abbrev S45_7 : St := ⟨[(6, rF 0), (8, rF 1), (9, rF 2), (11, rF 4), (28, rl tsI4 y541.1), (29, ri (y541.1.length : Int)), (30, ri s637.1)], [[.ow tsI2 y542.1 (.h 0 0)], [.ow tsI4 s637.2 (.h 1 0)], [di s637.1], [], [di y654]], [], 62⟩
theorem place_lots_r9 : P45 1 C45.r.r.r.r.r.l.r.b.b.r.r.l.b.r (S45_6 y541 y542 s637) k = Option.bind (shape_Size ((gt y541.1 s637.1 dI4).1, (gt y541.1 s637.1 dI4).2.1, (gt y541.1 s637.1 dI4).2.2.1)) fun y654 : Int => k (S45_7 y541 y542 s637 y654) := by kernel_rfl
abbrev S45_8 : St := ⟨[(6, rF 0), (8, rF 1), (9, rF 2), (11, rF 4), (12, .one (.fn 33 [.ref 1 0, .ref 0 0, .ref 2 0, .ref 4 0])), (13, ri 0), (28, rl tsI4 y541.1), (29, ri (y541.1.length : Int)), (30, ri s637.1)], [[.ow tsI2 y542.1 (.h 0 0)], [.ow tsI4 s637.2 (.h 1 0)], [di s637.1], [], [di y654]], [], 62⟩
theorem place_lots_f12 : P45 2 C45.r.r.r.r.r.l.r.b.b.r.r.l.b.r.r (S45_7 y541 y542 s637 y654) k = k (S45_8 y541 y542 s637 y654) := by kernel_rfl
abbrev S45_9 : St := ⟨[(6, rF 0), (8, rF 1), (9, rF 2), (11, rF 4), (12, .one (.fn 33 [.ref 1 0, .ref 0 0, .ref 2 0, .ref 4 0])), (13, ri 0), (14, ri y661), (28, rl tsI4 y541.1), (29, ri (y541.1.length : Int)), (30, ri s637.1)], [[.ow tsI2 y542.1 (.h 0 0)], [.ow tsI4 s637.2 (.h 1 0)], [di s637.1], [], [di y654]], [], 62⟩
theorem place_lots_r12 : P45 1 C45.r.r.r.r.r.l.r.b.b.r.r.l.b.r.r.r.r.l (S45_8 y541 y542 s637 y654) k = Option.bind (place_lots_1 (0 : Int) y542.1 s637.2 s637.1 y654) fun y661 : Int => k (S45_9 y541 y542 s637 y654 y661) := by kernel_rfl
abbrev S45_10 : St := ⟨[(6, rF 0), (8, rF 1), (9, rF 2), (11, rF 4), (12, .one (.fn 33 [.ref 1 0, .ref 0 0, .ref 2 0, .ref 4 0])), (13, ri s664.1), (14, ri s664.2), (28, rl tsI4 y541.1), (29, ri (y541.1.length : Int)), (30, ri s637.1)], [[.ow tsI2 y542.1 (.h 0 0)], [.ow tsI4 s637.2 (.h 1 0)], [di s637.1], [], [di y654]], [], 62⟩
theorem place_lots_fzx2 : P45 1 C45.r.r.r.r.r.l.r.b.b.r.r.l.b.r.r.r.r.l.r.b.b.l (S45_10 y541 y542 s637 y654 s664) k = k ⟨[(6, rF 0), (8, rF 1), (9, rF 2), (11, rF 4), (12, .one (.fn 33 [.ref 1 0, .ref 0 0, .ref 2 0, .ref 4 0])), (13, ri s664.1), (14, ri s664.2), (28, rl tsI4 y541.1), (29, ri (y541.1.length : Int)), (30, ri s637.1), (43, rb (decide (s664.2 ≥ 0)))], [[.ow tsI2 y542.1 (.h 0 0)], [.ow tsI4 s637.2 (.h 1 0)], [di s637.1], [], [di y654]], [], 62⟩ := by kernel_rfl
abbrev S45_11 : St := ⟨[(6, rF 0), (8, rF 1), (9, rF 2), (11, rF 4), (12, .one (.fn 33 [.ref 1 0, .ref 0 0, .ref 2 0, .ref 4 0])), (14, ri s664.2), (28, rl tsI4 y541.1), (29, ri (y541.1.length : Int)), (30, ri s637.1)], [[.ow tsI2 y542.1 (.h 0 0)], [.ow tsI4 s637.2 (.h 1 0)], [di s637.1], [], [di y654]], [], 62⟩
abbrev S45_12 : St := ⟨[(6, rF 0), (8, rF 1), (9, rF 2), (11, rF 4), (12, .one (.fn 33 [.ref 1 0, .ref 0 0, .ref 2 0, .ref 4 0])), (13, ri s664.2), (28, rl tsI4 y541.1), (29, ri (y541.1.length : Int)), (30, ri s637.1)], [[.ow tsI2 y542.1 (.h 0 0)], [.ow tsI4 s637.2 (.h 1 0)], [di s637.1], [], [di y654]], [], 62⟩
theorem place_lots_r15 : R45 C45.r.r.r.r.r.l.r.b.b.r.r.l.b.r.r.r.r.l.r.b.b.r.l.b (S45_11 y541 y542 s637 y654 s664) q = q .normal (S45_12 y541 y542 s637 y654 s664) := by kernel_rfl
theorem place_lots_r14 : R45 C45.r.r.r.r.r.l.r.b.b.r.r.l.b.r.r.r.r.l.r.b.b.r.r (S45_12 y541 y542 s637 y654 s664) q = Option.bind (place_lots_1 s664.2 y542.1 s637.2 s637.1 y654) fun y665 : Int => q .normal ⟨[(6, rF 0), (8, rF 1), (9, rF 2), (11, rF 4), (12, .one (.fn 33 [.ref 1 0, .ref 0 0, .ref 2 0, .ref 4 0])), (13, ri s664.2), (14, ri y665), (28, rl tsI4 y541.1), (29, ri (y541.1.length : Int)), (30, ri s637.1)], [[.ow tsI2 y542.1 (.h 0 0)], [.ow tsI4 s637.2 (.h 1 0)], [di s637.1], [], [di y654]], [], 62⟩ := by kernel_rfl
def place_lots_l13_p : Option ((Int × Int) ⊕ (Int × Int)) := (bif (decide (s664.2 ≥ 0)) then (Option.bind (place_lots_1 s664.2 y542.1 s637.2 s637.1 y654) (fun y665 : Int => (some (Sum.inl (s664.2, y665))))) else (some (Sum.inr s664)))
abbrev S45_13 : St := ⟨[(6, rF 0), (8, rF 1), (9, rF 2), (11, rF 4), (12, .one (.fn 33 [.ref 1 0, .ref 0 0, .ref 2 0, .ref 4 0])), (13, ri y666.1), (14, ri y666.2), (28, rl tsI4 y541.1), (29, ri (y541.1.length : Int)), (30, ri s637.1)], [[.ow tsI2 y542.1 (.h 0 0)], [.ow tsI4 s637.2 (.h 1 0)], [di s637.1], [], [di y654]], [], 62⟩
theorem place_lots_l13_b : R45 C45.r.r.r.r.r.l.r.b.b.r.r.l.b.r.r.r.r.l.r.b.b (S45_10 y541 y542 s637 y654 s664) (loopKont 5 q) = Option.bind (place_lots_l13_p y542 s637 y654 s664) (either (fun y : (Int × Int) => q .normal ⟨[(6, rF 0), (8, rF 1), (9, rF 2), (11, rF 4), (12, .one (.fn 33 [.ref 1 0, .ref 0 0, .ref 2 0, .ref 4 0])), (13, ri y.1), (14, ri y.2), (28, rl tsI4 y541.1), (29, ri (y541.1.length : Int)), (30, ri s637.1)], [[.ow tsI2 y542.1 (.h 0 0)], [.ow tsI4 s637.2 (.h 1 0)], [di s637.1], [], [di y654]], [], 62⟩) (fun y666 : (Int × Int) => q (.exit 2) (S45_13 y541 y542 s637 y654 y666))) := by
  refine .trans ?_ (bif_b (bind_b fun y665 => e2_0) e2_1)
  refine .trans seq_push ?_
  refine (pre1 (place_lots_fzx2 y541 y542 s637 y654 s664 _)).trans ?_
  refine (cond_e (b := (decide (s664.2 ≥ 0))) (st' := (S45_10 y541 y542 s637 y654 s664)) ).trans (bif_g ?_ ?_)
  · refine (skip_eq).trans ?_
    refine (seqC_normal (st' := (S45_11 y541 y542 s637 y654 s664))).trans ?_
    refine .trans seq_push ?_
    refine (block_push (id := 3)).trans ?_
    refine (place_lots_r15 y541 y542 s637 y654 s664 _).trans ?_
    refine block_normal.trans ?_
    refine (seqC_normal (st' := (S45_12 y541 y542 s637 y654 s664))).trans ?_
    refine (place_lots_r14 y541 y542 s637 y654 s664 _).trans (bind_g fun y665 => ?_)
    kernel_rfl
  · refine ((exit_eq (j := 2))).trans ?_
    refine seqC_exit.trans ?_
    kernel_rfl
theorem place_lots_l13 : R45 C45.r.r.r.r.r.l.r.b.b.r.r.l.b.r.r.r.r.l.r.b (S45_9 y541 y542 s637 y654 y661) q = Option.bind (iterN (place_lots_l13_p y542 s637 y654) LL ((0 : Int), y661)) (fun y666 : (Int × Int) => q (.exit 2) (S45_13 y541 y542 s637 y654 y666)) :=
  Eq.trans (by kernel_rfl) (loop_iter1 (S := fun s664 : (Int × Int) => (S45_10 y541 y542 s637 y654 s664)) (Y1 := fun y666 : (Int × Int) => ((.exit 2), (S45_13 y541 y542 s637 y654 y666))) (fun s q => place_lots_l13_b y541 y542 s637 y654 s q) (fun z => rfl) LL ((0 : Int), y661))
def place_lots_r16_p : Option (List I4) := (bif (decide ((0 : Int) ≤ s637.1)) then (bif (decide (s637.1 < (y542.1.length : Int))) then (bif (decide (s637.2.length + ([((gt y542.1 s637.1 dI2).1, (gt y542.1 s637.1 dI2).2, y666.1, (IntKind.wrap .i64 (y666.1 + y654)))] : List I4).length ≤ maxL)) then (some (s637.2 ++ [((gt y542.1 s637.1 dI2).1, (gt y542.1 s637.1 dI2).2, y666.1, (IntKind.wrap .i64 (y666.1 + y654)))])) else none) else none) else none)
abbrev S45_14 : St := ⟨[(6, rF 0), (8, rF 1), (9, rF 2), (11, rF 4), (13, ri y666.1), (28, rl tsI4 y541.1), (29, ri (y541.1.length : Int)), (30, ri s637.1)], [[.ow tsI2 y542.1 (.h 0 0)], [.ow tsI4 s637.2 (.h 1 0)], [di s637.1], [], [di y654]], [], 62⟩
abbrev S45_15 : St := ⟨[(6, rF 0), (8, rF 1), (28, rl tsI4 y541.1), (29, ri (y541.1.length : Int)), (30, ri s637.1)], [[.ow tsI2 y542.1 (.h 0 0)], [.ow tsI4 y667 (.h 1 0)], [], [], []], [], 62⟩
theorem place_lots_r16 : R45 C45.r.r.r.r.r.l.r.b.b.r.r.l.b.r.r.r.r.r (S45_14 y541 y542 s637 y654 y666) q = Option.bind (place_lots_r16_p y542 s637 y654 y666) (fun y667 : (List I4) => q .normal (S45_15 y541 y542 s637 y667)) := .trans (by kernel_rfl) (bif_b (bif_b (bif_b some_b none_b) none_b) none_b)
theorem place_lots_r17 : R45 C45.r.r.r.r.r.l.r.b.b.r.r.r (S45_15 y541 y542 s637 y667) q = q .normal ⟨[(6, rF 0), (8, rF 1), (28, rl tsI4 y541.1), (29, ri (y541.1.length : Int)), (30, ri (IntKind.wrap .i64 (s637.1 + 1)))], [[.ow tsI2 y542.1 (.h 0 0)], [.ow tsI4 y667 (.h 1 0)], [], [], []], [], 62⟩ := by kernel_rfl
def place_lots_l7_p : Option ((Int × (List I4)) ⊕ (Int × (List I4))) := (bif (decide (s637.1 < (y541.1.length : Int))) then (Option.bind (place_lots_r8_p y541 s637) (fun y653 : Unit => (Option.bind (shape_Size ((gt y541.1 s637.1 dI4).1, (gt y541.1 s637.1 dI4).2.1, (gt y541.1 s637.1 dI4).2.2.1)) (fun y654 : Int => (Option.bind (place_lots_1 (0 : Int) y542.1 s637.2 s637.1 y654) (fun y661 : Int => (Option.bind (iterN (place_lots_l13_p y542 s637 y654) LL ((0 : Int), y661)) (fun y666 : (Int × Int) => (Option.bind (place_lots_r16_p y542 s637 y654 y666) (fun y667 : (List I4) => (some (Sum.inl ((IntKind.wrap .i64 (s637.1 + 1)), y667))))))))))))) else (some (Sum.inr s637)))
abbrev S45_16 : St := ⟨[(6, rF 0), (8, rF 1), (28, rl tsI4 y541.1), (29, ri (y541.1.length : Int)), (30, ri y668.1)], [[.ow tsI2 y542.1 (.h 0 0)], [.ow tsI4 y668.2 (.h 1 0)]], [], 62⟩
theorem place_lots_l7_b : R45 C45.r.r.r.r.r.l.r.b.b (S45_5 y541 y542 s637) (loopKont 2 q) = Option.bind (place_lots_l7_p y541 y542 s637) (either (fun y : (Int × (List I4)) => q .normal ⟨[(6, rF 0), (8, rF 1), (28, rl tsI4 y541.1), (29, ri (y541.1.length : Int)), (30, ri y.1)], [[.ow tsI2 y542.1 (.h 0 0)], [.ow tsI4 y.2 (.h 1 0)]], [], 62⟩) (fun y668 : (Int × (List I4)) => q (.exit 0) (S45_16 y541 y542 y668))) := by
  refine .trans ?_ (bif_b (bind_b fun y653 => (bind_b fun y654 => (bind_b fun y661 => (bind_b fun y666 => (bind_b fun y667 => e2_0))))) e2_1)
  refine (pre1 (place_lots_fzx1 y541 y542 s637 _)).trans ?_
  refine .trans seq_push ?_
  refine (cond_e (b := (decide (s637.1 < (y541.1.length : Int)))) (st' := (S45_5 y541 y542 s637)) ).trans (bif_g ?_ ?_)
  · refine (skip_eq).trans ?_
    refine (seqC_normal (st' := (S45_5 y541 y542 s637))).trans ?_
    refine .trans seq_push ?_
    refine (block_push (id := 1)).trans ?_
    refine (pre1 (place_lots_r8 y541 y542 s637 _)).trans (bind_g fun y653 => ?_)
    refine (pre1 (place_lots_r9 y541 y542 s637 _)).trans (bind_g fun y654 => ?_)
    refine (pre2 (place_lots_f12 y541 y542 s637 y654 _)).trans ?_
    refine .trans seq_push ?_
    refine (pre1 (place_lots_r12 y541 y542 s637 y654 _)).trans (bind_g fun y661 => ?_)
    refine (block_push (id := 2)).trans ?_
    refine (place_lots_l13 y541 y542 s637 y654 y661 _).trans (bind_g fun y666 => ?_)
    refine block_same.trans ?_
    refine (seqC_normal (st' := (S45_14 y541 y542 s637 y654 y666))).trans ?_
    refine (place_lots_r16 y541 y542 s637 y654 y666 _).trans (bind_g fun y667 => ?_)
    refine block_normal.trans ?_
    refine (seqC_normal (st' := (S45_15 y541 y542 s637 y667))).trans ?_
    refine (place_lots_r17 y541 y542 s637 y667 _).trans ?_
    kernel_rfl
  · refine ((exit_eq (j := 0))).trans ?_
    refine seqC_exit.trans ?_
    kernel_rfl
theorem place_lots_l7 : R45 C45.r.r.r.r.r.l.r.b (S45_4 y541 y542) q = Option.bind (iterN (place_lots_l7_p y541 y542) LL ((0 : Int), [])) (fun y668 : (Int × (List I4)) => q (.exit 0) (S45_16 y541 y542 y668)) :=
  Eq.trans (by kernel_rfl) (loop_iter1 (S := fun s637 : (Int × (List I4)) => (S45_5 y541 y542 s637)) (Y1 := fun y668 : (Int × (List I4)) => ((.exit 0), (S45_16 y541 y542 y668))) (fun s q => place_lots_l7_b y541 y542 s q) (fun z => rfl) LL ((0 : Int), []))
abbrev S45_17 : St := ⟨[(8, rF 1)], [[.ow tsI2 y542.1 (.h 0 0)], [.ow tsI4 y668.2 (.h 1 0)]], [], 62⟩
theorem place_lots_fzx3 : P45 1 C45.r.r.r.r.r.r (S45_17 y542 y668) k = k ⟨[(2, .one (.ow tsI4 y668.2 (.h 1 0))), (3, ri 0)], [[.ow tsI2 y542.1 (.h 0 0)], []], [], 62⟩ := by kernel_rfl
/-- quilt/place.lots -/
def place_lots : Option ((List I4) × Int) := (Option.bind (graph_Values g_) (fun y541 : ((List I4) × Int) => (bif (y541.2 != 0) then (some ([], y541.2)) else (Option.bind (place_Live g_) (fun y542 : ((List I2) × Int) => (Option.bind (iterN (place_lots_l7_p y541 y542) LL ((0 : Int), [])) (fun y668 : (Int × (List I4)) => (some (y668.2, (0 : Int))))))))))
theorem place_lots_is : stepO E cp42 ce3 25 [rA tsGraph g_] = Option.bind (place_lots g_) (fun y : ((List I4) × Int) => some (.tup [.one (.ow tsI4 y.1 (.s 0)), ri y.2] : R)) := by
  refine .trans ?_ (bind_b fun y541 => (bif_b some_b (bind_b fun y542 => (bind_b fun y668 => some_b))))
  refine (stepG_is (nt := 62) (regs := [(0, rA tsGraph g_)])).trans ?_
  refine (pre2 (place_lots_r1 g_ _)).trans (bind_g fun y541 => ?_)
  refine .trans seq_push ?_
  refine (pre1 (place_lots_f1000003 g_ y541 _)).trans ?_
  refine (cond_e (b := (y541.2 != 0)) (st' := (S45_0 g_ y541)) ).trans (bif_g ?_ ?_)
  · refine (pre1 (place_lots_fz g_ y541 _)).trans ?_
    refine (ret_eq).trans ?_
    refine seqC_ret.trans ?_
    kernel_rfl
  · refine (skip_eq).trans ?_
    refine (seqC_normal (st' := (S45_1 g_ y541))).trans ?_
    refine (pre1 (place_lots_r4 g_ y541 _)).trans (bind_g fun y542 => ?_)
    refine (pre1 (place_lots_f6 y541 y542 _)).trans ?_
    refine .trans seq_push ?_
    refine (pre1 (place_lots_f7 y541 y542 _)).trans ?_
    refine (block_push (id := 0)).trans ?_
    refine (place_lots_l7 y541 y542 _).trans (bind_g fun y668 => ?_)
    refine block_same.trans ?_
    refine (seqC_normal (st' := (S45_17 y542 y668))).trans ?_
    refine (pre1 (place_lots_fzx3 y542 y668 _)).trans ?_
    refine (ret_eq).trans ?_
    kernel_rfl
noncomputable def cp43 : CallP := withC cp42 25 [(.agg tsGraph)] (.tup [(.one (.ow tsI4)), pI]) (fun y : ((List I4) × Int) => (y.1, y.2, ())) (fun x => place_lots x.1)
theorem cp43_ok : PureOK E cp43 := conO eok cp42_ok ce3_ok fun x => Eq.mp (by kernel_rfl) (place_lots_is x.1)
end
end Go.V.P
