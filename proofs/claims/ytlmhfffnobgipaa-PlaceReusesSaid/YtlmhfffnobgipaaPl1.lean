/- What functions compute. -/
import Derived.Test.YtlmhfffnobgipaaPl0
namespace Go.V.P
open Go.RowKit Go.V Go.Proofs
set_option linter.unusedVariables false
set_option maxRecDepth 100000
noncomputable abbrev C13 := codeOf E.P 52
noncomputable abbrev P13 {α : Type} := @preK α E 52 cp13 noE
theorem graph_Value_2_r1 {α : Type} (v_ : I4) (k : St → Option α) : P13 2 C13 ⟨[(0, rA tsI4 v_)], [], [], 7⟩ k = Option.bind (shape_May (v_.1, v_.2.1, v_.2.2.1)) fun y223 : Int => k ⟨[(2, rb (y223 != 0))], [], [], 7⟩ := by kernel_rfl
/-- quilt/graph.Value$2 -/
def graph_Value_2 (v_ : I4) : Option Bool := (Option.bind (shape_May (v_.1, v_.2.1, v_.2.2.1)) (fun y223 : Int => (some (y223 != 0))))
theorem graph_Value_2_is (v_ : I4) : stepS E cp13 noE 52 [rA tsI4 v_] = Option.bind (graph_Value_2 v_) (fun y : Bool => some (rb y : R)) := by
  refine .trans ?_ (bind_b fun y223 => some_b)
  refine (stepG_is (nt := 7) (regs := [(0, rA tsI4 v_)])).trans ?_
  refine (pre2 (graph_Value_2_r1 v_ _)).trans (bind_g fun y223 => ?_)
  refine (ret_eq).trans ?_
  kernel_rfl
noncomputable def cp14 : CallP := withC cp13 52 [(.agg tsI4)] (.one pB) (fun y : Bool => y) (fun x => graph_Value_2 x.1)
theorem cp14_ok : PureOK E cp14 := conS eok cp13_ok noE_ok fun x => Eq.mp (by kernel_rfl) (graph_Value_2_is x.1)
section
variable {α : Type} (s_ : (List I4)) (s240 : Int) (k : St → Option α) (q : Kont α)
noncomputable abbrev C14 := codeOf E.P 70
noncomputable abbrev P14 := @preK α E 70 cp14 noE
noncomputable abbrev R14 := @runCode α E 70 cp14 noE
abbrev S14_0 : St := ⟨[(0, rl tsI4 s_), (1, .one (.fn 52 []))], [], [], 19⟩
theorem slices_IndexFuncapi_Value_api_Value_s2_f1 : P14 1 C14 (S14_0 s_) k = k (S14_0 s_) := by kernel_rfl
abbrev S14_1 : St := ⟨[(0, rl tsI4 s_), (1, .one (.fn 52 [])), (7, ri (s_.length : Int)), (8, ri 0)], [], [], 19⟩
theorem slices_IndexFuncapi_Value_api_Value_s2_f2 : P14 1 C14.r.l (S14_0 s_) k = k (S14_1 s_) := by kernel_rfl
abbrev S14_2 : St := ⟨[(0, rl tsI4 s_), (1, .one (.fn 52 [])), (7, ri (s_.length : Int)), (8, ri s240)], [], [], 19⟩
theorem slices_IndexFuncapi_Value_api_Value_s2_fz : P14 1 C14.r.l.r.b.b (S14_2 s_ s240) k = k ⟨[(0, rl tsI4 s_), (1, .one (.fn 52 [])), (7, ri (s_.length : Int)), (8, ri s240), (9, rb (decide (s240 < (s_.length : Int))))], [], [], 19⟩ := by kernel_rfl
def slices_IndexFuncapi_Value_api_Value_s2_r4_p : Option Bool := (bif (decide ((0 : Int) ≤ s240)) then (bif (decide (s240 < (s_.length : Int))) then (Option.bind (graph_Value_2 (gt s_ s240 dI4)) (fun y243 : Bool => (some y243))) else none) else none)
theorem slices_IndexFuncapi_Value_api_Value_s2_r4 : P14 2 C14.r.l.r.b.b.r.r.l.b (S14_2 s_ s240) k = Option.bind (slices_IndexFuncapi_Value_api_Value_s2_r4_p s_ s240) (fun y244 : Bool => k ⟨[(0, rl tsI4 s_), (1, .one (.fn 52 [])), (5, ri s240), (7, ri (s_.length : Int)), (8, ri s240), (16, rb y244)], [], [], 19⟩) := .trans (by kernel_rfl) (bif_b (bif_b (bind_b fun y243 => some_b) none_b) none_b)
abbrev S14_3 : St := ⟨[(0, rl tsI4 s_), (1, .one (.fn 52 [])), (5, ri s240), (7, ri (s_.length : Int)), (8, ri s240)], [], [], 19⟩
theorem slices_IndexFuncapi_Value_api_Value_s2_fzx1 : P14 1 C14.r.l.r.b.b.r.r.l.b.r.r.t (S14_3 s_ s240) k = k ⟨[(4, ri s240)], [], [], 19⟩ := by kernel_rfl
theorem slices_IndexFuncapi_Value_api_Value_s2_r6 : R14 C14.r.l.r.b.b.r.r.r (S14_2 s_ s240) q = q .normal ⟨[(0, rl tsI4 s_), (1, .one (.fn 52 [])), (7, ri (s_.length : Int)), (8, ri (IntKind.wrap .i64 (s240 + 1)))], [], [], 19⟩ := by kernel_rfl
def slices_IndexFuncapi_Value_api_Value_s2_l2_p : Option (Int ⊕ (Int ⊕ Int)) := (bif (decide (s240 < (s_.length : Int))) then (Option.bind (slices_IndexFuncapi_Value_api_Value_s2_r4_p s_ s240) (fun y244 : Bool => (bif y244 then (some (Sum.inr (Sum.inr s240))) else (some (Sum.inl (IntKind.wrap .i64 (s240 + 1))))))) else (some (Sum.inr (Sum.inl s240))))
abbrev S14_4 (y245 : Int) : St := ⟨[(0, rl tsI4 s_), (1, .one (.fn 52 [])), (7, ri (s_.length : Int)), (8, ri y245)], [], [], 19⟩
theorem slices_IndexFuncapi_Value_api_Value_s2_l2_b : R14 C14.r.l.r.b.b (S14_2 s_ s240) (loopKont 0 q) = Option.bind (slices_IndexFuncapi_Value_api_Value_s2_l2_p s_ s240) (either (fun y : Int => q .normal ⟨[(0, rl tsI4 s_), (1, .one (.fn 52 [])), (7, ri (s_.length : Int)), (8, ri y)], [], [], 19⟩) (either (fun y245 : Int => q (.exit 0) (S14_4 s_ y245)) (fun y246 : Int => q .ret ⟨[(4, ri y246)], [], [], 19⟩))) := by
  refine .trans ?_ (bif_b (bind_b fun y244 => (bif_b e3_2 e3_0)) e3_1)
  refine (pre1 (slices_IndexFuncapi_Value_api_Value_s2_fz s_ s240 _)).trans ?_
  refine .trans seq_push ?_
  refine (cond_e (b := (decide (s240 < (s_.length : Int)))) (st' := (S14_2 s_ s240)) ).trans (bif_g ?_ ?_)
  · refine (skip_eq).trans ?_
    refine (seqC_normal (st' := (S14_2 s_ s240))).trans ?_
    refine .trans seq_push ?_
    refine (block_push (id := 1)).trans ?_
    refine (pre2 (slices_IndexFuncapi_Value_api_Value_s2_r4 s_ s240 _)).trans (bind_g fun y244 => ?_)
    refine (cond_e (b := y244) (st' := (S14_3 s_ s240)) ).trans (bif_g ?_ ?_)
    · refine (pre1 (slices_IndexFuncapi_Value_api_Value_s2_fzx1 s_ s240 _)).trans ?_
      refine (ret_eq).trans ?_
      refine block_ret.trans ?_
      refine seqC_ret.trans ?_
      kernel_rfl
    · refine (skip_eq).trans ?_
      refine block_normal.trans ?_
      refine (seqC_normal (st' := (S14_2 s_ s240))).trans ?_
      refine (slices_IndexFuncapi_Value_api_Value_s2_r6 s_ s240 _).trans ?_
      kernel_rfl
  · refine ((exit_eq (j := 0))).trans ?_
    refine seqC_exit.trans ?_
    kernel_rfl
theorem slices_IndexFuncapi_Value_api_Value_s2_l2 : R14 C14.r.l.r.b (S14_1 s_) q = Option.bind (iterN (slices_IndexFuncapi_Value_api_Value_s2_l2_p s_) LL (0 : Int)) (either (fun y245 : Int => q (.exit 0) (S14_4 s_ y245)) (fun y246 : Int => q .ret ⟨[(4, ri y246)], [], [], 19⟩)) :=
  Eq.trans (by kernel_rfl) (loop_iter2 (S := fun s240 : Int => (S14_2 s_ s240)) (Y1 := fun y245 : Int => ((.exit 0), (S14_4 s_ y245))) (Y2 := fun y246 : Int => (.ret, ⟨[(4, ri y246)], [], [], 19⟩)) (fun s q => slices_IndexFuncapi_Value_api_Value_s2_l2_b s_ s q) (fun z => rfl) (fun z => rfl) LL (0 : Int))
theorem slices_IndexFuncapi_Value_api_Value_s2_fzx2 : P14 1 C14.r.r ⟨[], [], [], 19⟩ k = k ⟨[(4, ri (-1 : Int))], [], [], 19⟩ := by kernel_rfl
/-- slices.IndexFunc[[]quilt/api.Value,quilt/api.Value] -/
def slices_IndexFuncapi_Value_api_Value_s2 : Option Int := (Option.bind (iterN (slices_IndexFuncapi_Value_api_Value_s2_l2_p s_) LL (0 : Int)) (either (fun y245 : Int => (some (-1 : Int))) (fun y246 : Int => (some y246))))
theorem slices_IndexFuncapi_Value_api_Value_s2_is : stepS E cp14 noE 70 [rl tsI4 s_, .one (.fn 52 [])] = Option.bind (slices_IndexFuncapi_Value_api_Value_s2 s_) (fun y : Int => some (ri y : R)) := by
  refine .trans ?_ (bind_b (either_b (fun y245 => some_b) (fun y246 => some_b)))
  refine (stepG_is (nt := 19) (regs := [(0, rl tsI4 s_), (1, .one (.fn 52 []))])).trans ?_
  refine (pre1 (slices_IndexFuncapi_Value_api_Value_s2_f1 s_ _)).trans ?_
  refine .trans seq_push ?_
  refine (pre1 (slices_IndexFuncapi_Value_api_Value_s2_f2 s_ _)).trans ?_
  refine (block_push (id := 0)).trans ?_
  refine (slices_IndexFuncapi_Value_api_Value_s2_l2 s_ _).trans (bind_g (either_g (fun y245 => ?_) (fun y246 => ?_)))
  · refine block_same.trans ?_
    refine (seqC_normal (st' := ⟨[], [], [], 19⟩)).trans ?_
    refine (pre1 (slices_IndexFuncapi_Value_api_Value_s2_fzx2 _)).trans ?_
    refine (ret_eq).trans ?_
    kernel_rfl
  · refine block_ret.trans ?_
    refine seqC_ret.trans ?_
    kernel_rfl
noncomputable def cp15 : CallP := withC cp14 70 [(pL tsI4), (.one (.fn 52 .nil))] (.one pI) (fun y : Int => y) (fun x => slices_IndexFuncapi_Value_api_Value_s2 x.1)
theorem cp15_ok : PureOK E cp15 := conS eok cp14_ok noE_ok fun x => Eq.mp (by kernel_rfl) (slices_IndexFuncapi_Value_api_Value_s2_is x.1)
end
noncomputable abbrev C15 := codeOf E.P 50
noncomputable abbrev P15 {α : Type} := @preK α E 50 cp15 noE
theorem slices_ContainsFuncapi_Value_api_Value_s2_r1 {α : Type} (s_ : (List I4)) (k : St → Option α) : P15 2 C15 ⟨[(0, rl tsI4 s_), (1, .one (.fn 52 []))], [], [], 9⟩ k = Option.bind (slices_IndexFuncapi_Value_api_Value_s2 s_) fun y247 : Int => k ⟨[(4, rb (decide (y247 ≥ 0)))], [], [], 9⟩ := by kernel_rfl
/-- slices.ContainsFunc[[]quilt/api.Value,quilt/api.Value] -/
def slices_ContainsFuncapi_Value_api_Value_s2 (s_ : (List I4)) : Option Bool := (Option.bind (slices_IndexFuncapi_Value_api_Value_s2 s_) (fun y247 : Int => (some (decide (y247 ≥ 0)))))
theorem slices_ContainsFuncapi_Value_api_Value_s2_is (s_ : (List I4)) : stepS E cp15 noE 50 [rl tsI4 s_, .one (.fn 52 [])] = Option.bind (slices_ContainsFuncapi_Value_api_Value_s2 s_) (fun y : Bool => some (rb y : R)) := by
  refine .trans ?_ (bind_b fun y247 => some_b)
  refine (stepG_is (nt := 9) (regs := [(0, rl tsI4 s_), (1, .one (.fn 52 []))])).trans ?_
  refine (pre2 (slices_ContainsFuncapi_Value_api_Value_s2_r1 s_ _)).trans (bind_g fun y247 => ?_)
  refine (ret_eq).trans ?_
  kernel_rfl
noncomputable def cp16 : CallP := withC cp15 50 [(pL tsI4), (.one (.fn 52 .nil))] (.one pB) (fun y : Bool => y) (fun x => slices_ContainsFuncapi_Value_api_Value_s2 x.1)
theorem cp16_ok : PureOK E cp16 := conS eok cp15_ok noE_ok fun x => Eq.mp (by kernel_rfl) (slices_ContainsFuncapi_Value_api_Value_s2_is x.1)
section
variable {α β : Type} (a0 : Node) (a_ : I3) (a2 : I3) (k : St → Option α)
noncomputable abbrev C16 := codeOf E.P 56
noncomputable abbrev P16 := @preK α E 56 cp16 noE
theorem graph_first_fz : P16 2 C16 ⟨[(0, rA tsNode a0), (1, rA tsI3 a_), (2, rA tsI3 a2)], [], [], 8⟩ k = k ⟨[(6, rF 0)], [(tsI3.leaves a_)], [], 8⟩ := by kernel_rfl
/-- quilt/graph.first -/
def graph_first_q {β : Type} (a0 : Node) (a_ : I3) (a2 : I3) (K : I3 → β) : β := (K a_)
def graph_first : I3 := graph_first_q a0 a_ a2 (fun y => y)
theorem graph_first_n (K : I3 → β) : graph_first_q a0 a_ a2 K = K (graph_first a0 a_ a2) := rfl
theorem graph_first_is : stepS E cp16 noE 56 [rA tsNode a0, rA tsI3 a_, rA tsI3 a2] = (fun y : I3 => some (rA tsI3 y : R)) (graph_first a0 a_ a2) := by
  refine Eq.trans ?_ (graph_first_n a0 a_ a2 (fun y : I3 => some (rA tsI3 y : R)))
  refine (stepG_is (nt := 8) (regs := [(0, rA tsNode a0), (1, rA tsI3 a_), (2, rA tsI3 a2)])).trans ?_
  unfold graph_first_q
  refine (pre2 (graph_first_fz a0 a_ a2 _)).trans ?_
  refine (ret_eq).trans ?_
  kernel_rfl
noncomputable def cp17 : CallP := withC cp16 56 [(.agg tsNode), (.agg tsI3), (.agg tsI3)] (.one (.agg tsI3)) (fun y : I3 => y) (fun x => some (graph_first x.1 x.2.1 x.2.2.1))
theorem cp17_ok : PureOK E cp17 := conS eok cp16_ok noE_ok fun x => Eq.mp (by kernel_rfl) (graph_first_is x.1 x.2.1 x.2.2.1)
end
section
variable {α : Type} (size : Int) (k_ : Int) (stride : Int) (pad : Int) (k : St → Option α)
noncomputable abbrev C17 := codeOf E.P 73
noncomputable abbrev P17 := @preK α E 73 cp17 noE
abbrev S17_0 : St := ⟨[(0, ri size), (1, ri k_), (2, ri stride), (3, ri pad)], [], [], 46⟩
theorem shape_Out_f1 : P17 1 C17 (S17_0 size k_ stride pad) k = k (S17_0 size k_ stride pad) := by kernel_rfl
def shape_Out_r1_p : Option Bool := (Option.bind (shape_within_1 [size] (((shape_within (1 : Int) (64 : Int)).1).1) (((shape_within (1 : Int) (64 : Int)).2.1).1)) (fun y256 : Bool => (bif (!y256) then (some true) else (Option.bind (shape_within_1 [k_, stride] (((shape_within (1 : Int) (16 : Int)).1).1) (((shape_within (1 : Int) (16 : Int)).2.1).1)) (fun y257 : Bool => (bif (!y257) then (some true) else (Option.bind (shape_within_1 [pad] (((shape_within (0 : Int) (16 : Int)).1).1) (((shape_within (0 : Int) (16 : Int)).2.1).1)) (fun y258 : Bool => (bif (!y258) then (some true) else (some (decide (k_ > (IntKind.wrap .i64 (size + (IntKind.wrap .i64 ((2 : Int) * pad))))))))))))))))
theorem shape_Out_r1 : P17 1 C17.r.l (S17_0 size k_ stride pad) k = Option.bind (shape_Out_r1_p size k_ stride pad) (fun y259 : Bool => k ⟨[(0, ri size), (1, ri k_), (2, ri stride), (3, ri pad), (36, rb y259)], [], [], 46⟩) := .trans (by kernel_rfl) (bind_b fun y256 => (bif_b some_b (bind_b fun y257 => (bif_b some_b (bind_b fun y258 => (bif_b some_b some_b))))))
theorem shape_Out_fz : P17 1 C17.r.l.r.t (S17_0 size k_ stride pad) k = k ⟨[(8, ri 0)], [], [], 46⟩ := by kernel_rfl
def shape_Out_r3_p : Option Int := (bif (stride == 0) then none else (some (IntKind.wrap .i64 ((1 : Int) + (IntKind.wrap .i64 (Int.tdiv (IntKind.wrap .i64 ((IntKind.wrap .i64 (size + (IntKind.wrap .i64 ((2 : Int) * pad)))) - k_)) stride))))))
theorem shape_Out_r3 : P17 1 C17.r.r (S17_0 size k_ stride pad) k = Option.bind (shape_Out_r3_p size k_ stride pad) (fun y260 : Int => k ⟨[(8, ri y260)], [], [], 46⟩) := .trans (by kernel_rfl) (bif_b none_b some_b)
/-- quilt/shape.Out -/
def shape_Out : Option Int := (Option.bind (shape_Out_r1_p size k_ stride pad) (fun y259 : Bool => (bif y259 then (some (0 : Int)) else (Option.bind (shape_Out_r3_p size k_ stride pad) (fun y260 : Int => (some y260))))))
theorem shape_Out_is : stepS E cp17 noE 73 [ri size, ri k_, ri stride, ri pad] = Option.bind (shape_Out size k_ stride pad) (fun y : Int => some (ri y : R)) := by
  refine .trans ?_ (bind_b fun y259 => (bif_b some_b (bind_b fun y260 => some_b)))
  refine (stepG_is (nt := 46) (regs := [(0, ri size), (1, ri k_), (2, ri stride), (3, ri pad)])).trans ?_
  refine (pre1 (shape_Out_f1 size k_ stride pad _)).trans ?_
  refine .trans seq_push ?_
  refine (pre1 (shape_Out_r1 size k_ stride pad _)).trans (bind_g fun y259 => ?_)
  refine (cond_e (b := y259) (st' := (S17_0 size k_ stride pad)) ).trans (bif_g ?_ ?_)
  · refine (pre1 (shape_Out_fz size k_ stride pad _)).trans ?_
    refine (ret_eq).trans ?_
    refine seqC_ret.trans ?_
    kernel_rfl
  · refine (skip_eq).trans ?_
    refine (seqC_normal (st' := (S17_0 size k_ stride pad))).trans ?_
    refine (pre1 (shape_Out_r3 size k_ stride pad _)).trans (bind_g fun y260 => ?_)
    refine (ret_eq).trans ?_
    kernel_rfl
noncomputable def cp18 : CallP := withC cp17 73 [pI, pI, pI, pI] (.one pI) (fun y : Int => y) (fun x => shape_Out x.1 x.2.1 x.2.2.1 x.2.2.2.1)
theorem cp18_ok : PureOK E cp18 := conS eok cp17_ok noE_ok fun x => Eq.mp (by kernel_rfl) (shape_Out_is x.1 x.2.1 x.2.2.1 x.2.2.2.1)
end
section
variable {α : Type} (n_ : Node) (s_ : I3) (c_ : Int) (k : St → Option α)
noncomputable abbrev C18 := codeOf E.P 59
noncomputable abbrev P18 := @preK α E 59 cp18 noE
def graph_slid_r1_p : Option (Int × Int) := (Option.bind (shape_Out s_.1 n_.2.2.1 n_.2.2.2.1 n_.2.2.2.2.1) (fun y261 : Int => (Option.bind (shape_Out s_.2.1 n_.2.2.1 n_.2.2.2.1 n_.2.2.2.2.1) (fun y262 : Int => (some (y261, y262))))))
theorem graph_slid_r1 : P18 2 C18 ⟨[(0, rA tsNode n_), (1, rA tsI3 s_), (2, ri c_)], [], [], 27⟩ k = Option.bind (graph_slid_r1_p n_ s_) (fun y263 : (Int × Int) => k ⟨[(6, rF 0)], [[di y263.1, di y263.2, di c_]], [], 27⟩) := .trans (by kernel_rfl) (bind_b fun y261 => (bind_b fun y262 => some_b))
/-- quilt/graph.slid -/
def graph_slid : Option I3 := (Option.bind (graph_slid_r1_p n_ s_) (fun y263 : (Int × Int) => (some (y263.1, y263.2, c_))))
theorem graph_slid_is : stepS E cp18 noE 59 [rA tsNode n_, rA tsI3 s_, ri c_] = Option.bind (graph_slid n_ s_ c_) (fun y : I3 => some (rA tsI3 y : R)) := by
  refine .trans ?_ (bind_b fun y263 => some_b)
  refine (stepG_is (nt := 27) (regs := [(0, rA tsNode n_), (1, rA tsI3 s_), (2, ri c_)])).trans ?_
  refine (pre2 (graph_slid_r1 n_ s_ c_ _)).trans (bind_g fun y263 => ?_)
  refine (ret_eq).trans ?_
  kernel_rfl
noncomputable def cp19 : CallP := withC cp18 59 [(.agg tsNode), (.agg tsI3), pI] (.one (.agg tsI3)) (fun y : I3 => y) (fun x => graph_slid x.1 x.2.1 x.2.2.1)
theorem cp19_ok : PureOK E cp19 := conS eok cp18_ok noE_ok fun x => Eq.mp (by kernel_rfl) (graph_slid_is x.1 x.2.1 x.2.2.1)
end
section
variable {α : Type} (n_ : Node) (a_ : I3) (a2 : I3) (k : St → Option α)
noncomputable abbrev C19 := codeOf E.P 58
noncomputable abbrev P19 := @preK α E 58 cp19 noE
theorem graph_of_1_r1 : P19 2 C19 ⟨[(0, rA tsNode n_), (1, rA tsI3 a_), (2, rA tsI3 a2)], [], [], 12⟩ k = Option.bind (graph_slid n_ a_ n_.2.2.2.2.2.1) fun y264 : I3 => k ⟨[(6, rF 0)], [(tsI3.leaves y264)], [], 12⟩ := by kernel_rfl
/-- quilt/graph.of$1 -/
def graph_of_1 (n_ : Node) (a_ : I3) (a2 : I3) : Option I3 := (Option.bind (graph_slid n_ a_ n_.2.2.2.2.2.1) (fun y264 : I3 => (some y264)))
theorem graph_of_1_is : stepS E cp19 noE 58 [rA tsNode n_, rA tsI3 a_, rA tsI3 a2] = Option.bind (graph_of_1 n_ a_ a2) (fun y : I3 => some (rA tsI3 y : R)) := by
  refine .trans ?_ (bind_b fun y264 => some_b)
  refine (stepG_is (nt := 12) (regs := [(0, rA tsNode n_), (1, rA tsI3 a_), (2, rA tsI3 a2)])).trans ?_
  refine (pre2 (graph_of_1_r1 n_ a_ a2 _)).trans (bind_g fun y264 => ?_)
  refine (ret_eq).trans ?_
  kernel_rfl
noncomputable def cp20 : CallP := withC cp19 58 [(.agg tsNode), (.agg tsI3), (.agg tsI3)] (.one (.agg tsI3)) (fun y : I3 => y) (fun x => graph_of_1 x.1 x.2.1 x.2.2.1)
theorem cp20_ok : PureOK E cp20 := conS eok cp19_ok noE_ok fun x => Eq.mp (by kernel_rfl) (graph_of_1_is x.1 x.2.1 x.2.2.1)
end
section
variable {α : Type} (n_ : Node) (a_ : I3) (a2 : I3) (k : St → Option α)
noncomputable abbrev C20 := codeOf E.P 61
noncomputable abbrev P20 := @preK α E 61 cp20 noE
theorem graph_pooled_r1 : P20 2 C20 ⟨[(0, rA tsNode n_), (1, rA tsI3 a_), (2, rA tsI3 a2)], [], [], 12⟩ k = Option.bind (graph_slid n_ a_ a_.2.2) fun y267 : I3 => k ⟨[(6, rF 0)], [(tsI3.leaves y267)], [], 12⟩ := by kernel_rfl
/-- quilt/graph.pooled -/
def graph_pooled (n_ : Node) (a_ : I3) (a2 : I3) : Option I3 := (Option.bind (graph_slid n_ a_ a_.2.2) (fun y267 : I3 => (some y267)))
theorem graph_pooled_is : stepS E cp20 noE 61 [rA tsNode n_, rA tsI3 a_, rA tsI3 a2] = Option.bind (graph_pooled n_ a_ a2) (fun y : I3 => some (rA tsI3 y : R)) := by
  refine .trans ?_ (bind_b fun y267 => some_b)
  refine (stepG_is (nt := 12) (regs := [(0, rA tsNode n_), (1, rA tsI3 a_), (2, rA tsI3 a2)])).trans ?_
  refine (pre2 (graph_pooled_r1 n_ a_ a2 _)).trans (bind_g fun y267 => ?_)
  refine (ret_eq).trans ?_
  kernel_rfl
noncomputable def cp21 : CallP := withC cp20 61 [(.agg tsNode), (.agg tsI3), (.agg tsI3)] (.one (.agg tsI3)) (fun y : I3 => y) (fun x => graph_pooled x.1 x.2.1 x.2.2.1)
theorem cp21_ok : PureOK E cp21 := conS eok cp20_ok noE_ok fun x => Eq.mp (by kernel_rfl) (graph_pooled_is x.1 x.2.1 x.2.2.1)
end
section
variable {α β : Type} (n_ : Node) (a1 : I3) (a2 : I3) (k : St → Option α)
noncomputable abbrev C21 := codeOf E.P 63
noncomputable abbrev P21 := @preK α E 63 cp21 noE
theorem graph_of_4_fz : P21 2 C21 ⟨[(0, rA tsNode n_), (1, rA tsI3 a1), (2, rA tsI3 a2)], [], [], 10⟩ k = k ⟨[(6, rF 0)], [[di 1, di 1, di n_.2.2.2.2.2.1]], [], 10⟩ := by kernel_rfl
/-- quilt/graph.of$4 -/
def graph_of_4_q {β : Type} (n_ : Node) (a1 : I3) (a2 : I3) (K : I3 → β) : β := (K ((1 : Int), (1 : Int), n_.2.2.2.2.2.1))
def graph_of_4 : I3 := graph_of_4_q n_ a1 a2 (fun y => y)
theorem graph_of_4_n (K : I3 → β) : graph_of_4_q n_ a1 a2 K = K (graph_of_4 n_ a1 a2) := rfl
theorem graph_of_4_is : stepS E cp21 noE 63 [rA tsNode n_, rA tsI3 a1, rA tsI3 a2] = (fun y : I3 => some (rA tsI3 y : R)) (graph_of_4 n_ a1 a2) := by
  refine Eq.trans ?_ (graph_of_4_n n_ a1 a2 (fun y : I3 => some (rA tsI3 y : R)))
  refine (stepG_is (nt := 10) (regs := [(0, rA tsNode n_), (1, rA tsI3 a1), (2, rA tsI3 a2)])).trans ?_
  unfold graph_of_4_q
  refine (pre2 (graph_of_4_fz n_ a1 a2 _)).trans ?_
  refine (ret_eq).trans ?_
  kernel_rfl
noncomputable def cp22 : CallP := withC cp21 63 [(.agg tsNode), (.agg tsI3), (.agg tsI3)] (.one (.agg tsI3)) (fun y : I3 => y) (fun x => some (graph_of_4 x.1 x.2.1 x.2.2.1))
theorem cp22_ok : PureOK E cp22 := conS eok cp21_ok noE_ok fun x => Eq.mp (by kernel_rfl) (graph_of_4_is x.1 x.2.1 x.2.2.1)
end
section
variable {α β : Type} (a0 : Node) (a_ : I3) (b_ : I3) (k : St → Option α)
noncomputable abbrev C22 := codeOf E.P 65
noncomputable abbrev P22 := @preK α E 65 cp22 noE
abbrev S22_0 : St := ⟨[(4, rC tsI3 a_), (5, rC tsI3 b_), (6, rF 0)], [[di 0, di 0, di 0]], [], 12⟩
theorem graph_same_f1 : P22 1 C22 ⟨[(0, rA tsNode a0), (1, rA tsI3 a_), (2, rA tsI3 b_)], [], [], 12⟩ k = k (S22_0 a_ b_) := by kernel_rfl
theorem graph_same_f1000002 : P22 1 C22.r.l (S22_0 a_ b_) k = k ⟨[(4, rC tsI3 a_), (6, rF 0), (9, rb (!((a_.1 == b_.1) && ((a_.2.1 == b_.2.1) && ((a_.2.2 == b_.2.2) && true)))))], [[di 0, di 0, di 0]], [], 12⟩ := by kernel_rfl
abbrev S22_1 : St := ⟨[(4, rC tsI3 a_), (6, rF 0)], [[di 0, di 0, di 0]], [], 12⟩
theorem graph_same_fz : P22 1 C22.r.l.r.t (S22_1 a_) k = k ⟨[(6, rF 0)], [[di 0, di 0, di 0]], [], 12⟩ := by kernel_rfl
theorem graph_same_fzx1 : P22 1 C22.r.r (S22_1 a_) k = k ⟨[(6, rF 0)], [(tsI3.leaves a_)], [], 12⟩ := by kernel_rfl
/-- quilt/graph.same -/
def graph_same_q {β : Type} (a0 : Node) (a_ : I3) (b_ : I3) (K : I3 → β) : β := (bif (!((a_.1 == b_.1) && ((a_.2.1 == b_.2.1) && ((a_.2.2 == b_.2.2) && true)))) then (K ((0 : Int), (0 : Int), (0 : Int))) else (K a_))
def graph_same : I3 := graph_same_q a0 a_ b_ (fun y => y)
theorem graph_same_n (K : I3 → β) : graph_same_q a0 a_ b_ K = K (graph_same a0 a_ b_) := (bif_k K rfl rfl)
theorem graph_same_is : stepS E cp22 noE 65 [rA tsNode a0, rA tsI3 a_, rA tsI3 b_] = (fun y : I3 => some (rA tsI3 y : R)) (graph_same a0 a_ b_) := by
  refine Eq.trans ?_ (graph_same_n a0 a_ b_ (fun y : I3 => some (rA tsI3 y : R)))
  refine (stepG_is (nt := 12) (regs := [(0, rA tsNode a0), (1, rA tsI3 a_), (2, rA tsI3 b_)])).trans ?_
  unfold graph_same_q
  refine (pre1 (graph_same_f1 a0 a_ b_ _)).trans ?_
  refine .trans seq_push ?_
  refine (pre1 (graph_same_f1000002 a_ b_ _)).trans ?_
  refine (cond_e (b := (!((a_.1 == b_.1) && ((a_.2.1 == b_.2.1) && ((a_.2.2 == b_.2.2) && true))))) (st' := (S22_1 a_)) ).trans (bif_g ?_ ?_)
  · refine (pre1 (graph_same_fz a_ _)).trans ?_
    refine (ret_eq).trans ?_
    refine seqC_ret.trans ?_
    kernel_rfl
  · refine (skip_eq).trans ?_
    refine (seqC_normal (st' := (S22_1 a_))).trans ?_
    refine (pre1 (graph_same_fzx1 a_ _)).trans ?_
    refine (ret_eq).trans ?_
    kernel_rfl
noncomputable def cp23 : CallP := withC cp22 65 [(.agg tsNode), (.agg tsI3), (.agg tsI3)] (.one (.agg tsI3)) (fun y : I3 => y) (fun x => some (graph_same x.1 x.2.1 x.2.2.1))
theorem cp23_ok : PureOK E cp23 := conS eok cp22_ok noE_ok fun x => Eq.mp (by kernel_rfl) (graph_same_is x.1 x.2.1 x.2.2.1)
end
section
variable {α β : Type} (a0 : Node) (a_ : I3) (a2 : I3) (k : St → Option α)
noncomputable abbrev C23 := codeOf E.P 66
noncomputable abbrev P23 := @preK α E 66 cp23 noE
theorem graph_of_6_fz : P23 2 C23 ⟨[(0, rA tsNode a0), (1, rA tsI3 a_), (2, rA tsI3 a2)], [], [], 16⟩ k = k ⟨[(6, rF 0)], [[di (IntKind.wrap .i64 (a_.1 + 2)), di (IntKind.wrap .i64 (a_.2.1 + 2)), di a_.2.2]], [], 16⟩ := by kernel_rfl
/-- quilt/graph.of$6 -/
def graph_of_6_q {β : Type} (a0 : Node) (a_ : I3) (a2 : I3) (K : I3 → β) : β := (K ((IntKind.wrap .i64 (a_.1 + 2)), (IntKind.wrap .i64 (a_.2.1 + 2)), a_.2.2))
def graph_of_6 : I3 := graph_of_6_q a0 a_ a2 (fun y => y)
theorem graph_of_6_n (K : I3 → β) : graph_of_6_q a0 a_ a2 K = K (graph_of_6 a0 a_ a2) := rfl
theorem graph_of_6_is : stepS E cp23 noE 66 [rA tsNode a0, rA tsI3 a_, rA tsI3 a2] = (fun y : I3 => some (rA tsI3 y : R)) (graph_of_6 a0 a_ a2) := by
  refine Eq.trans ?_ (graph_of_6_n a0 a_ a2 (fun y : I3 => some (rA tsI3 y : R)))
  refine (stepG_is (nt := 16) (regs := [(0, rA tsNode a0), (1, rA tsI3 a_), (2, rA tsI3 a2)])).trans ?_
  unfold graph_of_6_q
  refine (pre2 (graph_of_6_fz a0 a_ a2 _)).trans ?_
  refine (ret_eq).trans ?_
  kernel_rfl
noncomputable def cp24 : CallP := withC cp23 66 [(.agg tsNode), (.agg tsI3), (.agg tsI3)] (.one (.agg tsI3)) (fun y : I3 => y) (fun x => some (graph_of_6 x.1 x.2.1 x.2.2.1))
theorem cp24_ok : PureOK E cp24 := conS eok cp23_ok noE_ok fun x => Eq.mp (by kernel_rfl) (graph_of_6_is x.1 x.2.1 x.2.2.1)
end
section
variable {α β : Type} (a0 : Node) (a_ : I3) (b_ : I3) (k : St → Option α)
noncomputable abbrev C24 := codeOf E.P 67
noncomputable abbrev P24 := @preK α E 67 cp24 noE
abbrev S24_0 : St := ⟨[(4, rC tsI3 a_), (5, rC tsI3 b_), (6, rF 0)], [[di 0, di 0, di 0]], [], 30⟩
theorem graph_beside_f1 : P24 1 C24 ⟨[(0, rA tsNode a0), (1, rA tsI3 a_), (2, rA tsI3 b_)], [], [], 30⟩ k = k (S24_0 a_ b_) := by kernel_rfl
def graph_beside_r1_q (K : Bool → β) : β := (bif (a_.1 != b_.1) then (K true) else (K (a_.2.1 != b_.2.1)))
def graph_beside_r1_p : Bool := graph_beside_r1_q a_ b_ (fun y => y)
theorem graph_beside_r1_n (K : Bool → β) : graph_beside_r1_q a_ b_ K = K (graph_beside_r1_p a_ b_) := (bif_k K rfl rfl)
theorem graph_beside_r1 : P24 1 C24.r.l (S24_0 a_ b_) k = k ⟨[(4, rC tsI3 a_), (5, rC tsI3 b_), (6, rF 0), (18, rb (graph_beside_r1_p a_ b_))], [[di 0, di 0, di 0]], [], 30⟩ := Eq.trans (by kernel_rfl) (graph_beside_r1_n a_ b_ (fun y274 : Bool => k ⟨[(4, rC tsI3 a_), (5, rC tsI3 b_), (6, rF 0), (18, rb y274)], [[di 0, di 0, di 0]], [], 30⟩))
theorem graph_beside_fz : P24 1 C24.r.l.r.t (S24_0 a_ b_) k = k ⟨[(6, rF 0)], [[di 0, di 0, di 0]], [], 30⟩ := by kernel_rfl
theorem graph_beside_fzx1 : P24 1 C24.r.r (S24_0 a_ b_) k = k ⟨[(6, rF 0)], [[di a_.1, di a_.2.1, di (IntKind.wrap .i64 (a_.2.2 + b_.2.2))]], [], 30⟩ := by kernel_rfl
/-- quilt/graph.beside -/
def graph_beside_q {β : Type} (a0 : Node) (a_ : I3) (b_ : I3) (K : I3 → β) : β := (bif (graph_beside_r1_p a_ b_) then (K ((0 : Int), (0 : Int), (0 : Int))) else (K (a_.1, a_.2.1, (IntKind.wrap .i64 (a_.2.2 + b_.2.2)))))
def graph_beside : I3 := graph_beside_q a0 a_ b_ (fun y => y)
theorem graph_beside_n (K : I3 → β) : graph_beside_q a0 a_ b_ K = K (graph_beside a0 a_ b_) := (bif_k K rfl rfl)
theorem graph_beside_is : stepS E cp24 noE 67 [rA tsNode a0, rA tsI3 a_, rA tsI3 b_] = (fun y : I3 => some (rA tsI3 y : R)) (graph_beside a0 a_ b_) := by
  refine Eq.trans ?_ (graph_beside_n a0 a_ b_ (fun y : I3 => some (rA tsI3 y : R)))
  refine (stepG_is (nt := 30) (regs := [(0, rA tsNode a0), (1, rA tsI3 a_), (2, rA tsI3 b_)])).trans ?_
  unfold graph_beside_q
  refine (pre1 (graph_beside_f1 a0 a_ b_ _)).trans ?_
  refine .trans seq_push ?_
  refine (pre1 (graph_beside_r1 a_ b_ _)).trans ?_
  refine (cond_e (b := (graph_beside_r1_p a_ b_)) (st' := (S24_0 a_ b_)) ).trans (bif_g ?_ ?_)
  · refine (pre1 (graph_beside_fz a_ b_ _)).trans ?_
    refine (ret_eq).trans ?_
    refine seqC_ret.trans ?_
    kernel_rfl
  · refine (skip_eq).trans ?_
    refine (seqC_normal (st' := (S24_0 a_ b_))).trans ?_
    refine (pre1 (graph_beside_fzx1 a_ b_ _)).trans ?_
    refine (ret_eq).trans ?_
    kernel_rfl
noncomputable def cp25 : CallP := withC cp24 67 [(.agg tsNode), (.agg tsI3), (.agg tsI3)] (.one (.agg tsI3)) (fun y : I3 => y) (fun x => some (graph_beside x.1 x.2.1 x.2.2.1))
theorem cp25_ok : PureOK E cp25 := conS eok cp24_ok noE_ok fun x => Eq.mp (by kernel_rfl) (graph_beside_is x.1 x.2.1 x.2.2.1)
end
noncomputable abbrev C25 := codeOf E.P 42
noncomputable abbrev P25 {α : Type} := @preK α E 42 cp25 noE
abbrev S25_0 (s_ : I3) : St := ⟨[(1, rC tsI3 s_)], [], [], 11⟩
theorem shape_Row_f1 {α : Type} (s_ : I3) (k : St → Option α) : P25 1 C25 ⟨[(0, rA tsI3 s_)], [], [], 11⟩ k = k (S25_0 s_) := by kernel_rfl
theorem shape_Row_r1 {α : Type} (s_ : I3) (k : St → Option α) : P25 1 C25.r.l (S25_0 s_) k = Option.bind (shape_may s_) fun y277 : Bool => k ⟨[(1, rC tsI3 s_), (5, rb (!y277))], [], [], 11⟩ := by kernel_rfl
theorem shape_Row_fz {α : Type} (s_ : I3) (k : St → Option α) : P25 1 C25.r.l.r.t (S25_0 s_) k = k ⟨[(2, ri 0)], [], [], 11⟩ := by kernel_rfl
theorem shape_Row_fzx1 {α : Type} (s_ : I3) (k : St → Option α) : P25 1 C25.r.r (S25_0 s_) k = k ⟨[(2, ri (IntKind.wrap .i64 (s_.2.1 * s_.2.2)))], [], [], 11⟩ := by kernel_rfl
/-- quilt/shape.Row -/
def shape_Row (s_ : I3) : Option Int := (Option.bind (shape_may s_) (fun y277 : Bool => (bif (!y277) then (some (0 : Int)) else (some (IntKind.wrap .i64 (s_.2.1 * s_.2.2))))))
theorem shape_Row_is (s_ : I3) : stepS E cp25 noE 42 [rA tsI3 s_] = Option.bind (shape_Row s_) (fun y : Int => some (ri y : R)) := by
  refine .trans ?_ (bind_b fun y277 => (bif_b some_b some_b))
  refine (stepG_is (nt := 11) (regs := [(0, rA tsI3 s_)])).trans ?_
  refine (pre1 (shape_Row_f1 s_ _)).trans ?_
  refine .trans seq_push ?_
  refine (pre1 (shape_Row_r1 s_ _)).trans (bind_g fun y277 => ?_)
  refine (cond_e (b := (!y277)) (st' := (S25_0 s_)) ).trans (bif_g ?_ ?_)
  · refine (pre1 (shape_Row_fz s_ _)).trans ?_
    refine (ret_eq).trans ?_
    refine seqC_ret.trans ?_
    kernel_rfl
  · refine (skip_eq).trans ?_
    refine (seqC_normal (st' := (S25_0 s_))).trans ?_
    refine (pre1 (shape_Row_fzx1 s_ _)).trans ?_
    refine (ret_eq).trans ?_
    kernel_rfl
noncomputable def cp26 : CallP := withC cp25 42 [(.agg tsI3)] (.one pI) (fun y : Int => y) (fun x => shape_Row x.1)
theorem cp26_ok : PureOK E cp26 := conS eok cp25_ok noE_ok fun x => Eq.mp (by kernel_rfl) (shape_Row_is x.1)
noncomputable abbrev C26 := codeOf E.P 32
noncomputable abbrev P26 {α : Type} := @preK α E 32 cp26 noE
theorem shape_Size_r1 {α : Type} (s_ : I3) (k : St → Option α) : P26 2 C26 ⟨[(0, rA tsI3 s_)], [], [], 8⟩ k = Option.bind (shape_Row s_) fun y278 : Int => k ⟨[(2, ri (IntKind.wrap .i64 (y278 * s_.1)))], [], [], 8⟩ := by kernel_rfl
/-- quilt/shape.Size -/
def shape_Size (s_ : I3) : Option Int := (Option.bind (shape_Row s_) (fun y278 : Int => (some (IntKind.wrap .i64 (y278 * s_.1)))))
theorem shape_Size_is (s_ : I3) : stepS E cp26 noE 32 [rA tsI3 s_] = Option.bind (shape_Size s_) (fun y : Int => some (ri y : R)) := by
  refine .trans ?_ (bind_b fun y278 => some_b)
  refine (stepG_is (nt := 8) (regs := [(0, rA tsI3 s_)])).trans ?_
  refine (pre2 (shape_Size_r1 s_ _)).trans (bind_g fun y278 => ?_)
  refine (ret_eq).trans ?_
  kernel_rfl
noncomputable def cp27 : CallP := withC cp26 32 [(.agg tsI3)] (.one pI) (fun y : Int => y) (fun x => shape_Size x.1)
theorem cp27_ok : PureOK E cp27 := conS eok cp26_ok noE_ok fun x => Eq.mp (by kernel_rfl) (shape_Size_is x.1)
section
variable {α : Type} (n_ : Node) (a_ : I3) (a2 : I3) (k : St → Option α)
noncomputable abbrev C27 := codeOf E.P 68
noncomputable abbrev P27 := @preK α E 68 cp27 noE
abbrev S27_0 : St := ⟨[(3, rC tsNode n_), (4, rC tsI3 a_), (6, rF 0)], [[di 0, di 0, di 0]], [], 16⟩
theorem graph_anew_f1 : P27 1 C27 ⟨[(0, rA tsNode n_), (1, rA tsI3 a_), (2, rA tsI3 a2)], [], [], 16⟩ k = k (S27_0 n_ a_) := by kernel_rfl
def graph_anew_r1_p : Option Bool := (Option.bind (shape_Size (n_.2.2.2.2.2.2.2.2.2.1, n_.2.2.2.2.2.2.2.2.2.2.1, n_.2.2.2.2.2.2.2.2.2.2.2.1)) (fun y282 : Int => (Option.bind (shape_Size a_) (fun y283 : Int => (some (y282 != y283))))))
theorem graph_anew_r1 : P27 1 C27.r.l (S27_0 n_ a_) k = Option.bind (graph_anew_r1_p n_ a_) (fun y284 : Bool => k ⟨[(3, rC tsNode n_), (6, rF 0), (12, rb y284)], [[di 0, di 0, di 0]], [], 16⟩) := .trans (by kernel_rfl) (bind_b fun y282 => (bind_b fun y283 => some_b))
abbrev S27_1 : St := ⟨[(3, rC tsNode n_), (6, rF 0)], [[di 0, di 0, di 0]], [], 16⟩
theorem graph_anew_fz : P27 1 C27.r.l.r.t (S27_1 n_) k = k ⟨[(6, rF 0)], [[di 0, di 0, di 0]], [], 16⟩ := by kernel_rfl
theorem graph_anew_fzx1 : P27 1 C27.r.r (S27_1 n_) k = k ⟨[(6, rF 0)], [[di n_.2.2.2.2.2.2.2.2.2.1, di n_.2.2.2.2.2.2.2.2.2.2.1, di n_.2.2.2.2.2.2.2.2.2.2.2.1]], [], 16⟩ := by kernel_rfl
/-- quilt/graph.anew -/
def graph_anew (n_ : Node) (a_ : I3) (a2 : I3) : Option I3 := (Option.bind (graph_anew_r1_p n_ a_) (fun y284 : Bool => (bif y284 then (some ((0 : Int), (0 : Int), (0 : Int))) else (some (n_.2.2.2.2.2.2.2.2.2.1, n_.2.2.2.2.2.2.2.2.2.2.1, n_.2.2.2.2.2.2.2.2.2.2.2.1)))))
theorem graph_anew_is : stepS E cp27 noE 68 [rA tsNode n_, rA tsI3 a_, rA tsI3 a2] = Option.bind (graph_anew n_ a_ a2) (fun y : I3 => some (rA tsI3 y : R)) := by
  refine .trans ?_ (bind_b fun y284 => (bif_b some_b some_b))
  refine (stepG_is (nt := 16) (regs := [(0, rA tsNode n_), (1, rA tsI3 a_), (2, rA tsI3 a2)])).trans ?_
  refine (pre1 (graph_anew_f1 n_ a_ a2 _)).trans ?_
  refine .trans seq_push ?_
  refine (pre1 (graph_anew_r1 n_ a_ _)).trans (bind_g fun y284 => ?_)
  refine (cond_e (b := y284) (st' := (S27_1 n_)) ).trans (bif_g ?_ ?_)
  · refine (pre1 (graph_anew_fz n_ _)).trans ?_
    refine (ret_eq).trans ?_
    refine seqC_ret.trans ?_
    kernel_rfl
  · refine (skip_eq).trans ?_
    refine (seqC_normal (st' := (S27_1 n_))).trans ?_
    refine (pre1 (graph_anew_fzx1 n_ _)).trans ?_
    refine (ret_eq).trans ?_
    kernel_rfl
noncomputable def cp28 : CallP := withC cp27 68 [(.agg tsNode), (.agg tsI3), (.agg tsI3)] (.one (.agg tsI3)) (fun y : I3 => y) (fun x => graph_anew x.1 x.2.1 x.2.2.1)
theorem cp28_ok : PureOK E cp28 := conS eok cp27_ok noE_ok fun x => Eq.mp (by kernel_rfl) (graph_anew_is x.1 x.2.1 x.2.2.1)
end
section
variable {α β : Type} (a0_ : Node) (a1_ : I3) (k : St → Option α)
noncomputable abbrev C28 := codeOf E.P 57
noncomputable abbrev P28 := @preK α E 57 cp28 noE
theorem graph_bare_fz : P28 2 C28 ⟨[(0, rA tsNode a0_), (1, rA tsI3 a1_)], [], [], 6⟩ k = k ⟨[(4, ri 0), (5, ri 0)], [], [], 6⟩ := by kernel_rfl
/-- quilt/graph.bare -/
def graph_bare_q {β : Type} (a0_ : Node) (a1_ : I3) (K : (Int × Int) → β) : β := (K ((0 : Int), (0 : Int)))
def graph_bare : (Int × Int) := graph_bare_q a0_ a1_ (fun y => y)
theorem graph_bare_n (K : (Int × Int) → β) : graph_bare_q a0_ a1_ K = K (graph_bare a0_ a1_) := rfl
theorem graph_bare_is : stepS E cp28 noE 57 [rA tsNode a0_, rA tsI3 a1_] = (fun y : (Int × Int) => some (.tup [ri y.1, ri y.2] : R)) (graph_bare a0_ a1_) := by
  refine Eq.trans ?_ (graph_bare_n a0_ a1_ (fun y : (Int × Int) => some (.tup [ri y.1, ri y.2] : R)))
  refine (stepG_is (nt := 6) (regs := [(0, rA tsNode a0_), (1, rA tsI3 a1_)])).trans ?_
  unfold graph_bare_q
  refine (pre2 (graph_bare_fz a0_ a1_ _)).trans ?_
  refine (ret_eq).trans ?_
  kernel_rfl
noncomputable def cp29 : CallP := withC cp28 57 [(.agg tsNode), (.agg tsI3)] (.tup [pI, pI]) (fun y : (Int × Int) => (y.1, y.2, ())) (fun x => some (graph_bare x.1 x.2.1))
theorem cp29_ok : PureOK E cp29 := conS eok cp28_ok noE_ok fun x => Eq.mp (by kernel_rfl) (graph_bare_is x.1 x.2.1)
end
section
variable {α β : Type} (n_ : Node) (s_ : I3) (k : St → Option α)
noncomputable abbrev C29 := codeOf E.P 60
noncomputable abbrev P29 := @preK α E 60 cp29 noE
def graph_of_2_r1_q (K : Int → β) : β := (K (IntKind.wrap .i64 ((IntKind.wrap .i64 ((IntKind.wrap .i64 (n_.2.2.1 * n_.2.2.1)) * s_.2.2)) * n_.2.2.2.2.2.1)))
def graph_of_2_r1_p : Int := graph_of_2_r1_q n_ s_ (fun y => y)
theorem graph_of_2_r1_n (K : Int → β) : graph_of_2_r1_q n_ s_ K = K (graph_of_2_r1_p n_ s_) := rfl
theorem graph_of_2_r1 : P29 2 C29 ⟨[(0, rA tsNode n_), (1, rA tsI3 s_)], [], [], 19⟩ k = k ⟨[(4, ri (graph_of_2_r1_p n_ s_)), (5, ri n_.2.2.2.2.2.1)], [], [], 19⟩ := Eq.trans (by kernel_rfl) (graph_of_2_r1_n n_ s_ (fun y292 : Int => k ⟨[(4, ri y292), (5, ri n_.2.2.2.2.2.1)], [], [], 19⟩))
/-- quilt/graph.of$2 -/
def graph_of_2_q (K : (Int × Int) → β) : β := (K ((graph_of_2_r1_p n_ s_), n_.2.2.2.2.2.1))
def graph_of_2 : (Int × Int) := graph_of_2_q n_ s_ (fun y => y)
theorem graph_of_2_n (K : (Int × Int) → β) : graph_of_2_q n_ s_ K = K (graph_of_2 n_ s_) := rfl
theorem graph_of_2_is : stepS E cp29 noE 60 [rA tsNode n_, rA tsI3 s_] = (fun y : (Int × Int) => some (.tup [ri y.1, ri y.2] : R)) (graph_of_2 n_ s_) := by
  refine Eq.trans ?_ (graph_of_2_n n_ s_ (fun y : (Int × Int) => some (.tup [ri y.1, ri y.2] : R)))
  refine (stepG_is (nt := 19) (regs := [(0, rA tsNode n_), (1, rA tsI3 s_)])).trans ?_
  unfold graph_of_2_q
  refine (pre2 (graph_of_2_r1 n_ s_ _)).trans ?_
  refine (ret_eq).trans ?_
  kernel_rfl
noncomputable def cp30 : CallP := withC cp29 60 [(.agg tsNode), (.agg tsI3)] (.tup [pI, pI]) (fun y : (Int × Int) => (y.1, y.2, ())) (fun x => some (graph_of_2 x.1 x.2.1))
theorem cp30_ok : PureOK E cp30 := conS eok cp29_ok noE_ok fun x => Eq.mp (by kernel_rfl) (graph_of_2_is x.1 x.2.1)
end
section
variable {α β : Type} (n_ : Node) (s_ : I3) (k : St → Option α)
noncomputable abbrev C30 := codeOf E.P 62
noncomputable abbrev P30 := @preK α E 62 cp30 noE
theorem graph_of_3_fz : P30 2 C30 ⟨[(0, rA tsNode n_), (1, rA tsI3 s_)], [], [], 16⟩ k = k ⟨[(4, ri (IntKind.wrap .i64 ((IntKind.wrap .i64 (n_.2.2.1 * n_.2.2.1)) * s_.2.2))), (5, ri s_.2.2)], [], [], 16⟩ := by kernel_rfl
/-- quilt/graph.of$3 -/
def graph_of_3_q (K : (Int × Int) → β) : β := (K ((IntKind.wrap .i64 ((IntKind.wrap .i64 (n_.2.2.1 * n_.2.2.1)) * s_.2.2)), s_.2.2))
def graph_of_3 : (Int × Int) := graph_of_3_q n_ s_ (fun y => y)
theorem graph_of_3_n (K : (Int × Int) → β) : graph_of_3_q n_ s_ K = K (graph_of_3 n_ s_) := rfl
theorem graph_of_3_is : stepS E cp30 noE 62 [rA tsNode n_, rA tsI3 s_] = (fun y : (Int × Int) => some (.tup [ri y.1, ri y.2] : R)) (graph_of_3 n_ s_) := by
  refine Eq.trans ?_ (graph_of_3_n n_ s_ (fun y : (Int × Int) => some (.tup [ri y.1, ri y.2] : R)))
  refine (stepG_is (nt := 16) (regs := [(0, rA tsNode n_), (1, rA tsI3 s_)])).trans ?_
  unfold graph_of_3_q
  refine (pre2 (graph_of_3_fz n_ s_ _)).trans ?_
  refine (ret_eq).trans ?_
  kernel_rfl
noncomputable def cp31 : CallP := withC cp30 62 [(.agg tsNode), (.agg tsI3)] (.tup [pI, pI]) (fun y : (Int × Int) => (y.1, y.2, ())) (fun x => some (graph_of_3 x.1 x.2.1))
theorem cp31_ok : PureOK E cp31 := conS eok cp30_ok noE_ok fun x => Eq.mp (by kernel_rfl) (graph_of_3_is x.1 x.2.1)
end
section
variable {α : Type} (n_ : Node) (s_ : I3) (k : St → Option α)
noncomputable abbrev C31 := codeOf E.P 64
noncomputable abbrev P31 := @preK α E 64 cp31 noE
theorem graph_of_5_r1 : P31 2 C31 ⟨[(0, rA tsNode n_), (1, rA tsI3 s_)], [], [], 13⟩ k = Option.bind (shape_Size s_) fun y295 : Int => k ⟨[(4, ri (IntKind.wrap .i64 (y295 * n_.2.2.2.2.2.1))), (5, ri n_.2.2.2.2.2.1)], [], [], 13⟩ := by kernel_rfl
/-- quilt/graph.of$5 -/
def graph_of_5 : Option (Int × Int) := (Option.bind (shape_Size s_) (fun y295 : Int => (some ((IntKind.wrap .i64 (y295 * n_.2.2.2.2.2.1)), n_.2.2.2.2.2.1))))
theorem graph_of_5_is : stepS E cp31 noE 64 [rA tsNode n_, rA tsI3 s_] = Option.bind (graph_of_5 n_ s_) (fun y : (Int × Int) => some (.tup [ri y.1, ri y.2] : R)) := by
  refine .trans ?_ (bind_b fun y295 => some_b)
  refine (stepG_is (nt := 13) (regs := [(0, rA tsNode n_), (1, rA tsI3 s_)])).trans ?_
  refine (pre2 (graph_of_5_r1 n_ s_ _)).trans (bind_g fun y295 => ?_)
  refine (ret_eq).trans ?_
  kernel_rfl
noncomputable def cp32 : CallP := withC cp31 64 [(.agg tsNode), (.agg tsI3)] (.tup [pI, pI]) (fun y : (Int × Int) => (y.1, y.2, ())) (fun x => graph_of_5 x.1 x.2.1)
theorem cp32_ok : PureOK E cp32 := conS eok cp31_ok noE_ok fun x => Eq.mp (by kernel_rfl) (graph_of_5_is x.1 x.2.1)
end
section
variable {α β : Type} (a0_ : Node) (a1_ : I3) (k : St → Option α)
noncomputable abbrev C32 := codeOf E.P 69
noncomputable abbrev P32 := @preK α E 69 cp32 noE
theorem graph_of_7_fz : P32 2 C32 ⟨[(0, rA tsNode a0_), (1, rA tsI3 a1_)], [], [], 6⟩ k = k ⟨[(4, ri 256), (5, ri 0)], [], [], 6⟩ := by kernel_rfl
/-- quilt/graph.of$7 -/
def graph_of_7_q {β : Type} (a0_ : Node) (a1_ : I3) (K : (Int × Int) → β) : β := (K ((256 : Int), (0 : Int)))
def graph_of_7 : (Int × Int) := graph_of_7_q a0_ a1_ (fun y => y)
theorem graph_of_7_n (K : (Int × Int) → β) : graph_of_7_q a0_ a1_ K = K (graph_of_7 a0_ a1_) := rfl
theorem graph_of_7_is : stepS E cp32 noE 69 [rA tsNode a0_, rA tsI3 a1_] = (fun y : (Int × Int) => some (.tup [ri y.1, ri y.2] : R)) (graph_of_7 a0_ a1_) := by
  refine Eq.trans ?_ (graph_of_7_n a0_ a1_ (fun y : (Int × Int) => some (.tup [ri y.1, ri y.2] : R)))
  refine (stepG_is (nt := 6) (regs := [(0, rA tsNode a0_), (1, rA tsI3 a1_)])).trans ?_
  unfold graph_of_7_q
  refine (pre2 (graph_of_7_fz a0_ a1_ _)).trans ?_
  refine (ret_eq).trans ?_
  kernel_rfl
noncomputable def cp33 : CallP := withC cp32 69 [(.agg tsNode), (.agg tsI3)] (.tup [pI, pI]) (fun y : (Int × Int) => (y.1, y.2, ())) (fun x => some (graph_of_7 x.1 x.2.1))
theorem cp33_ok : PureOK E cp33 := conS eok cp32_ok noE_ok fun x => Eq.mp (by kernel_rfl) (graph_of_7_is x.1 x.2.1)
end
noncomputable abbrev C33 := codeOf E.P 54
noncomputable abbrev P33 {α : Type} := @preK α E 54 cp33 noE
theorem graph_Value_3_fz {α : Type} (x_ : Int) (k : St → Option α) : P33 2 C33 ⟨[(0, rk .i32 x_)], [], [], 7⟩ k = k ⟨[(2, rb (!(graph_within (IntKind.wrap .i64 x_) (-16777216 : Int) (16777216 : Int))))], [], [], 7⟩ := by kernel_rfl
/-- quilt/graph.Value$3 -/
def graph_Value_3_q {β : Type} (x_ : Int) (K : Bool → β) : β := (K (!(graph_within (IntKind.wrap .i64 x_) (-16777216 : Int) (16777216 : Int))))
def graph_Value_3 (x_ : Int) : Bool := graph_Value_3_q x_ (fun y => y)
theorem graph_Value_3_n {β : Type} (x_ : Int) (K : Bool → β) : graph_Value_3_q x_ K = K (graph_Value_3 x_) := rfl
theorem graph_Value_3_is (x_ : Int) : stepS E cp33 noE 54 [rk .i32 x_] = (fun y : Bool => some (rb y : R)) (graph_Value_3 x_) := by
  refine Eq.trans ?_ (graph_Value_3_n x_ (fun y : Bool => some (rb y : R)))
  refine (stepG_is (nt := 7) (regs := [(0, rk .i32 x_)])).trans ?_
  unfold graph_Value_3_q
  refine (pre2 (graph_Value_3_fz x_ _)).trans ?_
  refine (ret_eq).trans ?_
  kernel_rfl
noncomputable def cp34 : CallP := withC cp33 54 [(.one (.g (.int .i32)))] (.one pB) (fun y : Bool => y) (fun x => some (graph_Value_3 x.1))
theorem cp34_ok : PureOK E cp34 := conS eok cp33_ok noE_ok fun x => Eq.mp (by kernel_rfl) (graph_Value_3_is x.1)
section
variable {α : Type} (s_ : (List Int)) (s311 : Int) (k : St → Option α) (q : Kont α)
noncomputable abbrev C34 := codeOf E.P 71
noncomputable abbrev P34 := @preK α E 71 cp34 noE
noncomputable abbrev R34 := @runCode α E 71 cp34 noE
abbrev S34_0 : St := ⟨[(0, rl (.one (.int .i32)) s_), (1, .one (.fn 54 []))], [], [], 19⟩
theorem slices_IndexFuncint32_int32_f1 : P34 1 C34 (S34_0 s_) k = k (S34_0 s_) := by kernel_rfl
abbrev S34_1 : St := ⟨[(0, rl (.one (.int .i32)) s_), (1, .one (.fn 54 [])), (7, ri (s_.length : Int)), (8, ri 0)], [], [], 19⟩
theorem slices_IndexFuncint32_int32_f2 : P34 1 C34.r.l (S34_0 s_) k = k (S34_1 s_) := by kernel_rfl
abbrev S34_2 : St := ⟨[(0, rl (.one (.int .i32)) s_), (1, .one (.fn 54 [])), (7, ri (s_.length : Int)), (8, ri s311)], [], [], 19⟩
theorem slices_IndexFuncint32_int32_fz : P34 1 C34.r.l.r.b.b (S34_2 s_ s311) k = k ⟨[(0, rl (.one (.int .i32)) s_), (1, .one (.fn 54 [])), (7, ri (s_.length : Int)), (8, ri s311), (9, rb (decide (s311 < (s_.length : Int))))], [], [], 19⟩ := by kernel_rfl
def slices_IndexFuncint32_int32_r4_p : Option Unit := (bif (decide ((0 : Int) ≤ s311)) then (bif (decide (s311 < (s_.length : Int))) then (some ()) else none) else none)
theorem slices_IndexFuncint32_int32_r4 : P34 2 C34.r.l.r.b.b.r.r.l.b (S34_2 s_ s311) k = Option.bind (slices_IndexFuncint32_int32_r4_p s_ s311) (fun y313 : Unit => k ⟨[(0, rl (.one (.int .i32)) s_), (1, .one (.fn 54 [])), (5, ri s311), (7, ri (s_.length : Int)), (8, ri s311), (16, rb (graph_Value_3 (gt s_ s311 (0 : Int))))], [], [], 19⟩) := .trans (by kernel_rfl) (bif_b (bif_b some_b none_b) none_b)
abbrev S34_3 : St := ⟨[(0, rl (.one (.int .i32)) s_), (1, .one (.fn 54 [])), (5, ri s311), (7, ri (s_.length : Int)), (8, ri s311)], [], [], 19⟩
theorem slices_IndexFuncint32_int32_fzx1 : P34 1 C34.r.l.r.b.b.r.r.l.b.r.r.t (S34_3 s_ s311) k = k ⟨[(4, ri s311)], [], [], 19⟩ := by kernel_rfl
theorem slices_IndexFuncint32_int32_r6 : R34 C34.r.l.r.b.b.r.r.r (S34_2 s_ s311) q = q .normal ⟨[(0, rl (.one (.int .i32)) s_), (1, .one (.fn 54 [])), (7, ri (s_.length : Int)), (8, ri (IntKind.wrap .i64 (s311 + 1)))], [], [], 19⟩ := by kernel_rfl
def slices_IndexFuncint32_int32_l2_p : Option (Int ⊕ (Int ⊕ Int)) := (bif (decide (s311 < (s_.length : Int))) then (Option.bind (slices_IndexFuncint32_int32_r4_p s_ s311) (fun y313 : Unit => (bif (graph_Value_3 (gt s_ s311 (0 : Int))) then (some (Sum.inr (Sum.inr s311))) else (some (Sum.inl (IntKind.wrap .i64 (s311 + 1))))))) else (some (Sum.inr (Sum.inl s311))))
abbrev S34_4 (y314 : Int) : St := ⟨[(0, rl (.one (.int .i32)) s_), (1, .one (.fn 54 [])), (7, ri (s_.length : Int)), (8, ri y314)], [], [], 19⟩
theorem slices_IndexFuncint32_int32_l2_b : R34 C34.r.l.r.b.b (S34_2 s_ s311) (loopKont 0 q) = Option.bind (slices_IndexFuncint32_int32_l2_p s_ s311) (either (fun y : Int => q .normal ⟨[(0, rl (.one (.int .i32)) s_), (1, .one (.fn 54 [])), (7, ri (s_.length : Int)), (8, ri y)], [], [], 19⟩) (either (fun y314 : Int => q (.exit 0) (S34_4 s_ y314)) (fun y315 : Int => q .ret ⟨[(4, ri y315)], [], [], 19⟩))) := by
  refine .trans ?_ (bif_b (bind_b fun y313 => (bif_b e3_2 e3_0)) e3_1)
  refine (pre1 (slices_IndexFuncint32_int32_fz s_ s311 _)).trans ?_
  refine .trans seq_push ?_
  refine (cond_e (b := (decide (s311 < (s_.length : Int)))) (st' := (S34_2 s_ s311)) ).trans (bif_g ?_ ?_)
  · refine (skip_eq).trans ?_
    refine (seqC_normal (st' := (S34_2 s_ s311))).trans ?_
    refine .trans seq_push ?_
    refine (block_push (id := 1)).trans ?_
    refine (pre2 (slices_IndexFuncint32_int32_r4 s_ s311 _)).trans (bind_g fun y313 => ?_)
    refine (cond_e (b := (graph_Value_3 (gt s_ s311 (0 : Int)))) (st' := (S34_3 s_ s311)) ).trans (bif_g ?_ ?_)
    · refine (pre1 (slices_IndexFuncint32_int32_fzx1 s_ s311 _)).trans ?_
      refine (ret_eq).trans ?_
      refine block_ret.trans ?_
      refine seqC_ret.trans ?_
      kernel_rfl
    · refine (skip_eq).trans ?_
      refine block_normal.trans ?_
      refine (seqC_normal (st' := (S34_2 s_ s311))).trans ?_
      refine (slices_IndexFuncint32_int32_r6 s_ s311 _).trans ?_
      kernel_rfl
  · refine ((exit_eq (j := 0))).trans ?_
    refine seqC_exit.trans ?_
    kernel_rfl
theorem slices_IndexFuncint32_int32_l2 : R34 C34.r.l.r.b (S34_1 s_) q = Option.bind (iterN (slices_IndexFuncint32_int32_l2_p s_) LL (0 : Int)) (either (fun y314 : Int => q (.exit 0) (S34_4 s_ y314)) (fun y315 : Int => q .ret ⟨[(4, ri y315)], [], [], 19⟩)) :=
  Eq.trans (by kernel_rfl) (loop_iter2 (S := fun s311 : Int => (S34_2 s_ s311)) (Y1 := fun y314 : Int => ((.exit 0), (S34_4 s_ y314))) (Y2 := fun y315 : Int => (.ret, ⟨[(4, ri y315)], [], [], 19⟩)) (fun s q => slices_IndexFuncint32_int32_l2_b s_ s q) (fun z => rfl) (fun z => rfl) LL (0 : Int))
theorem slices_IndexFuncint32_int32_fzx2 : P34 1 C34.r.r ⟨[], [], [], 19⟩ k = k ⟨[(4, ri (-1 : Int))], [], [], 19⟩ := by kernel_rfl
/-- slices.IndexFunc[[]int32,int32] -/
def slices_IndexFuncint32_int32 : Option Int := (Option.bind (iterN (slices_IndexFuncint32_int32_l2_p s_) LL (0 : Int)) (either (fun y314 : Int => (some (-1 : Int))) (fun y315 : Int => (some y315))))
theorem slices_IndexFuncint32_int32_is : stepS E cp34 noE 71 [rl (.one (.int .i32)) s_, .one (.fn 54 [])] = Option.bind (slices_IndexFuncint32_int32 s_) (fun y : Int => some (ri y : R)) := by
  refine .trans ?_ (bind_b (either_b (fun y314 => some_b) (fun y315 => some_b)))
  refine (stepG_is (nt := 19) (regs := [(0, rl (.one (.int .i32)) s_), (1, .one (.fn 54 []))])).trans ?_
  refine (pre1 (slices_IndexFuncint32_int32_f1 s_ _)).trans ?_
  refine .trans seq_push ?_
  refine (pre1 (slices_IndexFuncint32_int32_f2 s_ _)).trans ?_
  refine (block_push (id := 0)).trans ?_
  refine (slices_IndexFuncint32_int32_l2 s_ _).trans (bind_g (either_g (fun y314 => ?_) (fun y315 => ?_)))
  · refine block_same.trans ?_
    refine (seqC_normal (st' := ⟨[], [], [], 19⟩)).trans ?_
    refine (pre1 (slices_IndexFuncint32_int32_fzx2 _)).trans ?_
    refine (ret_eq).trans ?_
    kernel_rfl
  · refine block_ret.trans ?_
    refine seqC_ret.trans ?_
    kernel_rfl
noncomputable def cp35 : CallP := withC cp34 71 [(.one (.g (.sl (.one (.int .i32))))), (.one (.fn 54 .nil))] (.one pI) (fun y : Int => y) (fun x => slices_IndexFuncint32_int32 x.1)
theorem cp35_ok : PureOK E cp35 := conS eok cp34_ok noE_ok fun x => Eq.mp (by kernel_rfl) (slices_IndexFuncint32_int32_is x.1)
end
noncomputable abbrev C35 := codeOf E.P 53
noncomputable abbrev P35 {α : Type} := @preK α E 53 cp35 noE
theorem slices_ContainsFuncint32_int32_r1 {α : Type} (s_ : (List Int)) (k : St → Option α) : P35 2 C35 ⟨[(0, rl (.one (.int .i32)) s_), (1, .one (.fn 54 []))], [], [], 9⟩ k = Option.bind (slices_IndexFuncint32_int32 s_) fun y316 : Int => k ⟨[(4, rb (decide (y316 ≥ 0)))], [], [], 9⟩ := by kernel_rfl
/-- slices.ContainsFunc[[]int32,int32] -/
def slices_ContainsFuncint32_int32 (s_ : (List Int)) : Option Bool := (Option.bind (slices_IndexFuncint32_int32 s_) (fun y316 : Int => (some (decide (y316 ≥ 0)))))
theorem slices_ContainsFuncint32_int32_is (s_ : (List Int)) : stepS E cp35 noE 53 [rl (.one (.int .i32)) s_, .one (.fn 54 [])] = Option.bind (slices_ContainsFuncint32_int32 s_) (fun y : Bool => some (rb y : R)) := by
  refine .trans ?_ (bind_b fun y316 => some_b)
  refine (stepG_is (nt := 9) (regs := [(0, rl (.one (.int .i32)) s_), (1, .one (.fn 54 []))])).trans ?_
  refine (pre2 (slices_ContainsFuncint32_int32_r1 s_ _)).trans (bind_g fun y316 => ?_)
  refine (ret_eq).trans ?_
  kernel_rfl
noncomputable def cp36 : CallP := withC cp35 53 [(.one (.g (.sl (.one (.int .i32))))), (.one (.fn 54 .nil))] (.one pB) (fun y : Bool => y) (fun x => slices_ContainsFuncint32_int32 x.1)
theorem cp36_ok : PureOK E cp36 := conS eok cp35_ok noE_ok fun x => Eq.mp (by kernel_rfl) (slices_ContainsFuncint32_int32_is x.1)
section
variable {α β : Type} (n_ : Node) (in_ : (List I4)) (y186 : U5) (y287 : (Int × Int × Int)) (y299 : (Int × Int)) (k : St → Option α)
noncomputable abbrev C36 := codeOf E.P 41
noncomputable abbrev P36 := @preK α E 41 cp36 noE
def graph_Value_r1_p : Option U5 := (Option.bind (graph_of n_.1) (fun y122 : U7 => ((either (fun u123 : Unit => ((either (fun u124 : Unit => (some (y122.2, y122.1.1, y122.1.2.1, y122.1.2.2.1, y122.1.2.2.2.1, y122.1.2.2.2.2.1, y122.1.2.2.2.2.2.1, (Sum.inl ()), (Sum.inl ())))) (either (fun u125 : Unit => (some (y122.2, y122.1.1, y122.1.2.1, y122.1.2.2.1, y122.1.2.2.2.1, y122.1.2.2.2.2.1, y122.1.2.2.2.2.2.1, (Sum.inl ()), (Sum.inr (Sum.inl ()))))) (either (fun u126 : Unit => (some (y122.2, y122.1.1, y122.1.2.1, y122.1.2.2.1, y122.1.2.2.2.1, y122.1.2.2.2.2.1, y122.1.2.2.2.2.2.1, (Sum.inl ()), (Sum.inr (Sum.inr (Sum.inl ())))))) (either (fun u127 : Unit => (some (y122.2, y122.1.1, y122.1.2.1, y122.1.2.2.1, y122.1.2.2.2.1, y122.1.2.2.2.2.1, y122.1.2.2.2.2.2.1, (Sum.inl ()), (Sum.inr (Sum.inr (Sum.inr (Sum.inl ()))))))) (either (fun u128 : Unit => (some (y122.2, y122.1.1, y122.1.2.1, y122.1.2.2.1, y122.1.2.2.2.1, y122.1.2.2.2.2.1, y122.1.2.2.2.2.2.1, (Sum.inl ()), (Sum.inr (Sum.inr (Sum.inr (Sum.inr (Sum.inl ())))))))) (fun u129 : Unit => (some (y122.2, y122.1.1, y122.1.2.1, y122.1.2.2.1, y122.1.2.2.2.1, y122.1.2.2.2.2.1, y122.1.2.2.2.2.2.1, (Sum.inl ()), (Sum.inr (Sum.inr (Sum.inr (Sum.inr (Sum.inr ()))))))))))))) y122.1.2.2.2.2.2.2.2.1)) (either (fun u130 : Unit => ((either (fun u131 : Unit => (some (y122.2, y122.1.1, y122.1.2.1, y122.1.2.2.1, y122.1.2.2.2.1, y122.1.2.2.2.2.1, y122.1.2.2.2.2.2.1, (Sum.inr (Sum.inl ())), (Sum.inl ())))) (either (fun u132 : Unit => (some (y122.2, y122.1.1, y122.1.2.1, y122.1.2.2.1, y122.1.2.2.2.1, y122.1.2.2.2.2.1, y122.1.2.2.2.2.2.1, (Sum.inr (Sum.inl ())), (Sum.inr (Sum.inl ()))))) (either (fun u133 : Unit => (some (y122.2, y122.1.1, y122.1.2.1, y122.1.2.2.1, y122.1.2.2.2.1, y122.1.2.2.2.2.1, y122.1.2.2.2.2.2.1, (Sum.inr (Sum.inl ())), (Sum.inr (Sum.inr (Sum.inl ())))))) (either (fun u134 : Unit => (some (y122.2, y122.1.1, y122.1.2.1, y122.1.2.2.1, y122.1.2.2.2.1, y122.1.2.2.2.2.1, y122.1.2.2.2.2.2.1, (Sum.inr (Sum.inl ())), (Sum.inr (Sum.inr (Sum.inr (Sum.inl ()))))))) (either (fun u135 : Unit => (some (y122.2, y122.1.1, y122.1.2.1, y122.1.2.2.1, y122.1.2.2.2.1, y122.1.2.2.2.2.1, y122.1.2.2.2.2.2.1, (Sum.inr (Sum.inl ())), (Sum.inr (Sum.inr (Sum.inr (Sum.inr (Sum.inl ())))))))) (fun u136 : Unit => (some (y122.2, y122.1.1, y122.1.2.1, y122.1.2.2.1, y122.1.2.2.2.1, y122.1.2.2.2.2.1, y122.1.2.2.2.2.2.1, (Sum.inr (Sum.inl ())), (Sum.inr (Sum.inr (Sum.inr (Sum.inr (Sum.inr ()))))))))))))) y122.1.2.2.2.2.2.2.2.1)) (either (fun u137 : Unit => ((either (fun u138 : Unit => (some (y122.2, y122.1.1, y122.1.2.1, y122.1.2.2.1, y122.1.2.2.2.1, y122.1.2.2.2.2.1, y122.1.2.2.2.2.2.1, (Sum.inr (Sum.inr (Sum.inl ()))), (Sum.inl ())))) (either (fun u139 : Unit => (some (y122.2, y122.1.1, y122.1.2.1, y122.1.2.2.1, y122.1.2.2.2.1, y122.1.2.2.2.2.1, y122.1.2.2.2.2.2.1, (Sum.inr (Sum.inr (Sum.inl ()))), (Sum.inr (Sum.inl ()))))) (either (fun u140 : Unit => (some (y122.2, y122.1.1, y122.1.2.1, y122.1.2.2.1, y122.1.2.2.2.1, y122.1.2.2.2.2.1, y122.1.2.2.2.2.2.1, (Sum.inr (Sum.inr (Sum.inl ()))), (Sum.inr (Sum.inr (Sum.inl ())))))) (either (fun u141 : Unit => (some (y122.2, y122.1.1, y122.1.2.1, y122.1.2.2.1, y122.1.2.2.2.1, y122.1.2.2.2.2.1, y122.1.2.2.2.2.2.1, (Sum.inr (Sum.inr (Sum.inl ()))), (Sum.inr (Sum.inr (Sum.inr (Sum.inl ()))))))) (either (fun u142 : Unit => (some (y122.2, y122.1.1, y122.1.2.1, y122.1.2.2.1, y122.1.2.2.2.1, y122.1.2.2.2.2.1, y122.1.2.2.2.2.2.1, (Sum.inr (Sum.inr (Sum.inl ()))), (Sum.inr (Sum.inr (Sum.inr (Sum.inr (Sum.inl ())))))))) (fun u143 : Unit => (some (y122.2, y122.1.1, y122.1.2.1, y122.1.2.2.1, y122.1.2.2.2.1, y122.1.2.2.2.2.1, y122.1.2.2.2.2.2.1, (Sum.inr (Sum.inr (Sum.inl ()))), (Sum.inr (Sum.inr (Sum.inr (Sum.inr (Sum.inr ()))))))))))))) y122.1.2.2.2.2.2.2.2.1)) (either (fun u144 : Unit => ((either (fun u145 : Unit => (some (y122.2, y122.1.1, y122.1.2.1, y122.1.2.2.1, y122.1.2.2.2.1, y122.1.2.2.2.2.1, y122.1.2.2.2.2.2.1, (Sum.inr (Sum.inr (Sum.inr (Sum.inl ())))), (Sum.inl ())))) (either (fun u146 : Unit => (some (y122.2, y122.1.1, y122.1.2.1, y122.1.2.2.1, y122.1.2.2.2.1, y122.1.2.2.2.2.1, y122.1.2.2.2.2.2.1, (Sum.inr (Sum.inr (Sum.inr (Sum.inl ())))), (Sum.inr (Sum.inl ()))))) (either (fun u147 : Unit => (some (y122.2, y122.1.1, y122.1.2.1, y122.1.2.2.1, y122.1.2.2.2.1, y122.1.2.2.2.2.1, y122.1.2.2.2.2.2.1, (Sum.inr (Sum.inr (Sum.inr (Sum.inl ())))), (Sum.inr (Sum.inr (Sum.inl ())))))) (either (fun u148 : Unit => (some (y122.2, y122.1.1, y122.1.2.1, y122.1.2.2.1, y122.1.2.2.2.1, y122.1.2.2.2.2.1, y122.1.2.2.2.2.2.1, (Sum.inr (Sum.inr (Sum.inr (Sum.inl ())))), (Sum.inr (Sum.inr (Sum.inr (Sum.inl ()))))))) (either (fun u149 : Unit => (some (y122.2, y122.1.1, y122.1.2.1, y122.1.2.2.1, y122.1.2.2.2.1, y122.1.2.2.2.2.1, y122.1.2.2.2.2.2.1, (Sum.inr (Sum.inr (Sum.inr (Sum.inl ())))), (Sum.inr (Sum.inr (Sum.inr (Sum.inr (Sum.inl ())))))))) (fun u150 : Unit => (some (y122.2, y122.1.1, y122.1.2.1, y122.1.2.2.1, y122.1.2.2.2.1, y122.1.2.2.2.2.1, y122.1.2.2.2.2.2.1, (Sum.inr (Sum.inr (Sum.inr (Sum.inl ())))), (Sum.inr (Sum.inr (Sum.inr (Sum.inr (Sum.inr ()))))))))))))) y122.1.2.2.2.2.2.2.2.1)) (either (fun u151 : Unit => ((either (fun u152 : Unit => (some (y122.2, y122.1.1, y122.1.2.1, y122.1.2.2.1, y122.1.2.2.2.1, y122.1.2.2.2.2.1, y122.1.2.2.2.2.2.1, (Sum.inr (Sum.inr (Sum.inr (Sum.inr (Sum.inl ()))))), (Sum.inl ())))) (either (fun u153 : Unit => (some (y122.2, y122.1.1, y122.1.2.1, y122.1.2.2.1, y122.1.2.2.2.1, y122.1.2.2.2.2.1, y122.1.2.2.2.2.2.1, (Sum.inr (Sum.inr (Sum.inr (Sum.inr (Sum.inl ()))))), (Sum.inr (Sum.inl ()))))) (either (fun u154 : Unit => (some (y122.2, y122.1.1, y122.1.2.1, y122.1.2.2.1, y122.1.2.2.2.1, y122.1.2.2.2.2.1, y122.1.2.2.2.2.2.1, (Sum.inr (Sum.inr (Sum.inr (Sum.inr (Sum.inl ()))))), (Sum.inr (Sum.inr (Sum.inl ())))))) (either (fun u155 : Unit => (some (y122.2, y122.1.1, y122.1.2.1, y122.1.2.2.1, y122.1.2.2.2.1, y122.1.2.2.2.2.1, y122.1.2.2.2.2.2.1, (Sum.inr (Sum.inr (Sum.inr (Sum.inr (Sum.inl ()))))), (Sum.inr (Sum.inr (Sum.inr (Sum.inl ()))))))) (either (fun u156 : Unit => (some (y122.2, y122.1.1, y122.1.2.1, y122.1.2.2.1, y122.1.2.2.2.1, y122.1.2.2.2.2.1, y122.1.2.2.2.2.2.1, (Sum.inr (Sum.inr (Sum.inr (Sum.inr (Sum.inl ()))))), (Sum.inr (Sum.inr (Sum.inr (Sum.inr (Sum.inl ())))))))) (fun u157 : Unit => (some (y122.2, y122.1.1, y122.1.2.1, y122.1.2.2.1, y122.1.2.2.2.1, y122.1.2.2.2.2.1, y122.1.2.2.2.2.2.1, (Sum.inr (Sum.inr (Sum.inr (Sum.inr (Sum.inl ()))))), (Sum.inr (Sum.inr (Sum.inr (Sum.inr (Sum.inr ()))))))))))))) y122.1.2.2.2.2.2.2.2.1)) (either (fun u158 : Unit => ((either (fun u159 : Unit => (some (y122.2, y122.1.1, y122.1.2.1, y122.1.2.2.1, y122.1.2.2.2.1, y122.1.2.2.2.2.1, y122.1.2.2.2.2.2.1, (Sum.inr (Sum.inr (Sum.inr (Sum.inr (Sum.inr (Sum.inl ())))))), (Sum.inl ())))) (either (fun u160 : Unit => (some (y122.2, y122.1.1, y122.1.2.1, y122.1.2.2.1, y122.1.2.2.2.1, y122.1.2.2.2.2.1, y122.1.2.2.2.2.2.1, (Sum.inr (Sum.inr (Sum.inr (Sum.inr (Sum.inr (Sum.inl ())))))), (Sum.inr (Sum.inl ()))))) (either (fun u161 : Unit => (some (y122.2, y122.1.1, y122.1.2.1, y122.1.2.2.1, y122.1.2.2.2.1, y122.1.2.2.2.2.1, y122.1.2.2.2.2.2.1, (Sum.inr (Sum.inr (Sum.inr (Sum.inr (Sum.inr (Sum.inl ())))))), (Sum.inr (Sum.inr (Sum.inl ())))))) (either (fun u162 : Unit => (some (y122.2, y122.1.1, y122.1.2.1, y122.1.2.2.1, y122.1.2.2.2.1, y122.1.2.2.2.2.1, y122.1.2.2.2.2.2.1, (Sum.inr (Sum.inr (Sum.inr (Sum.inr (Sum.inr (Sum.inl ())))))), (Sum.inr (Sum.inr (Sum.inr (Sum.inl ()))))))) (either (fun u163 : Unit => (some (y122.2, y122.1.1, y122.1.2.1, y122.1.2.2.1, y122.1.2.2.2.1, y122.1.2.2.2.2.1, y122.1.2.2.2.2.2.1, (Sum.inr (Sum.inr (Sum.inr (Sum.inr (Sum.inr (Sum.inl ())))))), (Sum.inr (Sum.inr (Sum.inr (Sum.inr (Sum.inl ())))))))) (fun u164 : Unit => (some (y122.2, y122.1.1, y122.1.2.1, y122.1.2.2.1, y122.1.2.2.2.1, y122.1.2.2.2.2.1, y122.1.2.2.2.2.2.1, (Sum.inr (Sum.inr (Sum.inr (Sum.inr (Sum.inr (Sum.inl ())))))), (Sum.inr (Sum.inr (Sum.inr (Sum.inr (Sum.inr ()))))))))))))) y122.1.2.2.2.2.2.2.2.1)) (either (fun u165 : Unit => ((either (fun u166 : Unit => (some (y122.2, y122.1.1, y122.1.2.1, y122.1.2.2.1, y122.1.2.2.2.1, y122.1.2.2.2.2.1, y122.1.2.2.2.2.2.1, (Sum.inr (Sum.inr (Sum.inr (Sum.inr (Sum.inr (Sum.inr (Sum.inl ()))))))), (Sum.inl ())))) (either (fun u167 : Unit => (some (y122.2, y122.1.1, y122.1.2.1, y122.1.2.2.1, y122.1.2.2.2.1, y122.1.2.2.2.2.1, y122.1.2.2.2.2.2.1, (Sum.inr (Sum.inr (Sum.inr (Sum.inr (Sum.inr (Sum.inr (Sum.inl ()))))))), (Sum.inr (Sum.inl ()))))) (either (fun u168 : Unit => (some (y122.2, y122.1.1, y122.1.2.1, y122.1.2.2.1, y122.1.2.2.2.1, y122.1.2.2.2.2.1, y122.1.2.2.2.2.2.1, (Sum.inr (Sum.inr (Sum.inr (Sum.inr (Sum.inr (Sum.inr (Sum.inl ()))))))), (Sum.inr (Sum.inr (Sum.inl ())))))) (either (fun u169 : Unit => (some (y122.2, y122.1.1, y122.1.2.1, y122.1.2.2.1, y122.1.2.2.2.1, y122.1.2.2.2.2.1, y122.1.2.2.2.2.2.1, (Sum.inr (Sum.inr (Sum.inr (Sum.inr (Sum.inr (Sum.inr (Sum.inl ()))))))), (Sum.inr (Sum.inr (Sum.inr (Sum.inl ()))))))) (either (fun u170 : Unit => (some (y122.2, y122.1.1, y122.1.2.1, y122.1.2.2.1, y122.1.2.2.2.1, y122.1.2.2.2.2.1, y122.1.2.2.2.2.2.1, (Sum.inr (Sum.inr (Sum.inr (Sum.inr (Sum.inr (Sum.inr (Sum.inl ()))))))), (Sum.inr (Sum.inr (Sum.inr (Sum.inr (Sum.inl ())))))))) (fun u171 : Unit => (some (y122.2, y122.1.1, y122.1.2.1, y122.1.2.2.1, y122.1.2.2.2.1, y122.1.2.2.2.2.1, y122.1.2.2.2.2.2.1, (Sum.inr (Sum.inr (Sum.inr (Sum.inr (Sum.inr (Sum.inr (Sum.inl ()))))))), (Sum.inr (Sum.inr (Sum.inr (Sum.inr (Sum.inr ()))))))))))))) y122.1.2.2.2.2.2.2.2.1)) (either (fun u172 : Unit => ((either (fun u173 : Unit => (some (y122.2, y122.1.1, y122.1.2.1, y122.1.2.2.1, y122.1.2.2.2.1, y122.1.2.2.2.2.1, y122.1.2.2.2.2.2.1, (Sum.inr (Sum.inr (Sum.inr (Sum.inr (Sum.inr (Sum.inr (Sum.inr (Sum.inl ())))))))), (Sum.inl ())))) (either (fun u174 : Unit => (some (y122.2, y122.1.1, y122.1.2.1, y122.1.2.2.1, y122.1.2.2.2.1, y122.1.2.2.2.2.1, y122.1.2.2.2.2.2.1, (Sum.inr (Sum.inr (Sum.inr (Sum.inr (Sum.inr (Sum.inr (Sum.inr (Sum.inl ())))))))), (Sum.inr (Sum.inl ()))))) (either (fun u175 : Unit => (some (y122.2, y122.1.1, y122.1.2.1, y122.1.2.2.1, y122.1.2.2.2.1, y122.1.2.2.2.2.1, y122.1.2.2.2.2.2.1, (Sum.inr (Sum.inr (Sum.inr (Sum.inr (Sum.inr (Sum.inr (Sum.inr (Sum.inl ())))))))), (Sum.inr (Sum.inr (Sum.inl ())))))) (either (fun u176 : Unit => (some (y122.2, y122.1.1, y122.1.2.1, y122.1.2.2.1, y122.1.2.2.2.1, y122.1.2.2.2.2.1, y122.1.2.2.2.2.2.1, (Sum.inr (Sum.inr (Sum.inr (Sum.inr (Sum.inr (Sum.inr (Sum.inr (Sum.inl ())))))))), (Sum.inr (Sum.inr (Sum.inr (Sum.inl ()))))))) (either (fun u177 : Unit => (some (y122.2, y122.1.1, y122.1.2.1, y122.1.2.2.1, y122.1.2.2.2.1, y122.1.2.2.2.2.1, y122.1.2.2.2.2.2.1, (Sum.inr (Sum.inr (Sum.inr (Sum.inr (Sum.inr (Sum.inr (Sum.inr (Sum.inl ())))))))), (Sum.inr (Sum.inr (Sum.inr (Sum.inr (Sum.inl ())))))))) (fun u178 : Unit => (some (y122.2, y122.1.1, y122.1.2.1, y122.1.2.2.1, y122.1.2.2.2.1, y122.1.2.2.2.2.1, y122.1.2.2.2.2.2.1, (Sum.inr (Sum.inr (Sum.inr (Sum.inr (Sum.inr (Sum.inr (Sum.inr (Sum.inl ())))))))), (Sum.inr (Sum.inr (Sum.inr (Sum.inr (Sum.inr ()))))))))))))) y122.1.2.2.2.2.2.2.2.1)) (fun u179 : Unit => ((either (fun u180 : Unit => (some (y122.2, y122.1.1, y122.1.2.1, y122.1.2.2.1, y122.1.2.2.2.1, y122.1.2.2.2.2.1, y122.1.2.2.2.2.2.1, (Sum.inr (Sum.inr (Sum.inr (Sum.inr (Sum.inr (Sum.inr (Sum.inr (Sum.inr ())))))))), (Sum.inl ())))) (either (fun u181 : Unit => (some (y122.2, y122.1.1, y122.1.2.1, y122.1.2.2.1, y122.1.2.2.2.1, y122.1.2.2.2.2.1, y122.1.2.2.2.2.2.1, (Sum.inr (Sum.inr (Sum.inr (Sum.inr (Sum.inr (Sum.inr (Sum.inr (Sum.inr ())))))))), (Sum.inr (Sum.inl ()))))) (either (fun u182 : Unit => (some (y122.2, y122.1.1, y122.1.2.1, y122.1.2.2.1, y122.1.2.2.2.1, y122.1.2.2.2.2.1, y122.1.2.2.2.2.2.1, (Sum.inr (Sum.inr (Sum.inr (Sum.inr (Sum.inr (Sum.inr (Sum.inr (Sum.inr ())))))))), (Sum.inr (Sum.inr (Sum.inl ())))))) (either (fun u183 : Unit => (some (y122.2, y122.1.1, y122.1.2.1, y122.1.2.2.1, y122.1.2.2.2.1, y122.1.2.2.2.2.1, y122.1.2.2.2.2.2.1, (Sum.inr (Sum.inr (Sum.inr (Sum.inr (Sum.inr (Sum.inr (Sum.inr (Sum.inr ())))))))), (Sum.inr (Sum.inr (Sum.inr (Sum.inl ()))))))) (either (fun u184 : Unit => (some (y122.2, y122.1.1, y122.1.2.1, y122.1.2.2.1, y122.1.2.2.2.1, y122.1.2.2.2.2.1, y122.1.2.2.2.2.2.1, (Sum.inr (Sum.inr (Sum.inr (Sum.inr (Sum.inr (Sum.inr (Sum.inr (Sum.inr ())))))))), (Sum.inr (Sum.inr (Sum.inr (Sum.inr (Sum.inl ())))))))) (fun u185 : Unit => (some (y122.2, y122.1.1, y122.1.2.1, y122.1.2.2.1, y122.1.2.2.2.1, y122.1.2.2.2.2.1, y122.1.2.2.2.2.2.1, (Sum.inr (Sum.inr (Sum.inr (Sum.inr (Sum.inr (Sum.inr (Sum.inr (Sum.inr ())))))))), (Sum.inr (Sum.inr (Sum.inr (Sum.inr (Sum.inr ()))))))))))))) y122.1.2.2.2.2.2.2.2.1)))))))))) y122.1.2.2.2.2.2.2.1)))
abbrev S36_0 : St := ⟨[(1, rl tsI4 in_), (2, rC tsNode n_), (4, rF 0), (6, rF 1), (7, rb y186.1)], [[di 0, di 0, di 0, di 0], [di y186.2.1, db y186.2.2.1, db y186.2.2.2.1, db y186.2.2.2.2.1, db y186.2.2.2.2.2.1, db y186.2.2.2.2.2.2.1, Ps.enc Z1 y186.2.2.2.2.2.2.2.1, Ps.enc Z0 y186.2.2.2.2.2.2.2.2]], [], 90⟩
theorem graph_Value_r1 : P36 2 C36 ⟨[(0, rA tsNode n_), (1, rl tsI4 in_)], [], [], 90⟩ k = Option.bind (graph_Value_r1_p n_) (fun y186 : U5 => k (S36_0 n_ in_ y186)) := .trans (by kernel_rfl) (bind_b fun y122 => ((either_b (fun u123 => ((either_b (fun u124 => some_b) (either_b (fun u125 => some_b) (either_b (fun u126 => some_b) (either_b (fun u127 => some_b) (either_b (fun u128 => some_b) (fun u129 => some_b)))))) y122.1.2.2.2.2.2.2.2.1)) (either_b (fun u130 => ((either_b (fun u131 => some_b) (either_b (fun u132 => some_b) (either_b (fun u133 => some_b) (either_b (fun u134 => some_b) (either_b (fun u135 => some_b) (fun u136 => some_b)))))) y122.1.2.2.2.2.2.2.2.1)) (either_b (fun u137 => ((either_b (fun u138 => some_b) (either_b (fun u139 => some_b) (either_b (fun u140 => some_b) (either_b (fun u141 => some_b) (either_b (fun u142 => some_b) (fun u143 => some_b)))))) y122.1.2.2.2.2.2.2.2.1)) (either_b (fun u144 => ((either_b (fun u145 => some_b) (either_b (fun u146 => some_b) (either_b (fun u147 => some_b) (either_b (fun u148 => some_b) (either_b (fun u149 => some_b) (fun u150 => some_b)))))) y122.1.2.2.2.2.2.2.2.1)) (either_b (fun u151 => ((either_b (fun u152 => some_b) (either_b (fun u153 => some_b) (either_b (fun u154 => some_b) (either_b (fun u155 => some_b) (either_b (fun u156 => some_b) (fun u157 => some_b)))))) y122.1.2.2.2.2.2.2.2.1)) (either_b (fun u158 => ((either_b (fun u159 => some_b) (either_b (fun u160 => some_b) (either_b (fun u161 => some_b) (either_b (fun u162 => some_b) (either_b (fun u163 => some_b) (fun u164 => some_b)))))) y122.1.2.2.2.2.2.2.2.1)) (either_b (fun u165 => ((either_b (fun u166 => some_b) (either_b (fun u167 => some_b) (either_b (fun u168 => some_b) (either_b (fun u169 => some_b) (either_b (fun u170 => some_b) (fun u171 => some_b)))))) y122.1.2.2.2.2.2.2.2.1)) (either_b (fun u172 => ((either_b (fun u173 => some_b) (either_b (fun u174 => some_b) (either_b (fun u175 => some_b) (either_b (fun u176 => some_b) (either_b (fun u177 => some_b) (fun u178 => some_b)))))) y122.1.2.2.2.2.2.2.2.1)) (fun u179 => ((either_b (fun u180 => some_b) (either_b (fun u181 => some_b) (either_b (fun u182 => some_b) (either_b (fun u183 => some_b) (either_b (fun u184 => some_b) (fun u185 => some_b)))))) y122.1.2.2.2.2.2.2.2.1)))))))))) y122.1.2.2.2.2.2.2.1))
def graph_Value_r2_q (K : Bool → β) : β := (bif (!y186.1) then (K true) else (K (!(graph_kind_may y186.2.1 y186.2.2.1 y186.2.2.2.1 y186.2.2.2.2.1 y186.2.2.2.2.2.1 y186.2.2.2.2.2.2.1 y186.2.2.2.2.2.2.2.1 y186.2.2.2.2.2.2.2.2 n_ in_))))
def graph_Value_r2_p : Bool := graph_Value_r2_q n_ in_ y186 (fun y => y)
theorem graph_Value_r2_n (K : Bool → β) : graph_Value_r2_q n_ in_ y186 K = K (graph_Value_r2_p n_ in_ y186) := (bif_k K rfl rfl)
theorem graph_Value_r2 : P36 1 C36.r.r.l (S36_0 n_ in_ y186) k = k ⟨[(1, rl tsI4 in_), (2, rC tsNode n_), (4, rF 0), (6, rF 1), (25, rb (graph_Value_r2_p n_ in_ y186))], [[di 0, di 0, di 0, di 0], [di y186.2.1, db y186.2.2.1, db y186.2.2.2.1, db y186.2.2.2.2.1, db y186.2.2.2.2.2.1, db y186.2.2.2.2.2.2.1, Ps.enc Z1 y186.2.2.2.2.2.2.2.1, Ps.enc Z0 y186.2.2.2.2.2.2.2.2]], [], 90⟩ := Eq.trans (by (rcases y186 with ⟨_, _, _, _, _, _, _, (_ | _ | _ | _ | _ | _ | _ | _ | _), (_ | _ | _ | _ | _ | _)⟩ <;> kernel_rfl)) (graph_Value_r2_n n_ in_ y186 (fun y200 : Bool => k ⟨[(1, rl tsI4 in_), (2, rC tsNode n_), (4, rF 0), (6, rF 1), (25, rb y200)], [[di 0, di 0, di 0, di 0], [di y186.2.1, db y186.2.2.1, db y186.2.2.2.1, db y186.2.2.2.2.1, db y186.2.2.2.2.2.1, db y186.2.2.2.2.2.2.1, Ps.enc Z1 y186.2.2.2.2.2.2.2.1, Ps.enc Z0 y186.2.2.2.2.2.2.2.2]], [], 90⟩))
abbrev S36_1 : St := ⟨[(1, rl tsI4 in_), (2, rC tsNode n_), (4, rF 0), (6, rF 1)], [[di 0, di 0, di 0, di 0], [di y186.2.1, db y186.2.2.1, db y186.2.2.2.1, db y186.2.2.2.2.1, db y186.2.2.2.2.2.1, db y186.2.2.2.2.2.2.1, Ps.enc Z1 y186.2.2.2.2.2.2.2.1, Ps.enc Z0 y186.2.2.2.2.2.2.2.2]], [], 90⟩
abbrev S36_2 : St := ⟨[(4, rF 0), (5, ri 11)], [[di 0, di 0, di 0, di 0], []], [], 90⟩
theorem graph_Value_fz : P36 1 C36.r.r.l.r.t (S36_1 n_ in_ y186) k = k S36_2 := by (rcases y186 with ⟨_, _, _, _, _, _, _, (_ | _ | _ | _ | _ | _ | _ | _ | _), (_ | _ | _ | _ | _ | _)⟩ <;> kernel_rfl)
def graph_Value_r4_p : Option Bool := (bif y186.2.2.2.2.2.2.1 then (Option.bind (slices_ContainsFuncapi_Value_api_Value in_ n_) (fun y220 : Bool => (some y220))) else (some false))
theorem graph_Value_r4 : P36 1 C36.r.r.r.l (S36_1 n_ in_ y186) k = Option.bind (graph_Value_r4_p n_ in_ y186) (fun y221 : Bool => k ⟨[(1, rl tsI4 in_), (2, rC tsNode n_), (4, rF 0), (6, rF 1), (33, rb y221)], [[di 0, di 0, di 0, di 0], [di y186.2.1, db y186.2.2.1, db y186.2.2.2.1, db y186.2.2.2.2.1, db y186.2.2.2.2.2.1, db y186.2.2.2.2.2.2.1, Ps.enc Z1 y186.2.2.2.2.2.2.2.1, Ps.enc Z0 y186.2.2.2.2.2.2.2.2]], [], 90⟩) := .trans (by (rcases y186 with ⟨_, _, _, _, _, _, _, (_ | _ | _ | _ | _ | _ | _ | _ | _), (_ | _ | _ | _ | _ | _)⟩ <;> kernel_rfl)) (bif_b (bind_b fun y220 => some_b) some_b)
theorem graph_Value_fzx1 : P36 1 C36.r.r.r.l.r.t (S36_1 n_ in_ y186) k = k S36_2 := by (rcases y186 with ⟨_, _, _, _, _, _, _, (_ | _ | _ | _ | _ | _ | _ | _ | _), (_ | _ | _ | _ | _ | _)⟩ <;> kernel_rfl)
theorem graph_Value_r6 : P36 1 C36.r.r.r.r.l (S36_1 n_ in_ y186) k = Option.bind (slices_ContainsFuncapi_Value_api_Value_s2 in_) fun y249 : Bool => k ⟨[(1, rl tsI4 in_), (2, rC tsNode n_), (4, rF 0), (6, rF 1), (36, rb y249)], [[di 0, di 0, di 0, di 0], [di y186.2.1, db y186.2.2.1, db y186.2.2.2.1, db y186.2.2.2.2.1, db y186.2.2.2.2.2.1, db y186.2.2.2.2.2.2.1, Ps.enc Z1 y186.2.2.2.2.2.2.2.1, Ps.enc Z0 y186.2.2.2.2.2.2.2.2]], [], 90⟩ := by (rcases y186 with ⟨_, _, _, _, _, _, _, (_ | _ | _ | _ | _ | _ | _ | _ | _), (_ | _ | _ | _ | _ | _)⟩ <;> kernel_rfl)
theorem graph_Value_fzx2 : P36 1 C36.r.r.r.r.l.r.t (S36_1 n_ in_ y186) k = k ⟨[(4, rF 0), (5, ri 10)], [[di 0, di 0, di 0, di 0], []], [], 90⟩ := by (rcases y186 with ⟨_, _, _, _, _, _, _, (_ | _ | _ | _ | _ | _ | _ | _ | _), (_ | _ | _ | _ | _ | _)⟩ <;> kernel_rfl)
def graph_Value_r8_p : Option (Int × Int × Int) := (bif (decide ((0 : Int) < (in_.length : Int))) then (bif (decide ((0 : Int) ≤ (IntKind.wrap .i64 ((in_.length : Int) - 1)))) then (bif (decide ((IntKind.wrap .i64 ((in_.length : Int) - 1)) < (in_.length : Int))) then ((either (fun u250 : Unit => (some (graph_first n_ ((gt in_ (0 : Int) dI4).1, (gt in_ (0 : Int) dI4).2.1, (gt in_ (0 : Int) dI4).2.2.1) ((gt in_ (IntKind.wrap .i64 ((in_.length : Int) - 1)) dI4).1, (gt in_ (IntKind.wrap .i64 ((in_.length : Int) - 1)) dI4).2.1, (gt in_ (IntKind.wrap .i64 ((in_.length : Int) - 1)) dI4).2.2.1)))) (either (fun u251 : Unit => (Option.bind (graph_of_1 n_ ((gt in_ (0 : Int) dI4).1, (gt in_ (0 : Int) dI4).2.1, (gt in_ (0 : Int) dI4).2.2.1) ((gt in_ (IntKind.wrap .i64 ((in_.length : Int) - 1)) dI4).1, (gt in_ (IntKind.wrap .i64 ((in_.length : Int) - 1)) dI4).2.1, (gt in_ (IntKind.wrap .i64 ((in_.length : Int) - 1)) dI4).2.2.1)) (fun y265 : I3 => (some y265)))) (either (fun u266 : Unit => (Option.bind (graph_pooled n_ ((gt in_ (0 : Int) dI4).1, (gt in_ (0 : Int) dI4).2.1, (gt in_ (0 : Int) dI4).2.2.1) ((gt in_ (IntKind.wrap .i64 ((in_.length : Int) - 1)) dI4).1, (gt in_ (IntKind.wrap .i64 ((in_.length : Int) - 1)) dI4).2.1, (gt in_ (IntKind.wrap .i64 ((in_.length : Int) - 1)) dI4).2.2.1)) (fun y268 : I3 => (some y268)))) (either (fun u269 : Unit => (some (graph_of_4 n_ ((gt in_ (0 : Int) dI4).1, (gt in_ (0 : Int) dI4).2.1, (gt in_ (0 : Int) dI4).2.2.1) ((gt in_ (IntKind.wrap .i64 ((in_.length : Int) - 1)) dI4).1, (gt in_ (IntKind.wrap .i64 ((in_.length : Int) - 1)) dI4).2.1, (gt in_ (IntKind.wrap .i64 ((in_.length : Int) - 1)) dI4).2.2.1)))) (either (fun u270 : Unit => (some (graph_same n_ ((gt in_ (0 : Int) dI4).1, (gt in_ (0 : Int) dI4).2.1, (gt in_ (0 : Int) dI4).2.2.1) ((gt in_ (IntKind.wrap .i64 ((in_.length : Int) - 1)) dI4).1, (gt in_ (IntKind.wrap .i64 ((in_.length : Int) - 1)) dI4).2.1, (gt in_ (IntKind.wrap .i64 ((in_.length : Int) - 1)) dI4).2.2.1)))) (either (fun u271 : Unit => (some (graph_of_6 n_ ((gt in_ (0 : Int) dI4).1, (gt in_ (0 : Int) dI4).2.1, (gt in_ (0 : Int) dI4).2.2.1) ((gt in_ (IntKind.wrap .i64 ((in_.length : Int) - 1)) dI4).1, (gt in_ (IntKind.wrap .i64 ((in_.length : Int) - 1)) dI4).2.1, (gt in_ (IntKind.wrap .i64 ((in_.length : Int) - 1)) dI4).2.2.1)))) (either (fun u272 : Unit => (some (graph_beside n_ ((gt in_ (0 : Int) dI4).1, (gt in_ (0 : Int) dI4).2.1, (gt in_ (0 : Int) dI4).2.2.1) ((gt in_ (IntKind.wrap .i64 ((in_.length : Int) - 1)) dI4).1, (gt in_ (IntKind.wrap .i64 ((in_.length : Int) - 1)) dI4).2.1, (gt in_ (IntKind.wrap .i64 ((in_.length : Int) - 1)) dI4).2.2.1)))) (either (fun u275 : Unit => (Option.bind (graph_anew n_ ((gt in_ (0 : Int) dI4).1, (gt in_ (0 : Int) dI4).2.1, (gt in_ (0 : Int) dI4).2.2.1) ((gt in_ (IntKind.wrap .i64 ((in_.length : Int) - 1)) dI4).1, (gt in_ (IntKind.wrap .i64 ((in_.length : Int) - 1)) dI4).2.1, (gt in_ (IntKind.wrap .i64 ((in_.length : Int) - 1)) dI4).2.2.1)) (fun y285 : I3 => (some y285)))) (fun u286 : Unit => none))))))))) y186.2.2.2.2.2.2.2.1) else none) else none) else none)
abbrev S36_3 : St := ⟨[(1, rl tsI4 in_), (2, rC tsNode n_), (4, rF 0), (6, rF 1), (8, rF 2)], [[di 0, di 0, di 0, di 0], [di y186.2.1, db y186.2.2.1, db y186.2.2.2.1, db y186.2.2.2.2.1, db y186.2.2.2.2.2.1, db y186.2.2.2.2.2.2.1, Ps.enc Z1 y186.2.2.2.2.2.2.2.1, Ps.enc Z0 y186.2.2.2.2.2.2.2.2], (tsI3.leaves y287)], [], 90⟩
theorem graph_Value_r8 : P36 1 C36.r.r.r.r.r (S36_1 n_ in_ y186) k = Option.bind (graph_Value_r8_p n_ in_ y186) (fun y287 : (Int × Int × Int) => k (S36_3 n_ in_ y186 y287)) := .trans (by (rcases y186 with ⟨_, _, _, _, _, _, _, (_ | _ | _ | _ | _ | _ | _ | _ | _), (_ | _ | _ | _ | _ | _)⟩ <;> kernel_rfl)) (bif_b (bif_b (bif_b ((either_b (fun u250 => some_b) (either_b (fun u251 => (bind_b fun y265 => some_b)) (either_b (fun u266 => (bind_b fun y268 => some_b)) (either_b (fun u269 => some_b) (either_b (fun u270 => some_b) (either_b (fun u271 => some_b) (either_b (fun u272 => some_b) (either_b (fun u275 => (bind_b fun y285 => some_b)) (fun u286 => none_b))))))))) y186.2.2.2.2.2.2.2.1) none_b) none_b) none_b)
theorem graph_Value_r9 : P36 1 C36.r.r.r.r.r.r.l (S36_3 n_ in_ y186 y287) k = Option.bind (shape_May y287) fun y289 : Int => k ⟨[(1, rl tsI4 in_), (2, rC tsNode n_), (4, rF 0), (6, rF 1), (8, rF 2), (55, rb (y289 != 0))], [[di 0, di 0, di 0, di 0], [di y186.2.1, db y186.2.2.1, db y186.2.2.2.1, db y186.2.2.2.2.1, db y186.2.2.2.2.2.1, db y186.2.2.2.2.2.2.1, Ps.enc Z1 y186.2.2.2.2.2.2.2.1, Ps.enc Z0 y186.2.2.2.2.2.2.2.2], (tsI3.leaves y287)], [], 90⟩ := by (rcases y186 with ⟨_, _, _, _, _, _, _, (_ | _ | _ | _ | _ | _ | _ | _ | _), (_ | _ | _ | _ | _ | _)⟩ <;> kernel_rfl)
theorem graph_Value_fzx3 : P36 1 C36.r.r.r.r.r.r.l.r.t (S36_3 n_ in_ y186 y287) k = k ⟨[(4, rF 0), (5, ri 10)], [[di 0, di 0, di 0, di 0], [], []], [], 90⟩ := by (rcases y186 with ⟨_, _, _, _, _, _, _, (_ | _ | _ | _ | _ | _ | _ | _ | _), (_ | _ | _ | _ | _ | _)⟩ <;> kernel_rfl)
def graph_Value_r11_p : Option (Int × Int) := (bif (decide ((0 : Int) < (in_.length : Int))) then ((either (fun u290 : Unit => (some (graph_bare n_ ((gt in_ (0 : Int) dI4).1, (gt in_ (0 : Int) dI4).2.1, (gt in_ (0 : Int) dI4).2.2.1)))) (either (fun u291 : Unit => (some (graph_of_2 n_ ((gt in_ (0 : Int) dI4).1, (gt in_ (0 : Int) dI4).2.1, (gt in_ (0 : Int) dI4).2.2.1)))) (either (fun u293 : Unit => (some (graph_of_3 n_ ((gt in_ (0 : Int) dI4).1, (gt in_ (0 : Int) dI4).2.1, (gt in_ (0 : Int) dI4).2.2.1)))) (either (fun u294 : Unit => (Option.bind (graph_of_5 n_ ((gt in_ (0 : Int) dI4).1, (gt in_ (0 : Int) dI4).2.1, (gt in_ (0 : Int) dI4).2.2.1)) (fun y296 : (Int × Int) => (some y296)))) (either (fun u297 : Unit => (some (graph_of_7 n_ ((gt in_ (0 : Int) dI4).1, (gt in_ (0 : Int) dI4).2.1, (gt in_ (0 : Int) dI4).2.2.1)))) (fun u298 : Unit => none)))))) y186.2.2.2.2.2.2.2.2) else none)
abbrev S36_4 : St := ⟨[(2, rC tsNode n_), (4, rF 0), (8, rF 2), (9, ri y299.1), (10, ri y299.2)], [[di 0, di 0, di 0, di 0], [], (tsI3.leaves y287)], [], 90⟩
theorem graph_Value_r11 : P36 1 C36.r.r.r.r.r.r.r (S36_3 n_ in_ y186 y287) k = Option.bind (graph_Value_r11_p n_ in_ y186) (fun y299 : (Int × Int) => k (S36_4 n_ y287 y299)) := .trans (by (rcases y186 with ⟨_, _, _, _, _, _, _, (_ | _ | _ | _ | _ | _ | _ | _ | _), (_ | _ | _ | _ | _ | _)⟩ <;> kernel_rfl)) (bif_b ((either_b (fun u290 => some_b) (either_b (fun u291 => some_b) (either_b (fun u293 => some_b) (either_b (fun u294 => (bind_b fun y296 => some_b)) (either_b (fun u297 => some_b) (fun u298 => none_b)))))) y186.2.2.2.2.2.2.2.2) none_b)
def graph_Value_r12_p : Option Bool := (bif ((n_.2.2.2.2.2.2.2.2.2.2.2.2.1.length : Int) != y299.1) then (some true) else (bif ((n_.2.2.2.2.2.2.2.2.2.2.2.2.2.length : Int) != y299.2) then (some true) else (Option.bind (slices_ContainsFuncint32_int32 n_.2.2.2.2.2.2.2.2.2.2.2.2.2) (fun y319 : Bool => (some y319)))))
theorem graph_Value_r12 : P36 1 C36.r.r.r.r.r.r.r.r.l (S36_4 n_ y287 y299) k = Option.bind (graph_Value_r12_p n_ y299) (fun y320 : Bool => k ⟨[(2, rC tsNode n_), (4, rF 0), (8, rF 2), (84, rb y320)], [[di 0, di 0, di 0, di 0], [], (tsI3.leaves y287)], [], 90⟩) := .trans (by kernel_rfl) (bif_b some_b (bif_b some_b (bind_b fun y319 => some_b)))
abbrev S36_5 : St := ⟨[(2, rC tsNode n_), (4, rF 0), (8, rF 2)], [[di 0, di 0, di 0, di 0], [], (tsI3.leaves y287)], [], 90⟩
theorem graph_Value_fzx4 : P36 1 C36.r.r.r.r.r.r.r.r.l.r.t (S36_5 n_ y287) k = k ⟨[(4, rF 0), (5, ri 12)], [[di 0, di 0, di 0, di 0], [], []], [], 90⟩ := by kernel_rfl
theorem graph_Value_fzx5 : P36 1 C36.r.r.r.r.r.r.r.r.r (S36_5 n_ y287) k = k ⟨[(4, rF 0), (5, ri 0)], [[di y287.1, di y287.2.1, di y287.2.2, di n_.2.2.2.2.2.2.2.2.1], [], []], [], 90⟩ := by kernel_rfl
/-- quilt/graph.Value -/
def graph_Value : Option (I4 × Int) := (Option.bind (graph_Value_r1_p n_) (fun y186 : U5 => (bif (graph_Value_r2_p n_ in_ y186) then (some (((0 : Int), (0 : Int), (0 : Int), (0 : Int)), (11 : Int))) else (Option.bind (graph_Value_r4_p n_ in_ y186) (fun y221 : Bool => (bif y221 then (some (((0 : Int), (0 : Int), (0 : Int), (0 : Int)), (11 : Int))) else (Option.bind (slices_ContainsFuncapi_Value_api_Value_s2 in_) (fun y249 : Bool => (bif y249 then (some (((0 : Int), (0 : Int), (0 : Int), (0 : Int)), (10 : Int))) else (Option.bind (graph_Value_r8_p n_ in_ y186) (fun y287 : (Int × Int × Int) => (Option.bind (shape_May y287) (fun y289 : Int => (bif (y289 != 0) then (some (((0 : Int), (0 : Int), (0 : Int), (0 : Int)), (10 : Int))) else (Option.bind (graph_Value_r11_p n_ in_ y186) (fun y299 : (Int × Int) => (Option.bind (graph_Value_r12_p n_ y299) (fun y320 : Bool => (bif y320 then (some (((0 : Int), (0 : Int), (0 : Int), (0 : Int)), (12 : Int))) else (some ((y287.1, y287.2.1, y287.2.2, n_.2.2.2.2.2.2.2.2.1), (0 : Int))))))))))))))))))))))
theorem graph_Value_is : stepS E cp36 noE 41 [rA tsNode n_, rl tsI4 in_] = Option.bind (graph_Value n_ in_) (fun y : (I4 × Int) => some (.tup [rA tsI4 y.1, ri y.2] : R)) := by
  refine .trans ?_ (bind_b fun y186 => (bif_b some_b (bind_b fun y221 => (bif_b some_b (bind_b fun y249 => (bif_b some_b (bind_b fun y287 => (bind_b fun y289 => (bif_b some_b (bind_b fun y299 => (bind_b fun y320 => (bif_b some_b some_b))))))))))))
  refine (stepG_is (nt := 90) (regs := [(0, rA tsNode n_), (1, rl tsI4 in_)])).trans ?_
  refine (pre2 (graph_Value_r1 n_ in_ _)).trans (bind_g fun y186 => ?_)
  refine .trans seq_push ?_
  refine (pre1 (graph_Value_r2 n_ in_ y186 _)).trans ?_
  refine (cond_e (b := (graph_Value_r2_p n_ in_ y186)) (st' := (S36_1 n_ in_ y186)) (hs := by (rcases y186 with ⟨_, _, _, _, _, _, _, (_ | _ | _ | _ | _ | _ | _ | _ | _), (_ | _ | _ | _ | _ | _)⟩ <;> kernel_rfl))).trans (bif_g ?_ ?_)
  · refine (pre1 (graph_Value_fz n_ in_ y186 _)).trans ?_
    refine (ret_eq).trans ?_
    refine seqC_ret.trans ?_
    (rcases y186 with ⟨_, _, _, _, _, _, _, (_ | _ | _ | _ | _ | _ | _ | _ | _), (_ | _ | _ | _ | _ | _)⟩ <;> kernel_rfl)
  · refine (skip_eq).trans ?_
    refine (seqC_normal (st' := (S36_1 n_ in_ y186)) (hs := by (rcases y186 with ⟨_, _, _, _, _, _, _, (_ | _ | _ | _ | _ | _ | _ | _ | _), (_ | _ | _ | _ | _ | _)⟩ <;> kernel_rfl))).trans ?_
    refine .trans seq_push ?_
    refine (pre1 (graph_Value_r4 n_ in_ y186 _)).trans (bind_g fun y221 => ?_)
    refine (cond_e (b := y221) (st' := (S36_1 n_ in_ y186)) (hs := by (rcases y186 with ⟨_, _, _, _, _, _, _, (_ | _ | _ | _ | _ | _ | _ | _ | _), (_ | _ | _ | _ | _ | _)⟩ <;> kernel_rfl))).trans (bif_g ?_ ?_)
    · refine (pre1 (graph_Value_fzx1 n_ in_ y186 _)).trans ?_
      refine (ret_eq).trans ?_
      refine seqC_ret.trans ?_
      (rcases y186 with ⟨_, _, _, _, _, _, _, (_ | _ | _ | _ | _ | _ | _ | _ | _), (_ | _ | _ | _ | _ | _)⟩ <;> kernel_rfl)
    · refine (skip_eq).trans ?_
      refine (seqC_normal (st' := (S36_1 n_ in_ y186)) (hs := by (rcases y186 with ⟨_, _, _, _, _, _, _, (_ | _ | _ | _ | _ | _ | _ | _ | _), (_ | _ | _ | _ | _ | _)⟩ <;> kernel_rfl))).trans ?_
      refine .trans seq_push ?_
      refine (pre1 (graph_Value_r6 n_ in_ y186 _)).trans (bind_g fun y249 => ?_)
      refine (cond_e (b := y249) (st' := (S36_1 n_ in_ y186)) (hs := by (rcases y186 with ⟨_, _, _, _, _, _, _, (_ | _ | _ | _ | _ | _ | _ | _ | _), (_ | _ | _ | _ | _ | _)⟩ <;> kernel_rfl))).trans (bif_g ?_ ?_)
      · refine (pre1 (graph_Value_fzx2 n_ in_ y186 _)).trans ?_
        refine (ret_eq).trans ?_
        refine seqC_ret.trans ?_
        (rcases y186 with ⟨_, _, _, _, _, _, _, (_ | _ | _ | _ | _ | _ | _ | _ | _), (_ | _ | _ | _ | _ | _)⟩ <;> kernel_rfl)
      · refine (skip_eq).trans ?_
        refine (seqC_normal (st' := (S36_1 n_ in_ y186)) (hs := by (rcases y186 with ⟨_, _, _, _, _, _, _, (_ | _ | _ | _ | _ | _ | _ | _ | _), (_ | _ | _ | _ | _ | _)⟩ <;> kernel_rfl))).trans ?_
        refine (pre1 (graph_Value_r8 n_ in_ y186 _)).trans (bind_g fun y287 => ?_)
        refine .trans seq_push ?_
        refine (pre1 (graph_Value_r9 n_ in_ y186 y287 _)).trans (bind_g fun y289 => ?_)
        refine (cond_e (b := (y289 != 0)) (st' := (S36_3 n_ in_ y186 y287)) (hs := by (rcases y186 with ⟨_, _, _, _, _, _, _, (_ | _ | _ | _ | _ | _ | _ | _ | _), (_ | _ | _ | _ | _ | _)⟩ <;> kernel_rfl))).trans (bif_g ?_ ?_)
        · refine (pre1 (graph_Value_fzx3 n_ in_ y186 y287 _)).trans ?_
          refine (ret_eq).trans ?_
          refine seqC_ret.trans ?_
          (rcases y186 with ⟨_, _, _, _, _, _, _, (_ | _ | _ | _ | _ | _ | _ | _ | _), (_ | _ | _ | _ | _ | _)⟩ <;> kernel_rfl)
        · refine (skip_eq).trans ?_
          refine (seqC_normal (st' := (S36_3 n_ in_ y186 y287)) (hs := by (rcases y186 with ⟨_, _, _, _, _, _, _, (_ | _ | _ | _ | _ | _ | _ | _ | _), (_ | _ | _ | _ | _ | _)⟩ <;> kernel_rfl))).trans ?_
          refine (pre1 (graph_Value_r11 n_ in_ y186 y287 _)).trans (bind_g fun y299 => ?_)
          refine .trans seq_push ?_
          refine (pre1 (graph_Value_r12 n_ y287 y299 _)).trans (bind_g fun y320 => ?_)
          refine (cond_e (b := y320) (st' := (S36_5 n_ y287)) (hs := by (rcases y186 with ⟨_, _, _, _, _, _, _, (_ | _ | _ | _ | _ | _ | _ | _ | _), (_ | _ | _ | _ | _ | _)⟩ <;> kernel_rfl))).trans (bif_g ?_ ?_)
          · refine (pre1 (graph_Value_fzx4 n_ y287 _)).trans ?_
            refine (ret_eq).trans ?_
            refine seqC_ret.trans ?_
            (rcases y186 with ⟨_, _, _, _, _, _, _, (_ | _ | _ | _ | _ | _ | _ | _ | _), (_ | _ | _ | _ | _ | _)⟩ <;> kernel_rfl)
          · refine (skip_eq).trans ?_
            refine (seqC_normal (st' := (S36_5 n_ y287)) (hs := by (rcases y186 with ⟨_, _, _, _, _, _, _, (_ | _ | _ | _ | _ | _ | _ | _ | _), (_ | _ | _ | _ | _ | _)⟩ <;> kernel_rfl))).trans ?_
            refine (pre1 (graph_Value_fzx5 n_ y287 _)).trans ?_
            refine (ret_eq).trans ?_
            (rcases y186 with ⟨_, _, _, _, _, _, _, (_ | _ | _ | _ | _ | _ | _ | _ | _), (_ | _ | _ | _ | _ | _)⟩ <;> kernel_rfl)
noncomputable def cp37 : CallP := withC cp36 41 [(.agg tsNode), (pL tsI4)] (.tup [(.agg tsI4), pI]) (fun y : (I4 × Int) => (y.1, y.2, ())) (fun x => graph_Value x.1 x.2.1)
theorem cp37_ok : PureOK E cp37 := conS eok cp36_ok noE_ok fun x => Eq.mp (by kernel_rfl) (graph_Value_is x.1 x.2.1)
end
end Go.V.P
