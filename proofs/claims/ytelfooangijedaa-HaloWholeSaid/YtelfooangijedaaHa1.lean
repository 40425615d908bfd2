/- What functions compute. -/
import Derived.Test.YtelfooangijedaaHa0
namespace Go.V.P
open Go.RowKit Go.V Go.Proofs
set_option linter.unusedVariables false
set_option maxRecDepth 100000
section
variable {α : Type} (s_ : (List I4)) (f_ : Node) (s155 : Int) (k : St → Option α) (q : Kont α)
noncomputable abbrev C11 := codeOf E.P 64
noncomputable abbrev P11 := @preK α E 64 cp11 noE
noncomputable abbrev R11 := @runCode α E 64 cp11 noE
abbrev S11_0 : St := ⟨[(0, rl tsI4 s_), (1, .one (.fn 36 [.cell (tsNode.leaves f_)]))], [], [], 19⟩
theorem slices_IndexFuncapi_Value_api_Value_f1 : P11 1 C11 (S11_0 s_ f_) k = k (S11_0 s_ f_) := by kernel_rfl
abbrev S11_1 : St := ⟨[(0, rl tsI4 s_), (1, .one (.fn 36 [.cell (tsNode.leaves f_)])), (7, ri (s_.length : Int)), (8, ri 0)], [], [], 19⟩
theorem slices_IndexFuncapi_Value_api_Value_f2 : P11 1 C11.r.l (S11_0 s_ f_) k = k (S11_1 s_ f_) := by kernel_rfl
abbrev S11_2 : St := ⟨[(0, rl tsI4 s_), (1, .one (.fn 36 [.cell (tsNode.leaves f_)])), (7, ri (s_.length : Int)), (8, ri s155)], [], [], 19⟩
theorem slices_IndexFuncapi_Value_api_Value_fz : P11 1 C11.r.l.r.b.b (S11_2 s_ f_ s155) k = k ⟨[(0, rl tsI4 s_), (1, .one (.fn 36 [.cell (tsNode.leaves f_)])), (7, ri (s_.length : Int)), (8, ri s155), (9, rb (decide (s155 < (s_.length : Int))))], [], [], 19⟩ := by kernel_rfl
def slices_IndexFuncapi_Value_api_Value_r4_p : Option Unit := (bif (decide ((0 : Int) ≤ s155)) then (bif (decide (s155 < (s_.length : Int))) then (some ()) else none) else none)
theorem slices_IndexFuncapi_Value_api_Value_r4 : P11 2 C11.r.l.r.b.b.r.r.l.b (S11_2 s_ f_ s155) k = Option.bind (slices_IndexFuncapi_Value_api_Value_r4_p s_ s155) (fun y157 : Unit => k ⟨[(0, rl tsI4 s_), (1, .one (.fn 36 [.cell (tsNode.leaves f_)])), (5, ri s155), (7, ri (s_.length : Int)), (8, ri s155), (16, rb (graph_Value_1 (gt s_ s155 dI4) f_))], [], [], 19⟩) := .trans (by kernel_rfl) (bif_b (bif_b some_b none_b) none_b)
abbrev S11_3 : St := ⟨[(0, rl tsI4 s_), (1, .one (.fn 36 [.cell (tsNode.leaves f_)])), (5, ri s155), (7, ri (s_.length : Int)), (8, ri s155)], [], [], 19⟩
theorem slices_IndexFuncapi_Value_api_Value_fzx1 : P11 1 C11.r.l.r.b.b.r.r.l.b.r.r.t (S11_3 s_ f_ s155) k = k ⟨[(4, ri s155)], [], [], 19⟩ := by kernel_rfl
theorem slices_IndexFuncapi_Value_api_Value_r6 : R11 C11.r.l.r.b.b.r.r.r (S11_2 s_ f_ s155) q = q .normal ⟨[(0, rl tsI4 s_), (1, .one (.fn 36 [.cell (tsNode.leaves f_)])), (7, ri (s_.length : Int)), (8, ri (IntKind.wrap .i64 (s155 + 1)))], [], [], 19⟩ := by kernel_rfl
def slices_IndexFuncapi_Value_api_Value_l2_p : Option (Int ⊕ (Int ⊕ Int)) := (bif (decide (s155 < (s_.length : Int))) then (Option.bind (slices_IndexFuncapi_Value_api_Value_r4_p s_ s155) (fun y157 : Unit => (bif (graph_Value_1 (gt s_ s155 dI4) f_) then (some (Sum.inr (Sum.inr s155))) else (some (Sum.inl (IntKind.wrap .i64 (s155 + 1))))))) else (some (Sum.inr (Sum.inl s155))))
abbrev S11_4 (y158 : Int) : St := ⟨[(0, rl tsI4 s_), (1, .one (.fn 36 [.cell (tsNode.leaves f_)])), (7, ri (s_.length : Int)), (8, ri y158)], [], [], 19⟩
theorem slices_IndexFuncapi_Value_api_Value_l2_b : R11 C11.r.l.r.b.b (S11_2 s_ f_ s155) (loopKont 0 q) = Option.bind (slices_IndexFuncapi_Value_api_Value_l2_p s_ f_ s155) (either (fun y : Int => q .normal ⟨[(0, rl tsI4 s_), (1, .one (.fn 36 [.cell (tsNode.leaves f_)])), (7, ri (s_.length : Int)), (8, ri y)], [], [], 19⟩) (either (fun y158 : Int => q (.exit 0) (S11_4 s_ f_ y158)) (fun y159 : Int => q .ret ⟨[(4, ri y159)], [], [], 19⟩))) := by
  refine .trans ?_ (bif_b (bind_b fun y157 => (bif_b e3_2 e3_0)) e3_1)
  refine (pre1 (slices_IndexFuncapi_Value_api_Value_fz s_ f_ s155 _)).trans ?_
  refine .trans seq_push ?_
  refine (cond_e (b := (decide (s155 < (s_.length : Int)))) (st' := (S11_2 s_ f_ s155)) ).trans (bif_g ?_ ?_)
  · refine (skip_eq).trans ?_
    refine (seqC_normal (st' := (S11_2 s_ f_ s155))).trans ?_
    refine .trans seq_push ?_
    refine (block_push (id := 1)).trans ?_
    refine (pre2 (slices_IndexFuncapi_Value_api_Value_r4 s_ f_ s155 _)).trans (bind_g fun y157 => ?_)
    refine (cond_e (b := (graph_Value_1 (gt s_ s155 dI4) f_)) (st' := (S11_3 s_ f_ s155)) ).trans (bif_g ?_ ?_)
    · refine (pre1 (slices_IndexFuncapi_Value_api_Value_fzx1 s_ f_ s155 _)).trans ?_
      refine (ret_eq).trans ?_
      refine block_ret.trans ?_
      refine seqC_ret.trans ?_
      kernel_rfl
    · refine (skip_eq).trans ?_
      refine block_normal.trans ?_
      refine (seqC_normal (st' := (S11_2 s_ f_ s155))).trans ?_
      refine (slices_IndexFuncapi_Value_api_Value_r6 s_ f_ s155 _).trans ?_
      kernel_rfl
  · refine ((exit_eq (j := 0))).trans ?_
    refine seqC_exit.trans ?_
    kernel_rfl
theorem slices_IndexFuncapi_Value_api_Value_l2 : R11 C11.r.l.r.b (S11_1 s_ f_) q = Option.bind (iterN (slices_IndexFuncapi_Value_api_Value_l2_p s_ f_) LL (0 : Int)) (either (fun y158 : Int => q (.exit 0) (S11_4 s_ f_ y158)) (fun y159 : Int => q .ret ⟨[(4, ri y159)], [], [], 19⟩)) :=
  Eq.trans (by kernel_rfl) (loop_iter2 (S := fun s155 : Int => (S11_2 s_ f_ s155)) (Y1 := fun y158 : Int => ((.exit 0), (S11_4 s_ f_ y158))) (Y2 := fun y159 : Int => (.ret, ⟨[(4, ri y159)], [], [], 19⟩)) (fun s q => slices_IndexFuncapi_Value_api_Value_l2_b s_ f_ s q) (fun z => rfl) (fun z => rfl) LL (0 : Int))
theorem slices_IndexFuncapi_Value_api_Value_fzx2 : P11 1 C11.r.r ⟨[], [], [], 19⟩ k = k ⟨[(4, ri (-1 : Int))], [], [], 19⟩ := by kernel_rfl
/-- slices.IndexFunc[[]quilt/api.Value,quilt/api.Value] -/
def slices_IndexFuncapi_Value_api_Value : Option Int := (Option.bind (iterN (slices_IndexFuncapi_Value_api_Value_l2_p s_ f_) LL (0 : Int)) (either (fun y158 : Int => (some (-1 : Int))) (fun y159 : Int => (some y159))))
theorem slices_IndexFuncapi_Value_api_Value_is : stepS E cp11 noE 64 [rl tsI4 s_, .one (.fn 36 [.cell (tsNode.leaves f_)])] = Option.bind (slices_IndexFuncapi_Value_api_Value s_ f_) (fun y : Int => some (ri y : R)) := by
  refine .trans ?_ (bind_b (either_b (fun y158 => some_b) (fun y159 => some_b)))
  refine (stepG_is (nt := 19) (regs := [(0, rl tsI4 s_), (1, .one (.fn 36 [.cell (tsNode.leaves f_)]))])).trans ?_
  refine (pre1 (slices_IndexFuncapi_Value_api_Value_f1 s_ f_ _)).trans ?_
  refine .trans seq_push ?_
  refine (pre1 (slices_IndexFuncapi_Value_api_Value_f2 s_ f_ _)).trans ?_
  refine (block_push (id := 0)).trans ?_
  refine (slices_IndexFuncapi_Value_api_Value_l2 s_ f_ _).trans (bind_g (either_g (fun y158 => ?_) (fun y159 => ?_)))
  · refine block_same.trans ?_
    refine (seqC_normal (st' := ⟨[], [], [], 19⟩)).trans ?_
    refine (pre1 (slices_IndexFuncapi_Value_api_Value_fzx2 _)).trans ?_
    refine (ret_eq).trans ?_
    kernel_rfl
  · refine block_ret.trans ?_
    refine seqC_ret.trans ?_
    kernel_rfl
noncomputable def cp12 : CallP := withC cp11 64 [(pL tsI4), (.one (.fn 36 (.cons (.cell (.cons (.g (.int .i64)) (.cons (.g (.sl (.one (.int .i64)))) (.cons (.g (.int .i64)) (.cons (.g (.int .i64)) (.cons (.g (.int .i64)) (.cons (.g (.int .i64)) (.cons (.g (.int .i64)) (.cons (.g (.int .i64)) (.cons (.g (.int .i64)) (.cons (.g (.int .i64)) (.cons (.g (.int .i64)) (.cons (.g (.int .i64)) (.cons (.g (.sl (.one (.int .i8)))) (.cons (.g (.sl (.one (.int .i32)))) .nil))))))))))))))) .nil)))] (.one pI) (fun y : Int => y) (fun x => slices_IndexFuncapi_Value_api_Value x.1 (x.2.1.1.1, x.2.1.1.2.1, x.2.1.1.2.2.1, x.2.1.1.2.2.2.1, x.2.1.1.2.2.2.2.1, x.2.1.1.2.2.2.2.2.1, x.2.1.1.2.2.2.2.2.2.1, x.2.1.1.2.2.2.2.2.2.2.1, x.2.1.1.2.2.2.2.2.2.2.2.1, x.2.1.1.2.2.2.2.2.2.2.2.2.1, x.2.1.1.2.2.2.2.2.2.2.2.2.2.1, x.2.1.1.2.2.2.2.2.2.2.2.2.2.2.1, x.2.1.1.2.2.2.2.2.2.2.2.2.2.2.2.1, x.2.1.1.2.2.2.2.2.2.2.2.2.2.2.2.2.1))
theorem cp12_ok : PureOK E cp12 := conS eok cp11_ok noE_ok fun x => Eq.mp (by kernel_rfl) (slices_IndexFuncapi_Value_api_Value_is x.1 (x.2.1.1.1, x.2.1.1.2.1, x.2.1.1.2.2.1, x.2.1.1.2.2.2.1, x.2.1.1.2.2.2.2.1, x.2.1.1.2.2.2.2.2.1, x.2.1.1.2.2.2.2.2.2.1, x.2.1.1.2.2.2.2.2.2.2.1, x.2.1.1.2.2.2.2.2.2.2.2.1, x.2.1.1.2.2.2.2.2.2.2.2.2.1, x.2.1.1.2.2.2.2.2.2.2.2.2.2.1, x.2.1.1.2.2.2.2.2.2.2.2.2.2.2.1, x.2.1.1.2.2.2.2.2.2.2.2.2.2.2.2.1, x.2.1.1.2.2.2.2.2.2.2.2.2.2.2.2.2.1))
end
section
variable {α : Type} (s_ : (List I4)) (f_ : Node) (k : St → Option α)
noncomputable abbrev C12 := codeOf E.P 35
noncomputable abbrev P12 := @preK α E 35 cp12 noE
theorem slices_ContainsFuncapi_Value_api_Value_r1 : P12 2 C12 ⟨[(0, rl tsI4 s_), (1, .one (.fn 36 [.cell (tsNode.leaves f_)]))], [], [], 9⟩ k = Option.bind (slices_IndexFuncapi_Value_api_Value s_ f_) fun y160 : Int => k ⟨[(4, rb (decide (y160 ≥ 0)))], [], [], 9⟩ := by kernel_rfl
/-- slices.ContainsFunc[[]quilt/api.Value,quilt/api.Value] -/
def slices_ContainsFuncapi_Value_api_Value : Option Bool := (Option.bind (slices_IndexFuncapi_Value_api_Value s_ f_) (fun y160 : Int => (some (decide (y160 ≥ 0)))))
theorem slices_ContainsFuncapi_Value_api_Value_is : stepS E cp12 noE 35 [rl tsI4 s_, .one (.fn 36 [.cell (tsNode.leaves f_)])] = Option.bind (slices_ContainsFuncapi_Value_api_Value s_ f_) (fun y : Bool => some (rb y : R)) := by
  refine .trans ?_ (bind_b fun y160 => some_b)
  refine (stepG_is (nt := 9) (regs := [(0, rl tsI4 s_), (1, .one (.fn 36 [.cell (tsNode.leaves f_)]))])).trans ?_
  refine (pre2 (slices_ContainsFuncapi_Value_api_Value_r1 s_ f_ _)).trans (bind_g fun y160 => ?_)
  refine (ret_eq).trans ?_
  kernel_rfl
noncomputable def cp13 : CallP := withC cp12 35 [(pL tsI4), (.one (.fn 36 (.cons (.cell (.cons (.g (.int .i64)) (.cons (.g (.sl (.one (.int .i64)))) (.cons (.g (.int .i64)) (.cons (.g (.int .i64)) (.cons (.g (.int .i64)) (.cons (.g (.int .i64)) (.cons (.g (.int .i64)) (.cons (.g (.int .i64)) (.cons (.g (.int .i64)) (.cons (.g (.int .i64)) (.cons (.g (.int .i64)) (.cons (.g (.int .i64)) (.cons (.g (.sl (.one (.int .i8)))) (.cons (.g (.sl (.one (.int .i32)))) .nil))))))))))))))) .nil)))] (.one pB) (fun y : Bool => y) (fun x => slices_ContainsFuncapi_Value_api_Value x.1 (x.2.1.1.1, x.2.1.1.2.1, x.2.1.1.2.2.1, x.2.1.1.2.2.2.1, x.2.1.1.2.2.2.2.1, x.2.1.1.2.2.2.2.2.1, x.2.1.1.2.2.2.2.2.2.1, x.2.1.1.2.2.2.2.2.2.2.1, x.2.1.1.2.2.2.2.2.2.2.2.1, x.2.1.1.2.2.2.2.2.2.2.2.2.1, x.2.1.1.2.2.2.2.2.2.2.2.2.2.1, x.2.1.1.2.2.2.2.2.2.2.2.2.2.2.1, x.2.1.1.2.2.2.2.2.2.2.2.2.2.2.2.1, x.2.1.1.2.2.2.2.2.2.2.2.2.2.2.2.2.1))
theorem cp13_ok : PureOK E cp13 := conS eok cp12_ok noE_ok fun x => Eq.mp (by kernel_rfl) (slices_ContainsFuncapi_Value_api_Value_is x.1 (x.2.1.1.1, x.2.1.1.2.1, x.2.1.1.2.2.1, x.2.1.1.2.2.2.1, x.2.1.1.2.2.2.2.1, x.2.1.1.2.2.2.2.2.1, x.2.1.1.2.2.2.2.2.2.1, x.2.1.1.2.2.2.2.2.2.2.1, x.2.1.1.2.2.2.2.2.2.2.2.1, x.2.1.1.2.2.2.2.2.2.2.2.2.1, x.2.1.1.2.2.2.2.2.2.2.2.2.2.1, x.2.1.1.2.2.2.2.2.2.2.2.2.2.2.1, x.2.1.1.2.2.2.2.2.2.2.2.2.2.2.2.1, x.2.1.1.2.2.2.2.2.2.2.2.2.2.2.2.2.1))
end
section
variable {α β : Type} (low : Int) (high : Int) (k : St → Option α)
noncomputable abbrev C13 := codeOf E.P 48
noncomputable abbrev P13 := @preK α E 48 cp13 noE
theorem shape_within_fz : P13 2 C13 ⟨[(0, ri low), (1, ri high)], [], [], 6⟩ k = k ⟨[(4, .one (.fn 66 [.cell [di low], .cell [di high]]))], [], [], 6⟩ := by kernel_rfl
/-- quilt/shape.within -/
def shape_within_q (K : ((Int × Unit) × (Int × Unit) × Unit) → β) : β := (K ((low, ()), (high, ()), ()))
def shape_within : ((Int × Unit) × (Int × Unit) × Unit) := shape_within_q low high (fun y => y)
theorem shape_within_n (K : ((Int × Unit) × (Int × Unit) × Unit) → β) : shape_within_q low high K = K (shape_within low high) := rfl
theorem shape_within_is : stepS E cp13 noE 48 [ri low, ri high] = (fun y : ((Int × Unit) × (Int × Unit) × Unit) => some (.one (.fn 66 [.cell [di y.1.1], .cell [di y.2.1.1]]) : R)) (shape_within low high) := by
  refine Eq.trans ?_ (shape_within_n low high (fun y : ((Int × Unit) × (Int × Unit) × Unit) => some (.one (.fn 66 [.cell [di y.1.1], .cell [di y.2.1.1]]) : R)))
  refine (stepG_is (nt := 6) (regs := [(0, ri low), (1, ri high)])).trans ?_
  unfold shape_within_q
  refine (pre2 (shape_within_fz low high _)).trans ?_
  refine (ret_eq).trans ?_
  kernel_rfl
noncomputable def cp14 : CallP := withC cp13 48 [pI, pI] (.one (.one (.fn 66 (.cons (.cell (.cons (.g (.int .i64)) .nil)) (.cons (.cell (.cons (.g (.int .i64)) .nil)) .nil))))) (fun y : ((Int × Unit) × (Int × Unit) × Unit) => y) (fun x => some (shape_within x.1 x.2.1))
theorem cp14_ok : PureOK E cp14 := conS eok cp13_ok noE_ok fun x => Eq.mp (by kernel_rfl) (shape_within_is x.1 x.2.1)
end
section
variable {α β : Type} (l_ : (List Int)) (c1_ : Int) (c2_ : Int) (s183 : Int) (k : St → Option α) (q : Kont α)
noncomputable abbrev C14 := codeOf E.P 66
noncomputable abbrev P14 := @preK α E 66 cp14 noE
noncomputable abbrev R14 := @runCode α E 66 cp14 noE
abbrev S14_0 : St := ⟨[(0, rl (.one (.int .i64)) l_), (1, .one (.cell [di c1_])), (2, .one (.cell [di c2_]))], [], [], 22⟩
theorem shape_within_1_f1 : P14 1 C14 (S14_0 l_ c1_ c2_) k = k (S14_0 l_ c1_ c2_) := by kernel_rfl
abbrev S14_1 : St := ⟨[(1, .one (.cell [di c1_])), (2, .one (.cell [di c2_])), (7, rl (.one (.int .i64)) l_), (8, ri (l_.length : Int)), (9, ri 0)], [], [], 22⟩
theorem shape_within_1_f2 : P14 1 C14.r.l (S14_0 l_ c1_ c2_) k = k (S14_1 l_ c1_ c2_) := by kernel_rfl
abbrev S14_2 : St := ⟨[(1, .one (.cell [di c1_])), (2, .one (.cell [di c2_])), (7, rl (.one (.int .i64)) l_), (8, ri (l_.length : Int)), (9, ri s183)], [], [], 22⟩
theorem shape_within_1_fz : P14 1 C14.r.l.r.b.b (S14_2 l_ c1_ c2_ s183) k = k ⟨[(1, .one (.cell [di c1_])), (2, .one (.cell [di c2_])), (7, rl (.one (.int .i64)) l_), (8, ri (l_.length : Int)), (9, ri s183), (10, rb (decide (s183 < (l_.length : Int))))], [], [], 22⟩ := by kernel_rfl
def shape_within_1_r3_p : Option Unit := (bif (decide ((0 : Int) ≤ s183)) then (bif (decide (s183 < (l_.length : Int))) then (some ()) else none) else none)
abbrev S14_3 : St := ⟨[(1, .one (.cell [di c1_])), (2, .one (.cell [di c2_])), (6, ri (gt l_ s183 (0 : Int))), (7, rl (.one (.int .i64)) l_), (8, ri (l_.length : Int)), (9, ri s183)], [], [], 22⟩
theorem shape_within_1_r3 : P14 1 C14.r.l.r.b.b.r.r.l.b (S14_2 l_ c1_ c2_ s183) k = Option.bind (shape_within_1_r3_p l_ s183) (fun y186 : Unit => k (S14_3 l_ c1_ c2_ s183)) := .trans (by kernel_rfl) (bif_b (bif_b some_b none_b) none_b)
def shape_within_1_r4_q (K : Bool → β) : β := (bif (decide ((gt l_ s183 (0 : Int)) < c1_)) then (K true) else (K (decide ((gt l_ s183 (0 : Int)) > c2_))))
def shape_within_1_r4_p : Bool := shape_within_1_r4_q l_ c1_ c2_ s183 (fun y => y)
theorem shape_within_1_r4_n (K : Bool → β) : shape_within_1_r4_q l_ c1_ c2_ s183 K = K (shape_within_1_r4_p l_ c1_ c2_ s183) := (bif_k K rfl rfl)
theorem shape_within_1_r4 : P14 1 C14.r.l.r.b.b.r.r.l.b.r (S14_3 l_ c1_ c2_ s183) k = k ⟨[(1, .one (.cell [di c1_])), (2, .one (.cell [di c2_])), (7, rl (.one (.int .i64)) l_), (8, ri (l_.length : Int)), (9, ri s183), (20, rb (shape_within_1_r4_p l_ c1_ c2_ s183))], [], [], 22⟩ := Eq.trans (by kernel_rfl) (shape_within_1_r4_n l_ c1_ c2_ s183 (fun y187 : Bool => k ⟨[(1, .one (.cell [di c1_])), (2, .one (.cell [di c2_])), (7, rl (.one (.int .i64)) l_), (8, ri (l_.length : Int)), (9, ri s183), (20, rb y187)], [], [], 22⟩))
abbrev S14_4 : St := ⟨[(4, rb false)], [], [], 22⟩
theorem shape_within_1_fzx1 : P14 1 C14.r.l.r.b.b.r.r.l.b.r.r.t (S14_2 l_ c1_ c2_ s183) k = k S14_4 := by kernel_rfl
theorem shape_within_1_r6 : R14 C14.r.l.r.b.b.r.r.r (S14_2 l_ c1_ c2_ s183) q = q .normal ⟨[(1, .one (.cell [di c1_])), (2, .one (.cell [di c2_])), (7, rl (.one (.int .i64)) l_), (8, ri (l_.length : Int)), (9, ri (IntKind.wrap .i64 (s183 + 1)))], [], [], 22⟩ := by kernel_rfl
def shape_within_1_l2_p : Option (Int ⊕ (Int ⊕ Unit)) := (bif (decide (s183 < (l_.length : Int))) then (Option.bind (shape_within_1_r3_p l_ s183) (fun y186 : Unit => (bif (shape_within_1_r4_p l_ c1_ c2_ s183) then (some (Sum.inr (Sum.inr ()))) else (some (Sum.inl (IntKind.wrap .i64 (s183 + 1))))))) else (some (Sum.inr (Sum.inl s183))))
abbrev S14_5 (y188 : Int) : St := ⟨[(1, .one (.cell [di c1_])), (2, .one (.cell [di c2_])), (7, rl (.one (.int .i64)) l_), (8, ri (l_.length : Int)), (9, ri y188)], [], [], 22⟩
theorem shape_within_1_l2_b : R14 C14.r.l.r.b.b (S14_2 l_ c1_ c2_ s183) (loopKont 0 q) = Option.bind (shape_within_1_l2_p l_ c1_ c2_ s183) (either (fun y : Int => q .normal ⟨[(1, .one (.cell [di c1_])), (2, .one (.cell [di c2_])), (7, rl (.one (.int .i64)) l_), (8, ri (l_.length : Int)), (9, ri y)], [], [], 22⟩) (either (fun y188 : Int => q (.exit 0) (S14_5 l_ c1_ c2_ y188)) (fun y189 : Unit => q .ret S14_4))) := by
  refine .trans ?_ (bif_b (bind_b fun y186 => (bif_b e3_2 e3_0)) e3_1)
  refine (pre1 (shape_within_1_fz l_ c1_ c2_ s183 _)).trans ?_
  refine .trans seq_push ?_
  refine (cond_e (b := (decide (s183 < (l_.length : Int)))) (st' := (S14_2 l_ c1_ c2_ s183)) ).trans (bif_g ?_ ?_)
  · refine (skip_eq).trans ?_
    refine (seqC_normal (st' := (S14_2 l_ c1_ c2_ s183))).trans ?_
    refine .trans seq_push ?_
    refine (block_push (id := 1)).trans ?_
    refine (pre1 (shape_within_1_r3 l_ c1_ c2_ s183 _)).trans (bind_g fun y186 => ?_)
    refine (pre1 (shape_within_1_r4 l_ c1_ c2_ s183 _)).trans ?_
    refine (cond_e (b := (shape_within_1_r4_p l_ c1_ c2_ s183)) (st' := (S14_2 l_ c1_ c2_ s183)) ).trans (bif_g ?_ ?_)
    · refine (pre1 (shape_within_1_fzx1 l_ c1_ c2_ s183 _)).trans ?_
      refine (ret_eq).trans ?_
      refine block_ret.trans ?_
      refine seqC_ret.trans ?_
      kernel_rfl
    · refine (skip_eq).trans ?_
      refine block_normal.trans ?_
      refine (seqC_normal (st' := (S14_2 l_ c1_ c2_ s183))).trans ?_
      refine (shape_within_1_r6 l_ c1_ c2_ s183 _).trans ?_
      kernel_rfl
  · refine ((exit_eq (j := 0))).trans ?_
    refine seqC_exit.trans ?_
    kernel_rfl
theorem shape_within_1_l2 : R14 C14.r.l.r.b (S14_1 l_ c1_ c2_) q = Option.bind (iterN (shape_within_1_l2_p l_ c1_ c2_) LL (0 : Int)) (either (fun y188 : Int => q (.exit 0) (S14_5 l_ c1_ c2_ y188)) (fun y189 : Unit => q .ret S14_4)) :=
  Eq.trans (by kernel_rfl) (loop_iter2 (S := fun s183 : Int => (S14_2 l_ c1_ c2_ s183)) (Y1 := fun y188 : Int => ((.exit 0), (S14_5 l_ c1_ c2_ y188))) (Y2 := fun y189 : Unit => (.ret, S14_4)) (fun s q => shape_within_1_l2_b l_ c1_ c2_ s q) (fun z => rfl) (fun z => rfl) LL (0 : Int))
theorem shape_within_1_fzx2 : P14 1 C14.r.r ⟨[], [], [], 22⟩ k = k ⟨[(4, rb true)], [], [], 22⟩ := by kernel_rfl
/-- quilt/shape.within$1 -/
def shape_within_1 : Option Bool := (Option.bind (iterN (shape_within_1_l2_p l_ c1_ c2_) LL (0 : Int)) (either (fun y188 : Int => (some true)) (fun y189 : Unit => (some false))))
theorem shape_within_1_is : stepS E cp14 noE 66 [rl (.one (.int .i64)) l_, .one (.cell [di c1_]), .one (.cell [di c2_])] = Option.bind (shape_within_1 l_ c1_ c2_) (fun y : Bool => some (rb y : R)) := by
  refine .trans ?_ (bind_b (either_b (fun y188 => some_b) (fun y189 => some_b)))
  refine (stepG_is (nt := 22) (regs := [(0, rl (.one (.int .i64)) l_), (1, .one (.cell [di c1_])), (2, .one (.cell [di c2_]))])).trans ?_
  refine (pre1 (shape_within_1_f1 l_ c1_ c2_ _)).trans ?_
  refine .trans seq_push ?_
  refine (pre1 (shape_within_1_f2 l_ c1_ c2_ _)).trans ?_
  refine (block_push (id := 0)).trans ?_
  refine (shape_within_1_l2 l_ c1_ c2_ _).trans (bind_g (either_g (fun y188 => ?_) (fun y189 => ?_)))
  · refine block_same.trans ?_
    refine (seqC_normal (st' := ⟨[], [], [], 22⟩)).trans ?_
    refine (pre1 (shape_within_1_fzx2 _)).trans ?_
    refine (ret_eq).trans ?_
    kernel_rfl
  · refine block_ret.trans ?_
    refine seqC_ret.trans ?_
    kernel_rfl
noncomputable def cp15 : CallP := withC cp14 66 [(.one (.g (.sl (.one (.int .i64))))), (.one (.cell (.cons (.g (.int .i64)) .nil))), (.one (.cell (.cons (.g (.int .i64)) .nil)))] (.one pB) (fun y : Bool => y) (fun x => shape_within_1 x.1 x.2.1.1 x.2.2.1.1)
theorem cp15_ok : PureOK E cp15 := conS eok cp14_ok noE_ok fun x => Eq.mp (by kernel_rfl) (shape_within_1_is x.1 x.2.1.1 x.2.2.1.1)
end
noncomputable abbrev C15 := codeOf E.P 32
noncomputable abbrev P15 {α : Type} := @preK α E 32 cp15 noE
def shape_may_r1_p (s_ : I3) : Option Bool := (Option.bind (shape_within_1 [s_.1, s_.2.1] (((shape_within (1 : Int) (16 : Int)).1).1) (((shape_within (1 : Int) (16 : Int)).2.1).1)) (fun y190 : Bool => (bif y190 then (Option.bind (shape_within_1 [s_.2.2] (((shape_within (1 : Int) (8 : Int)).1).1) (((shape_within (1 : Int) (8 : Int)).2.1).1)) (fun y191 : Bool => (some y191))) else (some false))))
theorem shape_may_r1 {α : Type} (s_ : I3) (k : St → Option α) : P15 2 C15 ⟨[(0, rA tsI3 s_)], [], [], 17⟩ k = Option.bind (shape_may_r1_p s_) (fun y192 : Bool => k ⟨[(2, rb y192)], [], [], 17⟩) := .trans (by kernel_rfl) (bind_b fun y190 => (bif_b (bind_b fun y191 => some_b) some_b))
/-- quilt/shape.may -/
def shape_may (s_ : I3) : Option Bool := (Option.bind (shape_may_r1_p s_) (fun y192 : Bool => (some y192)))
theorem shape_may_is (s_ : I3) : stepS E cp15 noE 32 [rA tsI3 s_] = Option.bind (shape_may s_) (fun y : Bool => some (rb y : R)) := by
  refine .trans ?_ (bind_b fun y192 => some_b)
  refine (stepG_is (nt := 17) (regs := [(0, rA tsI3 s_)])).trans ?_
  refine (pre2 (shape_may_r1 s_ _)).trans (bind_g fun y192 => ?_)
  refine (ret_eq).trans ?_
  kernel_rfl
noncomputable def cp16 : CallP := withC cp15 32 [(.agg tsI3)] (.one pB) (fun y : Bool => y) (fun x => shape_may x.1)
theorem cp16_ok : PureOK E cp16 := conS eok cp15_ok noE_ok fun x => Eq.mp (by kernel_rfl) (shape_may_is x.1)
noncomputable abbrev C16 := codeOf E.P 38
noncomputable abbrev P16 {α : Type} := @preK α E 38 cp16 noE
theorem shape_May_f1 {α : Type} (s_ : I3) (k : St → Option α) : P16 1 C16 ⟨[(0, rA tsI3 s_)], [], [], 6⟩ k = k ⟨[(1, rC tsI3 s_)], [], [], 6⟩ := by kernel_rfl
theorem shape_May_r1 {α : Type} (s_ : I3) (k : St → Option α) : P16 1 C16.r.l ⟨[(1, rC tsI3 s_)], [], [], 6⟩ k = Option.bind (shape_may s_) fun y194 : Bool => k ⟨[(5, rb (!y194))], [], [], 6⟩ := by kernel_rfl
theorem shape_May_fz {α : Type} (k : St → Option α) : P16 1 C16.r.l.r.t ⟨[], [], [], 6⟩ k = k ⟨[(2, ri 10)], [], [], 6⟩ := by kernel_rfl
theorem shape_May_fzx1 {α : Type} (k : St → Option α) : P16 1 C16.r.r ⟨[], [], [], 6⟩ k = k ⟨[(2, ri 0)], [], [], 6⟩ := by kernel_rfl
/-- quilt/shape.May -/
def shape_May (s_ : I3) : Option Int := (Option.bind (shape_may s_) (fun y194 : Bool => (bif (!y194) then (some (10 : Int)) else (some (0 : Int)))))
theorem shape_May_is (s_ : I3) : stepS E cp16 noE 38 [rA tsI3 s_] = Option.bind (shape_May s_) (fun y : Int => some (ri y : R)) := by
  refine .trans ?_ (bind_b fun y194 => (bif_b some_b some_b))
  refine (stepG_is (nt := 6) (regs := [(0, rA tsI3 s_)])).trans ?_
  refine (pre1 (shape_May_f1 s_ _)).trans ?_
  refine .trans seq_push ?_
  refine (pre1 (shape_May_r1 s_ _)).trans (bind_g fun y194 => ?_)
  refine (cond_e (b := (!y194)) (st' := ⟨[], [], [], 6⟩) ).trans (bif_g ?_ ?_)
  · refine (pre1 (shape_May_fz _)).trans ?_
    refine (ret_eq).trans ?_
    refine seqC_ret.trans ?_
    kernel_rfl
  · refine (skip_eq).trans ?_
    refine (seqC_normal (st' := ⟨[], [], [], 6⟩)).trans ?_
    refine (pre1 (shape_May_fzx1 _)).trans ?_
    refine (ret_eq).trans ?_
    kernel_rfl
noncomputable def cp17 : CallP := withC cp16 38 [(.agg tsI3)] (.one pI) (fun y : Int => y) (fun x => shape_May x.1)
theorem cp17_ok : PureOK E cp17 := conS eok cp16_ok noE_ok fun x => Eq.mp (by kernel_rfl) (shape_May_is x.1)
noncomputable abbrev C17 := codeOf E.P 37
noncomputable abbrev P17 {α : Type} := @preK α E 37 cp17 noE
theorem graph_Value_2_r1 {α : Type} (v_ : I4) (k : St → Option α) : P17 2 C17 ⟨[(0, rA tsI4 v_)], [], [], 7⟩ k = Option.bind (shape_May (v_.1, v_.2.1, v_.2.2.1)) fun y195 : Int => k ⟨[(2, rb (y195 != 0))], [], [], 7⟩ := by kernel_rfl
/-- quilt/graph.Value$2 -/
def graph_Value_2 (v_ : I4) : Option Bool := (Option.bind (shape_May (v_.1, v_.2.1, v_.2.2.1)) (fun y195 : Int => (some (y195 != 0))))
theorem graph_Value_2_is (v_ : I4) : stepS E cp17 noE 37 [rA tsI4 v_] = Option.bind (graph_Value_2 v_) (fun y : Bool => some (rb y : R)) := by
  refine .trans ?_ (bind_b fun y195 => some_b)
  refine (stepG_is (nt := 7) (regs := [(0, rA tsI4 v_)])).trans ?_
  refine (pre2 (graph_Value_2_r1 v_ _)).trans (bind_g fun y195 => ?_)
  refine (ret_eq).trans ?_
  kernel_rfl
noncomputable def cp18 : CallP := withC cp17 37 [(.agg tsI4)] (.one pB) (fun y : Bool => y) (fun x => graph_Value_2 x.1)
theorem cp18_ok : PureOK E cp18 := conS eok cp17_ok noE_ok fun x => Eq.mp (by kernel_rfl) (graph_Value_2_is x.1)
section
variable {α : Type} (s_ : (List I4)) (s212 : Int) (k : St → Option α) (q : Kont α)
noncomputable abbrev C18 := codeOf E.P 64
noncomputable abbrev P18 := @preK α E 64 cp18 noE
noncomputable abbrev R18 := @runCode α E 64 cp18 noE
abbrev S18_0 : St := ⟨[(0, rl tsI4 s_), (1, .one (.fn 37 []))], [], [], 19⟩
theorem slices_IndexFuncapi_Value_api_Value_s2_f1 : P18 1 C18 (S18_0 s_) k = k (S18_0 s_) := by kernel_rfl
abbrev S18_1 : St := ⟨[(0, rl tsI4 s_), (1, .one (.fn 37 [])), (7, ri (s_.length : Int)), (8, ri 0)], [], [], 19⟩
theorem slices_IndexFuncapi_Value_api_Value_s2_f2 : P18 1 C18.r.l (S18_0 s_) k = k (S18_1 s_) := by kernel_rfl
abbrev S18_2 : St := ⟨[(0, rl tsI4 s_), (1, .one (.fn 37 [])), (7, ri (s_.length : Int)), (8, ri s212)], [], [], 19⟩
theorem slices_IndexFuncapi_Value_api_Value_s2_fz : P18 1 C18.r.l.r.b.b (S18_2 s_ s212) k = k ⟨[(0, rl tsI4 s_), (1, .one (.fn 37 [])), (7, ri (s_.length : Int)), (8, ri s212), (9, rb (decide (s212 < (s_.length : Int))))], [], [], 19⟩ := by kernel_rfl
def slices_IndexFuncapi_Value_api_Value_s2_r4_p : Option Bool := (bif (decide ((0 : Int) ≤ s212)) then (bif (decide (s212 < (s_.length : Int))) then (Option.bind (graph_Value_2 (gt s_ s212 dI4)) (fun y215 : Bool => (some y215))) else none) else none)
theorem slices_IndexFuncapi_Value_api_Value_s2_r4 : P18 2 C18.r.l.r.b.b.r.r.l.b (S18_2 s_ s212) k = Option.bind (slices_IndexFuncapi_Value_api_Value_s2_r4_p s_ s212) (fun y216 : Bool => k ⟨[(0, rl tsI4 s_), (1, .one (.fn 37 [])), (5, ri s212), (7, ri (s_.length : Int)), (8, ri s212), (16, rb y216)], [], [], 19⟩) := .trans (by kernel_rfl) (bif_b (bif_b (bind_b fun y215 => some_b) none_b) none_b)
abbrev S18_3 : St := ⟨[(0, rl tsI4 s_), (1, .one (.fn 37 [])), (5, ri s212), (7, ri (s_.length : Int)), (8, ri s212)], [], [], 19⟩
theorem slices_IndexFuncapi_Value_api_Value_s2_fzx1 : P18 1 C18.r.l.r.b.b.r.r.l.b.r.r.t (S18_3 s_ s212) k = k ⟨[(4, ri s212)], [], [], 19⟩ := by kernel_rfl
theorem slices_IndexFuncapi_Value_api_Value_s2_r6 : R18 C18.r.l.r.b.b.r.r.r (S18_2 s_ s212) q = q .normal ⟨[(0, rl tsI4 s_), (1, .one (.fn 37 [])), (7, ri (s_.length : Int)), (8, ri (IntKind.wrap .i64 (s212 + 1)))], [], [], 19⟩ := by kernel_rfl
def slices_IndexFuncapi_Value_api_Value_s2_l2_p : Option (Int ⊕ (Int ⊕ Int)) := (bif (decide (s212 < (s_.length : Int))) then (Option.bind (slices_IndexFuncapi_Value_api_Value_s2_r4_p s_ s212) (fun y216 : Bool => (bif y216 then (some (Sum.inr (Sum.inr s212))) else (some (Sum.inl (IntKind.wrap .i64 (s212 + 1))))))) else (some (Sum.inr (Sum.inl s212))))
abbrev S18_4 (y217 : Int) : St := ⟨[(0, rl tsI4 s_), (1, .one (.fn 37 [])), (7, ri (s_.length : Int)), (8, ri y217)], [], [], 19⟩
theorem slices_IndexFuncapi_Value_api_Value_s2_l2_b : R18 C18.r.l.r.b.b (S18_2 s_ s212) (loopKont 0 q) = Option.bind (slices_IndexFuncapi_Value_api_Value_s2_l2_p s_ s212) (either (fun y : Int => q .normal ⟨[(0, rl tsI4 s_), (1, .one (.fn 37 [])), (7, ri (s_.length : Int)), (8, ri y)], [], [], 19⟩) (either (fun y217 : Int => q (.exit 0) (S18_4 s_ y217)) (fun y218 : Int => q .ret ⟨[(4, ri y218)], [], [], 19⟩))) := by
  refine .trans ?_ (bif_b (bind_b fun y216 => (bif_b e3_2 e3_0)) e3_1)
  refine (pre1 (slices_IndexFuncapi_Value_api_Value_s2_fz s_ s212 _)).trans ?_
  refine .trans seq_push ?_
  refine (cond_e (b := (decide (s212 < (s_.length : Int)))) (st' := (S18_2 s_ s212)) ).trans (bif_g ?_ ?_)
  · refine (skip_eq).trans ?_
    refine (seqC_normal (st' := (S18_2 s_ s212))).trans ?_
    refine .trans seq_push ?_
    refine (block_push (id := 1)).trans ?_
    refine (pre2 (slices_IndexFuncapi_Value_api_Value_s2_r4 s_ s212 _)).trans (bind_g fun y216 => ?_)
    refine (cond_e (b := y216) (st' := (S18_3 s_ s212)) ).trans (bif_g ?_ ?_)
    · refine (pre1 (slices_IndexFuncapi_Value_api_Value_s2_fzx1 s_ s212 _)).trans ?_
      refine (ret_eq).trans ?_
      refine block_ret.trans ?_
      refine seqC_ret.trans ?_
      kernel_rfl
    · refine (skip_eq).trans ?_
      refine block_normal.trans ?_
      refine (seqC_normal (st' := (S18_2 s_ s212))).trans ?_
      refine (slices_IndexFuncapi_Value_api_Value_s2_r6 s_ s212 _).trans ?_
      kernel_rfl
  · refine ((exit_eq (j := 0))).trans ?_
    refine seqC_exit.trans ?_
    kernel_rfl
theorem slices_IndexFuncapi_Value_api_Value_s2_l2 : R18 C18.r.l.r.b (S18_1 s_) q = Option.bind (iterN (slices_IndexFuncapi_Value_api_Value_s2_l2_p s_) LL (0 : Int)) (either (fun y217 : Int => q (.exit 0) (S18_4 s_ y217)) (fun y218 : Int => q .ret ⟨[(4, ri y218)], [], [], 19⟩)) :=
  Eq.trans (by kernel_rfl) (loop_iter2 (S := fun s212 : Int => (S18_2 s_ s212)) (Y1 := fun y217 : Int => ((.exit 0), (S18_4 s_ y217))) (Y2 := fun y218 : Int => (.ret, ⟨[(4, ri y218)], [], [], 19⟩)) (fun s q => slices_IndexFuncapi_Value_api_Value_s2_l2_b s_ s q) (fun z => rfl) (fun z => rfl) LL (0 : Int))
theorem slices_IndexFuncapi_Value_api_Value_s2_fzx2 : P18 1 C18.r.r ⟨[], [], [], 19⟩ k = k ⟨[(4, ri (-1 : Int))], [], [], 19⟩ := by kernel_rfl
/-- slices.IndexFunc[[]quilt/api.Value,quilt/api.Value] -/
def slices_IndexFuncapi_Value_api_Value_s2 : Option Int := (Option.bind (iterN (slices_IndexFuncapi_Value_api_Value_s2_l2_p s_) LL (0 : Int)) (either (fun y217 : Int => (some (-1 : Int))) (fun y218 : Int => (some y218))))
theorem slices_IndexFuncapi_Value_api_Value_s2_is : stepS E cp18 noE 64 [rl tsI4 s_, .one (.fn 37 [])] = Option.bind (slices_IndexFuncapi_Value_api_Value_s2 s_) (fun y : Int => some (ri y : R)) := by
  refine .trans ?_ (bind_b (either_b (fun y217 => some_b) (fun y218 => some_b)))
  refine (stepG_is (nt := 19) (regs := [(0, rl tsI4 s_), (1, .one (.fn 37 []))])).trans ?_
  refine (pre1 (slices_IndexFuncapi_Value_api_Value_s2_f1 s_ _)).trans ?_
  refine .trans seq_push ?_
  refine (pre1 (slices_IndexFuncapi_Value_api_Value_s2_f2 s_ _)).trans ?_
  refine (block_push (id := 0)).trans ?_
  refine (slices_IndexFuncapi_Value_api_Value_s2_l2 s_ _).trans (bind_g (either_g (fun y217 => ?_) (fun y218 => ?_)))
  · refine block_same.trans ?_
    refine (seqC_normal (st' := ⟨[], [], [], 19⟩)).trans ?_
    refine (pre1 (slices_IndexFuncapi_Value_api_Value_s2_fzx2 _)).trans ?_
    refine (ret_eq).trans ?_
    kernel_rfl
  · refine block_ret.trans ?_
    refine seqC_ret.trans ?_
    kernel_rfl
noncomputable def cp19 : CallP := withC cp18 64 [(pL tsI4), (.one (.fn 37 .nil))] (.one pI) (fun y : Int => y) (fun x => slices_IndexFuncapi_Value_api_Value_s2 x.1)
theorem cp19_ok : PureOK E cp19 := conS eok cp18_ok noE_ok fun x => Eq.mp (by kernel_rfl) (slices_IndexFuncapi_Value_api_Value_s2_is x.1)
end
noncomputable abbrev C19 := codeOf E.P 35
noncomputable abbrev P19 {α : Type} := @preK α E 35 cp19 noE
theorem slices_ContainsFuncapi_Value_api_Value_s2_r1 {α : Type} (s_ : (List I4)) (k : St → Option α) : P19 2 C19 ⟨[(0, rl tsI4 s_), (1, .one (.fn 37 []))], [], [], 9⟩ k = Option.bind (slices_IndexFuncapi_Value_api_Value_s2 s_) fun y219 : Int => k ⟨[(4, rb (decide (y219 ≥ 0)))], [], [], 9⟩ := by kernel_rfl
/-- slices.ContainsFunc[[]quilt/api.Value,quilt/api.Value] -/
def slices_ContainsFuncapi_Value_api_Value_s2 (s_ : (List I4)) : Option Bool := (Option.bind (slices_IndexFuncapi_Value_api_Value_s2 s_) (fun y219 : Int => (some (decide (y219 ≥ 0)))))
theorem slices_ContainsFuncapi_Value_api_Value_s2_is (s_ : (List I4)) : stepS E cp19 noE 35 [rl tsI4 s_, .one (.fn 37 [])] = Option.bind (slices_ContainsFuncapi_Value_api_Value_s2 s_) (fun y : Bool => some (rb y : R)) := by
  refine .trans ?_ (bind_b fun y219 => some_b)
  refine (stepG_is (nt := 9) (regs := [(0, rl tsI4 s_), (1, .one (.fn 37 []))])).trans ?_
  refine (pre2 (slices_ContainsFuncapi_Value_api_Value_s2_r1 s_ _)).trans (bind_g fun y219 => ?_)
  refine (ret_eq).trans ?_
  kernel_rfl
noncomputable def cp20 : CallP := withC cp19 35 [(pL tsI4), (.one (.fn 37 .nil))] (.one pB) (fun y : Bool => y) (fun x => slices_ContainsFuncapi_Value_api_Value_s2 x.1)
theorem cp20_ok : PureOK E cp20 := conS eok cp19_ok noE_ok fun x => Eq.mp (by kernel_rfl) (slices_ContainsFuncapi_Value_api_Value_s2_is x.1)
section
variable {α β : Type} (a0 : Node) (a_ : I3) (a2 : I3) (k : St → Option α)
noncomputable abbrev C20 := codeOf E.P 49
noncomputable abbrev P20 := @preK α E 49 cp20 noE
theorem graph_first_fz : P20 2 C20 ⟨[(0, rA tsNode a0), (1, rA tsI3 a_), (2, rA tsI3 a2)], [], [], 8⟩ k = k ⟨[(6, rF 0)], [(tsI3.leaves a_)], [], 8⟩ := by kernel_rfl
/-- quilt/graph.first -/
def graph_first_q {β : Type} (a0 : Node) (a_ : I3) (a2 : I3) (K : I3 → β) : β := (K a_)
def graph_first : I3 := graph_first_q a0 a_ a2 (fun y => y)
theorem graph_first_n (K : I3 → β) : graph_first_q a0 a_ a2 K = K (graph_first a0 a_ a2) := rfl
theorem graph_first_is : stepS E cp20 noE 49 [rA tsNode a0, rA tsI3 a_, rA tsI3 a2] = (fun y : I3 => some (rA tsI3 y : R)) (graph_first a0 a_ a2) := by
  refine Eq.trans ?_ (graph_first_n a0 a_ a2 (fun y : I3 => some (rA tsI3 y : R)))
  refine (stepG_is (nt := 8) (regs := [(0, rA tsNode a0), (1, rA tsI3 a_), (2, rA tsI3 a2)])).trans ?_
  unfold graph_first_q
  refine (pre2 (graph_first_fz a0 a_ a2 _)).trans ?_
  refine (ret_eq).trans ?_
  kernel_rfl
noncomputable def cp21 : CallP := withC cp20 49 [(.agg tsNode), (.agg tsI3), (.agg tsI3)] (.one (.agg tsI3)) (fun y : I3 => y) (fun x => some (graph_first x.1 x.2.1 x.2.2.1))
theorem cp21_ok : PureOK E cp21 := conS eok cp20_ok noE_ok fun x => Eq.mp (by kernel_rfl) (graph_first_is x.1 x.2.1 x.2.2.1)
end
section
variable {α : Type} (size : Int) (k_ : Int) (stride : Int) (pad : Int) (k : St → Option α)
noncomputable abbrev C21 := codeOf E.P 47
noncomputable abbrev P21 := @preK α E 47 cp21 noE
abbrev S21_0 : St := ⟨[(0, ri size), (1, ri k_), (2, ri stride), (3, ri pad)], [], [], 46⟩
theorem shape_Out_f1 : P21 1 C21 (S21_0 size k_ stride pad) k = k (S21_0 size k_ stride pad) := by kernel_rfl
def shape_Out_r1_p : Option Bool := (Option.bind (shape_within_1 [size] (((shape_within (1 : Int) (64 : Int)).1).1) (((shape_within (1 : Int) (64 : Int)).2.1).1)) (fun y228 : Bool => (bif (!y228) then (some true) else (Option.bind (shape_within_1 [k_, stride] (((shape_within (1 : Int) (16 : Int)).1).1) (((shape_within (1 : Int) (16 : Int)).2.1).1)) (fun y229 : Bool => (bif (!y229) then (some true) else (Option.bind (shape_within_1 [pad] (((shape_within (0 : Int) (16 : Int)).1).1) (((shape_within (0 : Int) (16 : Int)).2.1).1)) (fun y230 : Bool => (bif (!y230) then (some true) else (some (decide (k_ > (IntKind.wrap .i64 (size + (IntKind.wrap .i64 ((2 : Int) * pad))))))))))))))))
theorem shape_Out_r1 : P21 1 C21.r.l (S21_0 size k_ stride pad) k = Option.bind (shape_Out_r1_p size k_ stride pad) (fun y231 : Bool => k ⟨[(0, ri size), (1, ri k_), (2, ri stride), (3, ri pad), (36, rb y231)], [], [], 46⟩) := .trans (by kernel_rfl) (bind_b fun y228 => (bif_b some_b (bind_b fun y229 => (bif_b some_b (bind_b fun y230 => (bif_b some_b some_b))))))
theorem shape_Out_fz : P21 1 C21.r.l.r.t (S21_0 size k_ stride pad) k = k ⟨[(8, ri 0)], [], [], 46⟩ := by kernel_rfl
def shape_Out_r3_p : Option Int := (bif (stride == 0) then none else (some (IntKind.wrap .i64 ((1 : Int) + (IntKind.wrap .i64 (Int.tdiv (IntKind.wrap .i64 ((IntKind.wrap .i64 (size + (IntKind.wrap .i64 ((2 : Int) * pad)))) - k_)) stride))))))
theorem shape_Out_r3 : P21 1 C21.r.r (S21_0 size k_ stride pad) k = Option.bind (shape_Out_r3_p size k_ stride pad) (fun y232 : Int => k ⟨[(8, ri y232)], [], [], 46⟩) := .trans (by kernel_rfl) (bif_b none_b some_b)
/-- quilt/shape.Out -/
def shape_Out : Option Int := (Option.bind (shape_Out_r1_p size k_ stride pad) (fun y231 : Bool => (bif y231 then (some (0 : Int)) else (Option.bind (shape_Out_r3_p size k_ stride pad) (fun y232 : Int => (some y232))))))
theorem shape_Out_is : stepS E cp21 noE 47 [ri size, ri k_, ri stride, ri pad] = Option.bind (shape_Out size k_ stride pad) (fun y : Int => some (ri y : R)) := by
  refine .trans ?_ (bind_b fun y231 => (bif_b some_b (bind_b fun y232 => some_b)))
  refine (stepG_is (nt := 46) (regs := [(0, ri size), (1, ri k_), (2, ri stride), (3, ri pad)])).trans ?_
  refine (pre1 (shape_Out_f1 size k_ stride pad _)).trans ?_
  refine .trans seq_push ?_
  refine (pre1 (shape_Out_r1 size k_ stride pad _)).trans (bind_g fun y231 => ?_)
  refine (cond_e (b := y231) (st' := (S21_0 size k_ stride pad)) ).trans (bif_g ?_ ?_)
  · refine (pre1 (shape_Out_fz size k_ stride pad _)).trans ?_
    refine (ret_eq).trans ?_
    refine seqC_ret.trans ?_
    kernel_rfl
  · refine (skip_eq).trans ?_
    refine (seqC_normal (st' := (S21_0 size k_ stride pad))).trans ?_
    refine (pre1 (shape_Out_r3 size k_ stride pad _)).trans (bind_g fun y232 => ?_)
    refine (ret_eq).trans ?_
    kernel_rfl
noncomputable def cp22 : CallP := withC cp21 47 [pI, pI, pI, pI] (.one pI) (fun y : Int => y) (fun x => shape_Out x.1 x.2.1 x.2.2.1 x.2.2.2.1)
theorem cp22_ok : PureOK E cp22 := conS eok cp21_ok noE_ok fun x => Eq.mp (by kernel_rfl) (shape_Out_is x.1 x.2.1 x.2.2.1 x.2.2.2.1)
end
section
variable {α : Type} (n_ : Node) (s_ : I3) (c_ : Int) (k : St → Option α)
noncomputable abbrev C22 := codeOf E.P 52
noncomputable abbrev P22 := @preK α E 52 cp22 noE
def graph_slid_r1_p : Option (Int × Int) := (Option.bind (shape_Out s_.1 n_.2.2.1 n_.2.2.2.1 n_.2.2.2.2.1) (fun y233 : Int => (Option.bind (shape_Out s_.2.1 n_.2.2.1 n_.2.2.2.1 n_.2.2.2.2.1) (fun y234 : Int => (some (y233, y234))))))
theorem graph_slid_r1 : P22 2 C22 ⟨[(0, rA tsNode n_), (1, rA tsI3 s_), (2, ri c_)], [], [], 27⟩ k = Option.bind (graph_slid_r1_p n_ s_) (fun y235 : (Int × Int) => k ⟨[(6, rF 0)], [[di y235.1, di y235.2, di c_]], [], 27⟩) := .trans (by kernel_rfl) (bind_b fun y233 => (bind_b fun y234 => some_b))
/-- quilt/graph.slid -/
def graph_slid : Option I3 := (Option.bind (graph_slid_r1_p n_ s_) (fun y235 : (Int × Int) => (some (y235.1, y235.2, c_))))
theorem graph_slid_is : stepS E cp22 noE 52 [rA tsNode n_, rA tsI3 s_, ri c_] = Option.bind (graph_slid n_ s_ c_) (fun y : I3 => some (rA tsI3 y : R)) := by
  refine .trans ?_ (bind_b fun y235 => some_b)
  refine (stepG_is (nt := 27) (regs := [(0, rA tsNode n_), (1, rA tsI3 s_), (2, ri c_)])).trans ?_
  refine (pre2 (graph_slid_r1 n_ s_ c_ _)).trans (bind_g fun y235 => ?_)
  refine (ret_eq).trans ?_
  kernel_rfl
noncomputable def cp23 : CallP := withC cp22 52 [(.agg tsNode), (.agg tsI3), pI] (.one (.agg tsI3)) (fun y : I3 => y) (fun x => graph_slid x.1 x.2.1 x.2.2.1)
theorem cp23_ok : PureOK E cp23 := conS eok cp22_ok noE_ok fun x => Eq.mp (by kernel_rfl) (graph_slid_is x.1 x.2.1 x.2.2.1)
end
section
variable {α : Type} (n_ : Node) (a_ : I3) (a2 : I3) (k : St → Option α)
noncomputable abbrev C23 := codeOf E.P 51
noncomputable abbrev P23 := @preK α E 51 cp23 noE
theorem graph_of_1_r1 : P23 2 C23 ⟨[(0, rA tsNode n_), (1, rA tsI3 a_), (2, rA tsI3 a2)], [], [], 12⟩ k = Option.bind (graph_slid n_ a_ n_.2.2.2.2.2.1) fun y236 : I3 => k ⟨[(6, rF 0)], [(tsI3.leaves y236)], [], 12⟩ := by kernel_rfl
/-- quilt/graph.of$1 -/
def graph_of_1 (n_ : Node) (a_ : I3) (a2 : I3) : Option I3 := (Option.bind (graph_slid n_ a_ n_.2.2.2.2.2.1) (fun y236 : I3 => (some y236)))
theorem graph_of_1_is : stepS E cp23 noE 51 [rA tsNode n_, rA tsI3 a_, rA tsI3 a2] = Option.bind (graph_of_1 n_ a_ a2) (fun y : I3 => some (rA tsI3 y : R)) := by
  refine .trans ?_ (bind_b fun y236 => some_b)
  refine (stepG_is (nt := 12) (regs := [(0, rA tsNode n_), (1, rA tsI3 a_), (2, rA tsI3 a2)])).trans ?_
  refine (pre2 (graph_of_1_r1 n_ a_ a2 _)).trans (bind_g fun y236 => ?_)
  refine (ret_eq).trans ?_
  kernel_rfl
noncomputable def cp24 : CallP := withC cp23 51 [(.agg tsNode), (.agg tsI3), (.agg tsI3)] (.one (.agg tsI3)) (fun y : I3 => y) (fun x => graph_of_1 x.1 x.2.1 x.2.2.1)
theorem cp24_ok : PureOK E cp24 := conS eok cp23_ok noE_ok fun x => Eq.mp (by kernel_rfl) (graph_of_1_is x.1 x.2.1 x.2.2.1)
end
section
variable {α : Type} (n_ : Node) (a_ : I3) (a2 : I3) (k : St → Option α)
noncomputable abbrev C24 := codeOf E.P 54
noncomputable abbrev P24 := @preK α E 54 cp24 noE
theorem graph_pooled_r1 : P24 2 C24 ⟨[(0, rA tsNode n_), (1, rA tsI3 a_), (2, rA tsI3 a2)], [], [], 12⟩ k = Option.bind (graph_slid n_ a_ a_.2.2) fun y239 : I3 => k ⟨[(6, rF 0)], [(tsI3.leaves y239)], [], 12⟩ := by kernel_rfl
/-- quilt/graph.pooled -/
def graph_pooled (n_ : Node) (a_ : I3) (a2 : I3) : Option I3 := (Option.bind (graph_slid n_ a_ a_.2.2) (fun y239 : I3 => (some y239)))
theorem graph_pooled_is : stepS E cp24 noE 54 [rA tsNode n_, rA tsI3 a_, rA tsI3 a2] = Option.bind (graph_pooled n_ a_ a2) (fun y : I3 => some (rA tsI3 y : R)) := by
  refine .trans ?_ (bind_b fun y239 => some_b)
  refine (stepG_is (nt := 12) (regs := [(0, rA tsNode n_), (1, rA tsI3 a_), (2, rA tsI3 a2)])).trans ?_
  refine (pre2 (graph_pooled_r1 n_ a_ a2 _)).trans (bind_g fun y239 => ?_)
  refine (ret_eq).trans ?_
  kernel_rfl
noncomputable def cp25 : CallP := withC cp24 54 [(.agg tsNode), (.agg tsI3), (.agg tsI3)] (.one (.agg tsI3)) (fun y : I3 => y) (fun x => graph_pooled x.1 x.2.1 x.2.2.1)
theorem cp25_ok : PureOK E cp25 := conS eok cp24_ok noE_ok fun x => Eq.mp (by kernel_rfl) (graph_pooled_is x.1 x.2.1 x.2.2.1)
end
section
variable {α β : Type} (n_ : Node) (a1 : I3) (a2 : I3) (k : St → Option α)
noncomputable abbrev C25 := codeOf E.P 56
noncomputable abbrev P25 := @preK α E 56 cp25 noE
theorem graph_of_4_fz : P25 2 C25 ⟨[(0, rA tsNode n_), (1, rA tsI3 a1), (2, rA tsI3 a2)], [], [], 10⟩ k = k ⟨[(6, rF 0)], [[di 1, di 1, di n_.2.2.2.2.2.1]], [], 10⟩ := by kernel_rfl
/-- quilt/graph.of$4 -/
def graph_of_4_q {β : Type} (n_ : Node) (a1 : I3) (a2 : I3) (K : I3 → β) : β := (K ((1 : Int), (1 : Int), n_.2.2.2.2.2.1))
def graph_of_4 : I3 := graph_of_4_q n_ a1 a2 (fun y => y)
theorem graph_of_4_n (K : I3 → β) : graph_of_4_q n_ a1 a2 K = K (graph_of_4 n_ a1 a2) := rfl
theorem graph_of_4_is : stepS E cp25 noE 56 [rA tsNode n_, rA tsI3 a1, rA tsI3 a2] = (fun y : I3 => some (rA tsI3 y : R)) (graph_of_4 n_ a1 a2) := by
  refine Eq.trans ?_ (graph_of_4_n n_ a1 a2 (fun y : I3 => some (rA tsI3 y : R)))
  refine (stepG_is (nt := 10) (regs := [(0, rA tsNode n_), (1, rA tsI3 a1), (2, rA tsI3 a2)])).trans ?_
  unfold graph_of_4_q
  refine (pre2 (graph_of_4_fz n_ a1 a2 _)).trans ?_
  refine (ret_eq).trans ?_
  kernel_rfl
noncomputable def cp26 : CallP := withC cp25 56 [(.agg tsNode), (.agg tsI3), (.agg tsI3)] (.one (.agg tsI3)) (fun y : I3 => y) (fun x => some (graph_of_4 x.1 x.2.1 x.2.2.1))
theorem cp26_ok : PureOK E cp26 := conS eok cp25_ok noE_ok fun x => Eq.mp (by kernel_rfl) (graph_of_4_is x.1 x.2.1 x.2.2.1)
end
section
variable {α β : Type} (a0 : Node) (a_ : I3) (b_ : I3) (k : St → Option α)
noncomputable abbrev C26 := codeOf E.P 59
noncomputable abbrev P26 := @preK α E 59 cp26 noE
abbrev S26_0 : St := ⟨[(4, rC tsI3 a_), (5, rC tsI3 b_), (6, rF 0)], [[di 0, di 0, di 0]], [], 12⟩
theorem graph_same_f1 : P26 1 C26 ⟨[(0, rA tsNode a0), (1, rA tsI3 a_), (2, rA tsI3 b_)], [], [], 12⟩ k = k (S26_0 a_ b_) := by kernel_rfl
theorem graph_same_f1000002 : P26 1 C26.r.l (S26_0 a_ b_) k = k ⟨[(4, rC tsI3 a_), (6, rF 0), (9, rb (!((a_.1 == b_.1) && ((a_.2.1 == b_.2.1) && ((a_.2.2 == b_.2.2) && true)))))], [[di 0, di 0, di 0]], [], 12⟩ := by kernel_rfl
abbrev S26_1 : St := ⟨[(4, rC tsI3 a_), (6, rF 0)], [[di 0, di 0, di 0]], [], 12⟩
theorem graph_same_fz : P26 1 C26.r.l.r.t (S26_1 a_) k = k ⟨[(6, rF 0)], [[di 0, di 0, di 0]], [], 12⟩ := by kernel_rfl
theorem graph_same_fzx1 : P26 1 C26.r.r (S26_1 a_) k = k ⟨[(6, rF 0)], [(tsI3.leaves a_)], [], 12⟩ := by kernel_rfl
/-- quilt/graph.same -/
def graph_same_q {β : Type} (a0 : Node) (a_ : I3) (b_ : I3) (K : I3 → β) : β := (bif (!((a_.1 == b_.1) && ((a_.2.1 == b_.2.1) && ((a_.2.2 == b_.2.2) && true)))) then (K ((0 : Int), (0 : Int), (0 : Int))) else (K a_))
def graph_same : I3 := graph_same_q a0 a_ b_ (fun y => y)
theorem graph_same_n (K : I3 → β) : graph_same_q a0 a_ b_ K = K (graph_same a0 a_ b_) := (bif_k K rfl rfl)
theorem graph_same_is : stepS E cp26 noE 59 [rA tsNode a0, rA tsI3 a_, rA tsI3 b_] = (fun y : I3 => some (rA tsI3 y : R)) (graph_same a0 a_ b_) := by
  refine Eq.trans ?_ (graph_same_n a0 a_ b_ (fun y : I3 => some (rA tsI3 y : R)))
  refine (stepG_is (nt := 12) (regs := [(0, rA tsNode a0), (1, rA tsI3 a_), (2, rA tsI3 b_)])).trans ?_
  unfold graph_same_q
  refine (pre1 (graph_same_f1 a0 a_ b_ _)).trans ?_
  refine .trans seq_push ?_
  refine (pre1 (graph_same_f1000002 a_ b_ _)).trans ?_
  refine (cond_e (b := (!((a_.1 == b_.1) && ((a_.2.1 == b_.2.1) && ((a_.2.2 == b_.2.2) && true))))) (st' := (S26_1 a_)) ).trans (bif_g ?_ ?_)
  · refine (pre1 (graph_same_fz a_ _)).trans ?_
    refine (ret_eq).trans ?_
    refine seqC_ret.trans ?_
    kernel_rfl
  · refine (skip_eq).trans ?_
    refine (seqC_normal (st' := (S26_1 a_))).trans ?_
    refine (pre1 (graph_same_fzx1 a_ _)).trans ?_
    refine (ret_eq).trans ?_
    kernel_rfl
noncomputable def cp27 : CallP := withC cp26 59 [(.agg tsNode), (.agg tsI3), (.agg tsI3)] (.one (.agg tsI3)) (fun y : I3 => y) (fun x => some (graph_same x.1 x.2.1 x.2.2.1))
theorem cp27_ok : PureOK E cp27 := conS eok cp26_ok noE_ok fun x => Eq.mp (by kernel_rfl) (graph_same_is x.1 x.2.1 x.2.2.1)
end
section
variable {α β : Type} (a0 : Node) (a_ : I3) (a2 : I3) (k : St → Option α)
noncomputable abbrev C27 := codeOf E.P 60
noncomputable abbrev P27 := @preK α E 60 cp27 noE
theorem graph_of_6_fz : P27 2 C27 ⟨[(0, rA tsNode a0), (1, rA tsI3 a_), (2, rA tsI3 a2)], [], [], 16⟩ k = k ⟨[(6, rF 0)], [[di (IntKind.wrap .i64 (a_.1 + 2)), di (IntKind.wrap .i64 (a_.2.1 + 2)), di a_.2.2]], [], 16⟩ := by kernel_rfl
/-- quilt/graph.of$6 -/
def graph_of_6_q {β : Type} (a0 : Node) (a_ : I3) (a2 : I3) (K : I3 → β) : β := (K ((IntKind.wrap .i64 (a_.1 + 2)), (IntKind.wrap .i64 (a_.2.1 + 2)), a_.2.2))
def graph_of_6 : I3 := graph_of_6_q a0 a_ a2 (fun y => y)
theorem graph_of_6_n (K : I3 → β) : graph_of_6_q a0 a_ a2 K = K (graph_of_6 a0 a_ a2) := rfl
theorem graph_of_6_is : stepS E cp27 noE 60 [rA tsNode a0, rA tsI3 a_, rA tsI3 a2] = (fun y : I3 => some (rA tsI3 y : R)) (graph_of_6 a0 a_ a2) := by
  refine Eq.trans ?_ (graph_of_6_n a0 a_ a2 (fun y : I3 => some (rA tsI3 y : R)))
  refine (stepG_is (nt := 16) (regs := [(0, rA tsNode a0), (1, rA tsI3 a_), (2, rA tsI3 a2)])).trans ?_
  unfold graph_of_6_q
  refine (pre2 (graph_of_6_fz a0 a_ a2 _)).trans ?_
  refine (ret_eq).trans ?_
  kernel_rfl
noncomputable def cp28 : CallP := withC cp27 60 [(.agg tsNode), (.agg tsI3), (.agg tsI3)] (.one (.agg tsI3)) (fun y : I3 => y) (fun x => some (graph_of_6 x.1 x.2.1 x.2.2.1))
theorem cp28_ok : PureOK E cp28 := conS eok cp27_ok noE_ok fun x => Eq.mp (by kernel_rfl) (graph_of_6_is x.1 x.2.1 x.2.2.1)
end
section
variable {α β : Type} (a0 : Node) (a_ : I3) (b_ : I3) (k : St → Option α)
noncomputable abbrev C28 := codeOf E.P 61
noncomputable abbrev P28 := @preK α E 61 cp28 noE
abbrev S28_0 : St := ⟨[(4, rC tsI3 a_), (5, rC tsI3 b_), (6, rF 0)], [[di 0, di 0, di 0]], [], 30⟩
theorem graph_beside_f1 : P28 1 C28 ⟨[(0, rA tsNode a0), (1, rA tsI3 a_), (2, rA tsI3 b_)], [], [], 30⟩ k = k (S28_0 a_ b_) := by kernel_rfl
def graph_beside_r1_q (K : Bool → β) : β := (bif (a_.1 != b_.1) then (K true) else (K (a_.2.1 != b_.2.1)))
def graph_beside_r1_p : Bool := graph_beside_r1_q a_ b_ (fun y => y)
theorem graph_beside_r1_n (K : Bool → β) : graph_beside_r1_q a_ b_ K = K (graph_beside_r1_p a_ b_) := (bif_k K rfl rfl)
theorem graph_beside_r1 : P28 1 C28.r.l (S28_0 a_ b_) k = k ⟨[(4, rC tsI3 a_), (5, rC tsI3 b_), (6, rF 0), (18, rb (graph_beside_r1_p a_ b_))], [[di 0, di 0, di 0]], [], 30⟩ := Eq.trans (by kernel_rfl) (graph_beside_r1_n a_ b_ (fun y246 : Bool => k ⟨[(4, rC tsI3 a_), (5, rC tsI3 b_), (6, rF 0), (18, rb y246)], [[di 0, di 0, di 0]], [], 30⟩))
theorem graph_beside_fz : P28 1 C28.r.l.r.t (S28_0 a_ b_) k = k ⟨[(6, rF 0)], [[di 0, di 0, di 0]], [], 30⟩ := by kernel_rfl
theorem graph_beside_fzx1 : P28 1 C28.r.r (S28_0 a_ b_) k = k ⟨[(6, rF 0)], [[di a_.1, di a_.2.1, di (IntKind.wrap .i64 (a_.2.2 + b_.2.2))]], [], 30⟩ := by kernel_rfl
/-- quilt/graph.beside -/
def graph_beside_q {β : Type} (a0 : Node) (a_ : I3) (b_ : I3) (K : I3 → β) : β := (bif (graph_beside_r1_p a_ b_) then (K ((0 : Int), (0 : Int), (0 : Int))) else (K (a_.1, a_.2.1, (IntKind.wrap .i64 (a_.2.2 + b_.2.2)))))
def graph_beside : I3 := graph_beside_q a0 a_ b_ (fun y => y)
theorem graph_beside_n (K : I3 → β) : graph_beside_q a0 a_ b_ K = K (graph_beside a0 a_ b_) := (bif_k K rfl rfl)
theorem graph_beside_is : stepS E cp28 noE 61 [rA tsNode a0, rA tsI3 a_, rA tsI3 b_] = (fun y : I3 => some (rA tsI3 y : R)) (graph_beside a0 a_ b_) := by
  refine Eq.trans ?_ (graph_beside_n a0 a_ b_ (fun y : I3 => some (rA tsI3 y : R)))
  refine (stepG_is (nt := 30) (regs := [(0, rA tsNode a0), (1, rA tsI3 a_), (2, rA tsI3 b_)])).trans ?_
  unfold graph_beside_q
  refine (pre1 (graph_beside_f1 a0 a_ b_ _)).trans ?_
  refine .trans seq_push ?_
  refine (pre1 (graph_beside_r1 a_ b_ _)).trans ?_
  refine (cond_e (b := (graph_beside_r1_p a_ b_)) (st' := (S28_0 a_ b_)) ).trans (bif_g ?_ ?_)
  · refine (pre1 (graph_beside_fz a_ b_ _)).trans ?_
    refine (ret_eq).trans ?_
    refine seqC_ret.trans ?_
    kernel_rfl
  · refine (skip_eq).trans ?_
    refine (seqC_normal (st' := (S28_0 a_ b_))).trans ?_
    refine (pre1 (graph_beside_fzx1 a_ b_ _)).trans ?_
    refine (ret_eq).trans ?_
    kernel_rfl
noncomputable def cp29 : CallP := withC cp28 61 [(.agg tsNode), (.agg tsI3), (.agg tsI3)] (.one (.agg tsI3)) (fun y : I3 => y) (fun x => some (graph_beside x.1 x.2.1 x.2.2.1))
theorem cp29_ok : PureOK E cp29 := conS eok cp28_ok noE_ok fun x => Eq.mp (by kernel_rfl) (graph_beside_is x.1 x.2.1 x.2.2.1)
end
noncomputable abbrev C29 := codeOf E.P 20
noncomputable abbrev P29 {α : Type} := @preK α E 20 cp29 noE
abbrev S29_0 (s_ : I3) : St := ⟨[(1, rC tsI3 s_)], [], [], 11⟩
theorem shape_Row_f1 {α : Type} (s_ : I3) (k : St → Option α) : P29 1 C29 ⟨[(0, rA tsI3 s_)], [], [], 11⟩ k = k (S29_0 s_) := by kernel_rfl
theorem shape_Row_r1 {α : Type} (s_ : I3) (k : St → Option α) : P29 1 C29.r.l (S29_0 s_) k = Option.bind (shape_may s_) fun y249 : Bool => k ⟨[(1, rC tsI3 s_), (5, rb (!y249))], [], [], 11⟩ := by kernel_rfl
theorem shape_Row_fz {α : Type} (s_ : I3) (k : St → Option α) : P29 1 C29.r.l.r.t (S29_0 s_) k = k ⟨[(2, ri 0)], [], [], 11⟩ := by kernel_rfl
theorem shape_Row_fzx1 {α : Type} (s_ : I3) (k : St → Option α) : P29 1 C29.r.r (S29_0 s_) k = k ⟨[(2, ri (IntKind.wrap .i64 (s_.2.1 * s_.2.2)))], [], [], 11⟩ := by kernel_rfl
/-- quilt/shape.Row -/
def shape_Row (s_ : I3) : Option Int := (Option.bind (shape_may s_) (fun y249 : Bool => (bif (!y249) then (some (0 : Int)) else (some (IntKind.wrap .i64 (s_.2.1 * s_.2.2))))))
theorem shape_Row_is (s_ : I3) : stepS E cp29 noE 20 [rA tsI3 s_] = Option.bind (shape_Row s_) (fun y : Int => some (ri y : R)) := by
  refine .trans ?_ (bind_b fun y249 => (bif_b some_b some_b))
  refine (stepG_is (nt := 11) (regs := [(0, rA tsI3 s_)])).trans ?_
  refine (pre1 (shape_Row_f1 s_ _)).trans ?_
  refine .trans seq_push ?_
  refine (pre1 (shape_Row_r1 s_ _)).trans (bind_g fun y249 => ?_)
  refine (cond_e (b := (!y249)) (st' := (S29_0 s_)) ).trans (bif_g ?_ ?_)
  · refine (pre1 (shape_Row_fz s_ _)).trans ?_
    refine (ret_eq).trans ?_
    refine seqC_ret.trans ?_
    kernel_rfl
  · refine (skip_eq).trans ?_
    refine (seqC_normal (st' := (S29_0 s_))).trans ?_
    refine (pre1 (shape_Row_fzx1 s_ _)).trans ?_
    refine (ret_eq).trans ?_
    kernel_rfl
noncomputable def cp30 : CallP := withC cp29 20 [(.agg tsI3)] (.one pI) (fun y : Int => y) (fun x => shape_Row x.1)
theorem cp30_ok : PureOK E cp30 := conS eok cp29_ok noE_ok fun x => Eq.mp (by kernel_rfl) (shape_Row_is x.1)
noncomputable abbrev C30 := codeOf E.P 58
noncomputable abbrev P30 {α : Type} := @preK α E 58 cp30 noE
theorem shape_Size_r1 {α : Type} (s_ : I3) (k : St → Option α) : P30 2 C30 ⟨[(0, rA tsI3 s_)], [], [], 8⟩ k = Option.bind (shape_Row s_) fun y250 : Int => k ⟨[(2, ri (IntKind.wrap .i64 (y250 * s_.1)))], [], [], 8⟩ := by kernel_rfl
/-- quilt/shape.Size -/
def shape_Size (s_ : I3) : Option Int := (Option.bind (shape_Row s_) (fun y250 : Int => (some (IntKind.wrap .i64 (y250 * s_.1)))))
theorem shape_Size_is (s_ : I3) : stepS E cp30 noE 58 [rA tsI3 s_] = Option.bind (shape_Size s_) (fun y : Int => some (ri y : R)) := by
  refine .trans ?_ (bind_b fun y250 => some_b)
  refine (stepG_is (nt := 8) (regs := [(0, rA tsI3 s_)])).trans ?_
  refine (pre2 (shape_Size_r1 s_ _)).trans (bind_g fun y250 => ?_)
  refine (ret_eq).trans ?_
  kernel_rfl
noncomputable def cp31 : CallP := withC cp30 58 [(.agg tsI3)] (.one pI) (fun y : Int => y) (fun x => shape_Size x.1)
theorem cp31_ok : PureOK E cp31 := conS eok cp30_ok noE_ok fun x => Eq.mp (by kernel_rfl) (shape_Size_is x.1)
section
variable {α : Type} (n_ : Node) (a_ : I3) (a2 : I3) (k : St → Option α)
noncomputable abbrev C31 := codeOf E.P 62
noncomputable abbrev P31 := @preK α E 62 cp31 noE
abbrev S31_0 : St := ⟨[(3, rC tsNode n_), (4, rC tsI3 a_), (6, rF 0)], [[di 0, di 0, di 0]], [], 16⟩
theorem graph_anew_f1 : P31 1 C31 ⟨[(0, rA tsNode n_), (1, rA tsI3 a_), (2, rA tsI3 a2)], [], [], 16⟩ k = k (S31_0 n_ a_) := by kernel_rfl
def graph_anew_r1_p : Option Bool := (Option.bind (shape_Size (n_.2.2.2.2.2.2.2.2.2.1, n_.2.2.2.2.2.2.2.2.2.2.1, n_.2.2.2.2.2.2.2.2.2.2.2.1)) (fun y254 : Int => (Option.bind (shape_Size a_) (fun y255 : Int => (some (y254 != y255))))))
theorem graph_anew_r1 : P31 1 C31.r.l (S31_0 n_ a_) k = Option.bind (graph_anew_r1_p n_ a_) (fun y256 : Bool => k ⟨[(3, rC tsNode n_), (6, rF 0), (12, rb y256)], [[di 0, di 0, di 0]], [], 16⟩) := .trans (by kernel_rfl) (bind_b fun y254 => (bind_b fun y255 => some_b))
abbrev S31_1 : St := ⟨[(3, rC tsNode n_), (6, rF 0)], [[di 0, di 0, di 0]], [], 16⟩
theorem graph_anew_fz : P31 1 C31.r.l.r.t (S31_1 n_) k = k ⟨[(6, rF 0)], [[di 0, di 0, di 0]], [], 16⟩ := by kernel_rfl
theorem graph_anew_fzx1 : P31 1 C31.r.r (S31_1 n_) k = k ⟨[(6, rF 0)], [[di n_.2.2.2.2.2.2.2.2.2.1, di n_.2.2.2.2.2.2.2.2.2.2.1, di n_.2.2.2.2.2.2.2.2.2.2.2.1]], [], 16⟩ := by kernel_rfl
/-- quilt/graph.anew -/
def graph_anew (n_ : Node) (a_ : I3) (a2 : I3) : Option I3 := (Option.bind (graph_anew_r1_p n_ a_) (fun y256 : Bool => (bif y256 then (some ((0 : Int), (0 : Int), (0 : Int))) else (some (n_.2.2.2.2.2.2.2.2.2.1, n_.2.2.2.2.2.2.2.2.2.2.1, n_.2.2.2.2.2.2.2.2.2.2.2.1)))))
theorem graph_anew_is : stepS E cp31 noE 62 [rA tsNode n_, rA tsI3 a_, rA tsI3 a2] = Option.bind (graph_anew n_ a_ a2) (fun y : I3 => some (rA tsI3 y : R)) := by
  refine .trans ?_ (bind_b fun y256 => (bif_b some_b some_b))
  refine (stepG_is (nt := 16) (regs := [(0, rA tsNode n_), (1, rA tsI3 a_), (2, rA tsI3 a2)])).trans ?_
  refine (pre1 (graph_anew_f1 n_ a_ a2 _)).trans ?_
  refine .trans seq_push ?_
  refine (pre1 (graph_anew_r1 n_ a_ _)).trans (bind_g fun y256 => ?_)
  refine (cond_e (b := y256) (st' := (S31_1 n_)) ).trans (bif_g ?_ ?_)
  · refine (pre1 (graph_anew_fz n_ _)).trans ?_
    refine (ret_eq).trans ?_
    refine seqC_ret.trans ?_
    kernel_rfl
  · refine (skip_eq).trans ?_
    refine (seqC_normal (st' := (S31_1 n_))).trans ?_
    refine (pre1 (graph_anew_fzx1 n_ _)).trans ?_
    refine (ret_eq).trans ?_
    kernel_rfl
noncomputable def cp32 : CallP := withC cp31 62 [(.agg tsNode), (.agg tsI3), (.agg tsI3)] (.one (.agg tsI3)) (fun y : I3 => y) (fun x => graph_anew x.1 x.2.1 x.2.2.1)
theorem cp32_ok : PureOK E cp32 := conS eok cp31_ok noE_ok fun x => Eq.mp (by kernel_rfl) (graph_anew_is x.1 x.2.1 x.2.2.1)
end
section
variable {α β : Type} (a0_ : Node) (a1_ : I3) (k : St → Option α)
noncomputable abbrev C32 := codeOf E.P 50
noncomputable abbrev P32 := @preK α E 50 cp32 noE
theorem graph_bare_fz : P32 2 C32 ⟨[(0, rA tsNode a0_), (1, rA tsI3 a1_)], [], [], 6⟩ k = k ⟨[(4, ri 0), (5, ri 0)], [], [], 6⟩ := by kernel_rfl
/-- quilt/graph.bare -/
def graph_bare_q {β : Type} (a0_ : Node) (a1_ : I3) (K : (Int × Int) → β) : β := (K ((0 : Int), (0 : Int)))
def graph_bare : (Int × Int) := graph_bare_q a0_ a1_ (fun y => y)
theorem graph_bare_n (K : (Int × Int) → β) : graph_bare_q a0_ a1_ K = K (graph_bare a0_ a1_) := rfl
theorem graph_bare_is : stepS E cp32 noE 50 [rA tsNode a0_, rA tsI3 a1_] = (fun y : (Int × Int) => some (.tup [ri y.1, ri y.2] : R)) (graph_bare a0_ a1_) := by
  refine Eq.trans ?_ (graph_bare_n a0_ a1_ (fun y : (Int × Int) => some (.tup [ri y.1, ri y.2] : R)))
  refine (stepG_is (nt := 6) (regs := [(0, rA tsNode a0_), (1, rA tsI3 a1_)])).trans ?_
  unfold graph_bare_q
  refine (pre2 (graph_bare_fz a0_ a1_ _)).trans ?_
  refine (ret_eq).trans ?_
  kernel_rfl
noncomputable def cp33 : CallP := withC cp32 50 [(.agg tsNode), (.agg tsI3)] (.tup [pI, pI]) (fun y : (Int × Int) => (y.1, y.2, ())) (fun x => some (graph_bare x.1 x.2.1))
theorem cp33_ok : PureOK E cp33 := conS eok cp32_ok noE_ok fun x => Eq.mp (by kernel_rfl) (graph_bare_is x.1 x.2.1)
end
section
variable {α β : Type} (n_ : Node) (s_ : I3) (k : St → Option α)
noncomputable abbrev C33 := codeOf E.P 53
noncomputable abbrev P33 := @preK α E 53 cp33 noE
def graph_of_2_r1_q (K : Int → β) : β := (K (IntKind.wrap .i64 ((IntKind.wrap .i64 ((IntKind.wrap .i64 (n_.2.2.1 * n_.2.2.1)) * s_.2.2)) * n_.2.2.2.2.2.1)))
def graph_of_2_r1_p : Int := graph_of_2_r1_q n_ s_ (fun y => y)
theorem graph_of_2_r1_n (K : Int → β) : graph_of_2_r1_q n_ s_ K = K (graph_of_2_r1_p n_ s_) := rfl
theorem graph_of_2_r1 : P33 2 C33 ⟨[(0, rA tsNode n_), (1, rA tsI3 s_)], [], [], 19⟩ k = k ⟨[(4, ri (graph_of_2_r1_p n_ s_)), (5, ri n_.2.2.2.2.2.1)], [], [], 19⟩ := Eq.trans (by kernel_rfl) (graph_of_2_r1_n n_ s_ (fun y264 : Int => k ⟨[(4, ri y264), (5, ri n_.2.2.2.2.2.1)], [], [], 19⟩))
/-- quilt/graph.of$2 -/
def graph_of_2_q (K : (Int × Int) → β) : β := (K ((graph_of_2_r1_p n_ s_), n_.2.2.2.2.2.1))
def graph_of_2 : (Int × Int) := graph_of_2_q n_ s_ (fun y => y)
theorem graph_of_2_n (K : (Int × Int) → β) : graph_of_2_q n_ s_ K = K (graph_of_2 n_ s_) := rfl
theorem graph_of_2_is : stepS E cp33 noE 53 [rA tsNode n_, rA tsI3 s_] = (fun y : (Int × Int) => some (.tup [ri y.1, ri y.2] : R)) (graph_of_2 n_ s_) := by
  refine Eq.trans ?_ (graph_of_2_n n_ s_ (fun y : (Int × Int) => some (.tup [ri y.1, ri y.2] : R)))
  refine (stepG_is (nt := 19) (regs := [(0, rA tsNode n_), (1, rA tsI3 s_)])).trans ?_
  unfold graph_of_2_q
  refine (pre2 (graph_of_2_r1 n_ s_ _)).trans ?_
  refine (ret_eq).trans ?_
  kernel_rfl
noncomputable def cp34 : CallP := withC cp33 53 [(.agg tsNode), (.agg tsI3)] (.tup [pI, pI]) (fun y : (Int × Int) => (y.1, y.2, ())) (fun x => some (graph_of_2 x.1 x.2.1))
theorem cp34_ok : PureOK E cp34 := conS eok cp33_ok noE_ok fun x => Eq.mp (by kernel_rfl) (graph_of_2_is x.1 x.2.1)
end
section
variable {α β : Type} (n_ : Node) (s_ : I3) (k : St → Option α)
noncomputable abbrev C34 := codeOf E.P 55
noncomputable abbrev P34 := @preK α E 55 cp34 noE
theorem graph_of_3_fz : P34 2 C34 ⟨[(0, rA tsNode n_), (1, rA tsI3 s_)], [], [], 16⟩ k = k ⟨[(4, ri (IntKind.wrap .i64 ((IntKind.wrap .i64 (n_.2.2.1 * n_.2.2.1)) * s_.2.2))), (5, ri s_.2.2)], [], [], 16⟩ := by kernel_rfl
/-- quilt/graph.of$3 -/
def graph_of_3_q (K : (Int × Int) → β) : β := (K ((IntKind.wrap .i64 ((IntKind.wrap .i64 (n_.2.2.1 * n_.2.2.1)) * s_.2.2)), s_.2.2))
def graph_of_3 : (Int × Int) := graph_of_3_q n_ s_ (fun y => y)
theorem graph_of_3_n (K : (Int × Int) → β) : graph_of_3_q n_ s_ K = K (graph_of_3 n_ s_) := rfl
theorem graph_of_3_is : stepS E cp34 noE 55 [rA tsNode n_, rA tsI3 s_] = (fun y : (Int × Int) => some (.tup [ri y.1, ri y.2] : R)) (graph_of_3 n_ s_) := by
  refine Eq.trans ?_ (graph_of_3_n n_ s_ (fun y : (Int × Int) => some (.tup [ri y.1, ri y.2] : R)))
  refine (stepG_is (nt := 16) (regs := [(0, rA tsNode n_), (1, rA tsI3 s_)])).trans ?_
  unfold graph_of_3_q
  refine (pre2 (graph_of_3_fz n_ s_ _)).trans ?_
  refine (ret_eq).trans ?_
  kernel_rfl
noncomputable def cp35 : CallP := withC cp34 55 [(.agg tsNode), (.agg tsI3)] (.tup [pI, pI]) (fun y : (Int × Int) => (y.1, y.2, ())) (fun x => some (graph_of_3 x.1 x.2.1))
theorem cp35_ok : PureOK E cp35 := conS eok cp34_ok noE_ok fun x => Eq.mp (by kernel_rfl) (graph_of_3_is x.1 x.2.1)
end
section
variable {α : Type} (n_ : Node) (s_ : I3) (k : St → Option α)
noncomputable abbrev C35 := codeOf E.P 57
noncomputable abbrev P35 := @preK α E 57 cp35 noE
theorem graph_of_5_r1 : P35 2 C35 ⟨[(0, rA tsNode n_), (1, rA tsI3 s_)], [], [], 13⟩ k = Option.bind (shape_Size s_) fun y267 : Int => k ⟨[(4, ri (IntKind.wrap .i64 (y267 * n_.2.2.2.2.2.1))), (5, ri n_.2.2.2.2.2.1)], [], [], 13⟩ := by kernel_rfl
/-- quilt/graph.of$5 -/
def graph_of_5 : Option (Int × Int) := (Option.bind (shape_Size s_) (fun y267 : Int => (some ((IntKind.wrap .i64 (y267 * n_.2.2.2.2.2.1)), n_.2.2.2.2.2.1))))
theorem graph_of_5_is : stepS E cp35 noE 57 [rA tsNode n_, rA tsI3 s_] = Option.bind (graph_of_5 n_ s_) (fun y : (Int × Int) => some (.tup [ri y.1, ri y.2] : R)) := by
  refine .trans ?_ (bind_b fun y267 => some_b)
  refine (stepG_is (nt := 13) (regs := [(0, rA tsNode n_), (1, rA tsI3 s_)])).trans ?_
  refine (pre2 (graph_of_5_r1 n_ s_ _)).trans (bind_g fun y267 => ?_)
  refine (ret_eq).trans ?_
  kernel_rfl
noncomputable def cp36 : CallP := withC cp35 57 [(.agg tsNode), (.agg tsI3)] (.tup [pI, pI]) (fun y : (Int × Int) => (y.1, y.2, ())) (fun x => graph_of_5 x.1 x.2.1)
theorem cp36_ok : PureOK E cp36 := conS eok cp35_ok noE_ok fun x => Eq.mp (by kernel_rfl) (graph_of_5_is x.1 x.2.1)
end
section
variable {α β : Type} (a0_ : Node) (a1_ : I3) (k : St → Option α)
noncomputable abbrev C36 := codeOf E.P 63
noncomputable abbrev P36 := @preK α E 63 cp36 noE
theorem graph_of_7_fz : P36 2 C36 ⟨[(0, rA tsNode a0_), (1, rA tsI3 a1_)], [], [], 6⟩ k = k ⟨[(4, ri 256), (5, ri 0)], [], [], 6⟩ := by kernel_rfl
/-- quilt/graph.of$7 -/
def graph_of_7_q {β : Type} (a0_ : Node) (a1_ : I3) (K : (Int × Int) → β) : β := (K ((256 : Int), (0 : Int)))
def graph_of_7 : (Int × Int) := graph_of_7_q a0_ a1_ (fun y => y)
theorem graph_of_7_n (K : (Int × Int) → β) : graph_of_7_q a0_ a1_ K = K (graph_of_7 a0_ a1_) := rfl
theorem graph_of_7_is : stepS E cp36 noE 63 [rA tsNode a0_, rA tsI3 a1_] = (fun y : (Int × Int) => some (.tup [ri y.1, ri y.2] : R)) (graph_of_7 a0_ a1_) := by
  refine Eq.trans ?_ (graph_of_7_n a0_ a1_ (fun y : (Int × Int) => some (.tup [ri y.1, ri y.2] : R)))
  refine (stepG_is (nt := 6) (regs := [(0, rA tsNode a0_), (1, rA tsI3 a1_)])).trans ?_
  unfold graph_of_7_q
  refine (pre2 (graph_of_7_fz a0_ a1_ _)).trans ?_
  refine (ret_eq).trans ?_
  kernel_rfl
noncomputable def cp37 : CallP := withC cp36 63 [(.agg tsNode), (.agg tsI3)] (.tup [pI, pI]) (fun y : (Int × Int) => (y.1, y.2, ())) (fun x => some (graph_of_7 x.1 x.2.1))
theorem cp37_ok : PureOK E cp37 := conS eok cp36_ok noE_ok fun x => Eq.mp (by kernel_rfl) (graph_of_7_is x.1 x.2.1)
end
noncomputable abbrev C37 := codeOf E.P 40
noncomputable abbrev P37 {α : Type} := @preK α E 40 cp37 noE
theorem graph_Value_3_fz {α : Type} (x_ : Int) (k : St → Option α) : P37 2 C37 ⟨[(0, rk .i32 x_)], [], [], 7⟩ k = k ⟨[(2, rb (!(graph_within (IntKind.wrap .i64 x_) (-16777216 : Int) (16777216 : Int))))], [], [], 7⟩ := by kernel_rfl
/-- quilt/graph.Value$3 -/
def graph_Value_3_q {β : Type} (x_ : Int) (K : Bool → β) : β := (K (!(graph_within (IntKind.wrap .i64 x_) (-16777216 : Int) (16777216 : Int))))
def graph_Value_3 (x_ : Int) : Bool := graph_Value_3_q x_ (fun y => y)
theorem graph_Value_3_n {β : Type} (x_ : Int) (K : Bool → β) : graph_Value_3_q x_ K = K (graph_Value_3 x_) := rfl
theorem graph_Value_3_is (x_ : Int) : stepS E cp37 noE 40 [rk .i32 x_] = (fun y : Bool => some (rb y : R)) (graph_Value_3 x_) := by
  refine Eq.trans ?_ (graph_Value_3_n x_ (fun y : Bool => some (rb y : R)))
  refine (stepG_is (nt := 7) (regs := [(0, rk .i32 x_)])).trans ?_
  unfold graph_Value_3_q
  refine (pre2 (graph_Value_3_fz x_ _)).trans ?_
  refine (ret_eq).trans ?_
  kernel_rfl
noncomputable def cp38 : CallP := withC cp37 40 [(.one (.g (.int .i32)))] (.one pB) (fun y : Bool => y) (fun x => some (graph_Value_3 x.1))
theorem cp38_ok : PureOK E cp38 := conS eok cp37_ok noE_ok fun x => Eq.mp (by kernel_rfl) (graph_Value_3_is x.1)
section
variable {α : Type} (s_ : (List Int)) (s283 : Int) (k : St → Option α) (q : Kont α)
noncomputable abbrev C38 := codeOf E.P 65
noncomputable abbrev P38 := @preK α E 65 cp38 noE
noncomputable abbrev R38 := @runCode α E 65 cp38 noE
abbrev S38_0 : St := ⟨[(0, rl (.one (.int .i32)) s_), (1, .one (.fn 40 []))], [], [], 19⟩
theorem slices_IndexFuncint32_int32_f1 : P38 1 C38 (S38_0 s_) k = k (S38_0 s_) := by kernel_rfl
abbrev S38_1 : St := ⟨[(0, rl (.one (.int .i32)) s_), (1, .one (.fn 40 [])), (7, ri (s_.length : Int)), (8, ri 0)], [], [], 19⟩
theorem slices_IndexFuncint32_int32_f2 : P38 1 C38.r.l (S38_0 s_) k = k (S38_1 s_) := by kernel_rfl
abbrev S38_2 : St := ⟨[(0, rl (.one (.int .i32)) s_), (1, .one (.fn 40 [])), (7, ri (s_.length : Int)), (8, ri s283)], [], [], 19⟩
theorem slices_IndexFuncint32_int32_fz : P38 1 C38.r.l.r.b.b (S38_2 s_ s283) k = k ⟨[(0, rl (.one (.int .i32)) s_), (1, .one (.fn 40 [])), (7, ri (s_.length : Int)), (8, ri s283), (9, rb (decide (s283 < (s_.length : Int))))], [], [], 19⟩ := by kernel_rfl
def slices_IndexFuncint32_int32_r4_p : Option Unit := (bif (decide ((0 : Int) ≤ s283)) then (bif (decide (s283 < (s_.length : Int))) then (some ()) else none) else none)
theorem slices_IndexFuncint32_int32_r4 : P38 2 C38.r.l.r.b.b.r.r.l.b (S38_2 s_ s283) k = Option.bind (slices_IndexFuncint32_int32_r4_p s_ s283) (fun y285 : Unit => k ⟨[(0, rl (.one (.int .i32)) s_), (1, .one (.fn 40 [])), (5, ri s283), (7, ri (s_.length : Int)), (8, ri s283), (16, rb (graph_Value_3 (gt s_ s283 (0 : Int))))], [], [], 19⟩) := .trans (by kernel_rfl) (bif_b (bif_b some_b none_b) none_b)
abbrev S38_3 : St := ⟨[(0, rl (.one (.int .i32)) s_), (1, .one (.fn 40 [])), (5, ri s283), (7, ri (s_.length : Int)), (8, ri s283)], [], [], 19⟩
theorem slices_IndexFuncint32_int32_fzx1 : P38 1 C38.r.l.r.b.b.r.r.l.b.r.r.t (S38_3 s_ s283) k = k ⟨[(4, ri s283)], [], [], 19⟩ := by kernel_rfl
theorem slices_IndexFuncint32_int32_r6 : R38 C38.r.l.r.b.b.r.r.r (S38_2 s_ s283) q = q .normal ⟨[(0, rl (.one (.int .i32)) s_), (1, .one (.fn 40 [])), (7, ri (s_.length : Int)), (8, ri (IntKind.wrap .i64 (s283 + 1)))], [], [], 19⟩ := by kernel_rfl
def slices_IndexFuncint32_int32_l2_p : Option (Int ⊕ (Int ⊕ Int)) := (bif (decide (s283 < (s_.length : Int))) then (Option.bind (slices_IndexFuncint32_int32_r4_p s_ s283) (fun y285 : Unit => (bif (graph_Value_3 (gt s_ s283 (0 : Int))) then (some (Sum.inr (Sum.inr s283))) else (some (Sum.inl (IntKind.wrap .i64 (s283 + 1))))))) else (some (Sum.inr (Sum.inl s283))))
abbrev S38_4 (y286 : Int) : St := ⟨[(0, rl (.one (.int .i32)) s_), (1, .one (.fn 40 [])), (7, ri (s_.length : Int)), (8, ri y286)], [], [], 19⟩
theorem slices_IndexFuncint32_int32_l2_b : R38 C38.r.l.r.b.b (S38_2 s_ s283) (loopKont 0 q) = Option.bind (slices_IndexFuncint32_int32_l2_p s_ s283) (either (fun y : Int => q .normal ⟨[(0, rl (.one (.int .i32)) s_), (1, .one (.fn 40 [])), (7, ri (s_.length : Int)), (8, ri y)], [], [], 19⟩) (either (fun y286 : Int => q (.exit 0) (S38_4 s_ y286)) (fun y287 : Int => q .ret ⟨[(4, ri y287)], [], [], 19⟩))) := by
  refine .trans ?_ (bif_b (bind_b fun y285 => (bif_b e3_2 e3_0)) e3_1)
  refine (pre1 (slices_IndexFuncint32_int32_fz s_ s283 _)).trans ?_
  refine .trans seq_push ?_
  refine (cond_e (b := (decide (s283 < (s_.length : Int)))) (st' := (S38_2 s_ s283)) ).trans (bif_g ?_ ?_)
  · refine (skip_eq).trans ?_
    refine (seqC_normal (st' := (S38_2 s_ s283))).trans ?_
    refine .trans seq_push ?_
    refine (block_push (id := 1)).trans ?_
    refine (pre2 (slices_IndexFuncint32_int32_r4 s_ s283 _)).trans (bind_g fun y285 => ?_)
    refine (cond_e (b := (graph_Value_3 (gt s_ s283 (0 : Int)))) (st' := (S38_3 s_ s283)) ).trans (bif_g ?_ ?_)
    · refine (pre1 (slices_IndexFuncint32_int32_fzx1 s_ s283 _)).trans ?_
      refine (ret_eq).trans ?_
      refine block_ret.trans ?_
      refine seqC_ret.trans ?_
      kernel_rfl
    · refine (skip_eq).trans ?_
      refine block_normal.trans ?_
      refine (seqC_normal (st' := (S38_2 s_ s283))).trans ?_
      refine (slices_IndexFuncint32_int32_r6 s_ s283 _).trans ?_
      kernel_rfl
  · refine ((exit_eq (j := 0))).trans ?_
    refine seqC_exit.trans ?_
    kernel_rfl
theorem slices_IndexFuncint32_int32_l2 : R38 C38.r.l.r.b (S38_1 s_) q = Option.bind (iterN (slices_IndexFuncint32_int32_l2_p s_) LL (0 : Int)) (either (fun y286 : Int => q (.exit 0) (S38_4 s_ y286)) (fun y287 : Int => q .ret ⟨[(4, ri y287)], [], [], 19⟩)) :=
  Eq.trans (by kernel_rfl) (loop_iter2 (S := fun s283 : Int => (S38_2 s_ s283)) (Y1 := fun y286 : Int => ((.exit 0), (S38_4 s_ y286))) (Y2 := fun y287 : Int => (.ret, ⟨[(4, ri y287)], [], [], 19⟩)) (fun s q => slices_IndexFuncint32_int32_l2_b s_ s q) (fun z => rfl) (fun z => rfl) LL (0 : Int))
theorem slices_IndexFuncint32_int32_fzx2 : P38 1 C38.r.r ⟨[], [], [], 19⟩ k = k ⟨[(4, ri (-1 : Int))], [], [], 19⟩ := by kernel_rfl
/-- slices.IndexFunc[[]int32,int32] -/
def slices_IndexFuncint32_int32 : Option Int := (Option.bind (iterN (slices_IndexFuncint32_int32_l2_p s_) LL (0 : Int)) (either (fun y286 : Int => (some (-1 : Int))) (fun y287 : Int => (some y287))))
theorem slices_IndexFuncint32_int32_is : stepS E cp38 noE 65 [rl (.one (.int .i32)) s_, .one (.fn 40 [])] = Option.bind (slices_IndexFuncint32_int32 s_) (fun y : Int => some (ri y : R)) := by
  refine .trans ?_ (bind_b (either_b (fun y286 => some_b) (fun y287 => some_b)))
  refine (stepG_is (nt := 19) (regs := [(0, rl (.one (.int .i32)) s_), (1, .one (.fn 40 []))])).trans ?_
  refine (pre1 (slices_IndexFuncint32_int32_f1 s_ _)).trans ?_
  refine .trans seq_push ?_
  refine (pre1 (slices_IndexFuncint32_int32_f2 s_ _)).trans ?_
  refine (block_push (id := 0)).trans ?_
  refine (slices_IndexFuncint32_int32_l2 s_ _).trans (bind_g (either_g (fun y286 => ?_) (fun y287 => ?_)))
  · refine block_same.trans ?_
    refine (seqC_normal (st' := ⟨[], [], [], 19⟩)).trans ?_
    refine (pre1 (slices_IndexFuncint32_int32_fzx2 _)).trans ?_
    refine (ret_eq).trans ?_
    kernel_rfl
  · refine block_ret.trans ?_
    refine seqC_ret.trans ?_
    kernel_rfl
noncomputable def cp39 : CallP := withC cp38 65 [(.one (.g (.sl (.one (.int .i32))))), (.one (.fn 40 .nil))] (.one pI) (fun y : Int => y) (fun x => slices_IndexFuncint32_int32 x.1)
theorem cp39_ok : PureOK E cp39 := conS eok cp38_ok noE_ok fun x => Eq.mp (by kernel_rfl) (slices_IndexFuncint32_int32_is x.1)
end
noncomputable abbrev C39 := codeOf E.P 39
noncomputable abbrev P39 {α : Type} := @preK α E 39 cp39 noE
theorem slices_ContainsFuncint32_int32_r1 {α : Type} (s_ : (List Int)) (k : St → Option α) : P39 2 C39 ⟨[(0, rl (.one (.int .i32)) s_), (1, .one (.fn 40 []))], [], [], 9⟩ k = Option.bind (slices_IndexFuncint32_int32 s_) fun y288 : Int => k ⟨[(4, rb (decide (y288 ≥ 0)))], [], [], 9⟩ := by kernel_rfl
/-- slices.ContainsFunc[[]int32,int32] -/
def slices_ContainsFuncint32_int32 (s_ : (List Int)) : Option Bool := (Option.bind (slices_IndexFuncint32_int32 s_) (fun y288 : Int => (some (decide (y288 ≥ 0)))))
theorem slices_ContainsFuncint32_int32_is (s_ : (List Int)) : stepS E cp39 noE 39 [rl (.one (.int .i32)) s_, .one (.fn 40 [])] = Option.bind (slices_ContainsFuncint32_int32 s_) (fun y : Bool => some (rb y : R)) := by
  refine .trans ?_ (bind_b fun y288 => some_b)
  refine (stepG_is (nt := 9) (regs := [(0, rl (.one (.int .i32)) s_), (1, .one (.fn 40 []))])).trans ?_
  refine (pre2 (slices_ContainsFuncint32_int32_r1 s_ _)).trans (bind_g fun y288 => ?_)
  refine (ret_eq).trans ?_
  kernel_rfl
noncomputable def cp40 : CallP := withC cp39 39 [(.one (.g (.sl (.one (.int .i32))))), (.one (.fn 40 .nil))] (.one pB) (fun y : Bool => y) (fun x => slices_ContainsFuncint32_int32 x.1)
theorem cp40_ok : PureOK E cp40 := conS eok cp39_ok noE_ok fun x => Eq.mp (by kernel_rfl) (slices_ContainsFuncint32_int32_is x.1)
end Go.V.P
