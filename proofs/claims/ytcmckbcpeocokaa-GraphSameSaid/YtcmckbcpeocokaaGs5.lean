/- What functions compute. -/
import Derived.Test.YtcmckbcpeocokaaGs4
namespace Go.V.P
open Go.RowKit Go.V Go.Proofs
set_option linter.unusedVariables false
set_option maxRecDepth 100000
noncomputable abbrev C42 : Code := codeOf E.P 41
noncomputable abbrev P42 {α : Type} (n : Nat) (c : Code) (st : St) (k : St → Option α) : Option α := preK E 41 cp42 noE n c st k
noncomputable abbrev R42 {α : Type} (c : Code) (st : St) (k : Kont α) : Option α := runCode E 41 cp42 noE c st k
noncomputable abbrev Q42 {α : Type} (c : Code) (k : Kont α) : Kont α := seqC E 41 cp42 noE c k
theorem slices_Equalapi_Value_api_Value_f1 {α : Type} (s1_ : (List I4)) (s2_ : (List I4)) (k : St → Option α) : P42 1 C42 ⟨[(0, rl tsI4 s1_), (1, rl tsI4 s2_)], [], [], 26⟩ k = k ⟨[(0, rl tsI4 s1_), (1, rl tsI4 s2_)], [], [], 26⟩ := by kernel_rfl
theorem slices_Equalapi_Value_api_Value_f1000002 {α : Type} (s1_ : (List I4)) (s2_ : (List I4)) (k : St → Option α) : P42 1 C42.r.l ⟨[(0, rl tsI4 s1_), (1, rl tsI4 s2_)], [], [], 26⟩ k = k ⟨[(0, rl tsI4 s1_), (1, rl tsI4 s2_), (10, rb ((s1_.length : Int) != (s2_.length : Int)))], [], [], 26⟩ := by kernel_rfl
theorem slices_Equalapi_Value_api_Value_fz {α : Type} (s1_ : (List I4)) (s2_ : (List I4)) (k : St → Option α) : P42 1 C42.r.l.r.t ⟨[(0, rl tsI4 s1_), (1, rl tsI4 s2_)], [], [], 26⟩ k = k ⟨[(4, rb false)], [], [], 26⟩ := by kernel_rfl
theorem slices_Equalapi_Value_api_Value_f4 {α : Type} (s1_ : (List I4)) (s2_ : (List I4)) (k : St → Option α) : P42 1 C42.r.r.l ⟨[(0, rl tsI4 s1_), (1, rl tsI4 s2_)], [], [], 26⟩ k = k ⟨[(0, rl tsI4 s1_), (1, rl tsI4 s2_), (12, ri (s1_.length : Int)), (13, ri (0 : Int))], [], [], 26⟩ := by kernel_rfl
theorem slices_Equalapi_Value_api_Value_fzx1 {α : Type} (s1_ : (List I4)) (s2_ : (List I4)) (s390 : Int) (k : St → Option α) : P42 1 (bodyOf (bodyOf C42.r.r.l.r)) ⟨[(0, rl tsI4 s1_), (1, rl tsI4 s2_), (12, ri (s1_.length : Int)), (13, ri s390)], [], [], 26⟩ k = k ⟨[(0, rl tsI4 s1_), (1, rl tsI4 s2_), (12, ri (s1_.length : Int)), (13, ri s390), (14, rb (decide (s390 < (s1_.length : Int))))], [], [], 26⟩ := by kernel_rfl
def slices_Equalapi_Value_api_Value_r6_q {β : Type} (s1_ : (List I4)) (s2_ : (List I4)) (s390 : Int) (K : Bool → Option β) : Option β := (bif (decide ((0 : Int) ≤ s390)) then (bif (decide (s390 < (s1_.length : Int))) then (bif (decide ((0 : Int) ≤ s390)) then (bif (decide (s390 < (s2_.length : Int))) then (K (!((((gt s1_ s390 dI4).1) == ((gt s2_ s390 dI4).1)) && ((((gt s1_ s390 dI4).2.1) == ((gt s2_ s390 dI4).2.1)) && ((((gt s1_ s390 dI4).2.2.1) == ((gt s2_ s390 dI4).2.2.1)) && ((((gt s1_ s390 dI4).2.2.2) == ((gt s2_ s390 dI4).2.2.2)) && true)))))) else none) else none) else none) else none)
def slices_Equalapi_Value_api_Value_r6_p (s1_ : (List I4)) (s2_ : (List I4)) (s390 : Int) : Option (Bool) := slices_Equalapi_Value_api_Value_r6_q s1_ s2_ s390 some
theorem slices_Equalapi_Value_api_Value_r6_n {β : Type} (s1_ : (List I4)) (s2_ : (List I4)) (s390 : Int) (K : Bool → Option β) : slices_Equalapi_Value_api_Value_r6_q s1_ s2_ s390 K = (slices_Equalapi_Value_api_Value_r6_p s1_ s2_ s390).bind K := (bif_b (bif_b (bif_b (bif_b some_b none_b) none_b) none_b) none_b)
theorem slices_Equalapi_Value_api_Value_r6 {α : Type} (s1_ : (List I4)) (s2_ : (List I4)) (s390 : Int) (k : St → Option α) : P42 2 (bodyOf (bodyOf (bodyOf C42.r.r.l.r)).r.r.l) ⟨[(0, rl tsI4 s1_), (1, rl tsI4 s2_), (12, ri (s1_.length : Int)), (13, ri s390)], [], [], 26⟩ k = Option.bind (slices_Equalapi_Value_api_Value_r6_p s1_ s2_ s390) (fun y392 : Bool => k ⟨[(0, rl tsI4 s1_), (1, rl tsI4 s2_), (12, ri (s1_.length : Int)), (13, ri s390), (24, rb y392)], [], [], 26⟩) := Eq.trans (by kernel_rfl) (slices_Equalapi_Value_api_Value_r6_n s1_ s2_ s390 _)
theorem slices_Equalapi_Value_api_Value_fzx2 {α : Type} (s1_ : (List I4)) (s2_ : (List I4)) (s390 : Int) (k : St → Option α) : P42 1 (bodyOf (bodyOf (bodyOf C42.r.r.l.r)).r.r.l).r.r.t ⟨[(0, rl tsI4 s1_), (1, rl tsI4 s2_), (12, ri (s1_.length : Int)), (13, ri s390)], [], [], 26⟩ k = k ⟨[(4, rb false)], [], [], 26⟩ := by kernel_rfl
theorem slices_Equalapi_Value_api_Value_r8 {α : Type} (s1_ : (List I4)) (s2_ : (List I4)) (s390 : Int) (k : Kont α) : R42 (bodyOf (bodyOf C42.r.r.l.r)).r.r.r ⟨[(0, rl tsI4 s1_), (1, rl tsI4 s2_), (12, ri (s1_.length : Int)), (13, ri s390)], [], [], 26⟩ k = k .normal ⟨[(0, rl tsI4 s1_), (1, rl tsI4 s2_), (12, ri (s1_.length : Int)), (13, ri (IntKind.wrap .i64 (s390 + (1 : Int))))], [], [], 26⟩ := by kernel_rfl
def slices_Equalapi_Value_api_Value_l4_q {β : Type} (s1_ : (List I4)) (s2_ : (List I4)) (s390 : Int) (K0 : Int → Option β) (K1 : Int → Option β) (K2 : Unit → Option β) : Option β := (bif (decide (s390 < (s1_.length : Int))) then (Option.bind (slices_Equalapi_Value_api_Value_r6_p s1_ s2_ s390) (fun y392 : Bool => (bif y392 then (K2 ()) else (K0 (IntKind.wrap .i64 (s390 + (1 : Int))))))) else (K1 s390))
def slices_Equalapi_Value_api_Value_l4_p (s1_ : (List I4)) (s2_ : (List I4)) (s390 : Int) : Option (Int ⊕ (Int ⊕ Unit)) := slices_Equalapi_Value_api_Value_l4_q s1_ s2_ s390 (fun y => some (Sum.inl y)) (fun y => some (Sum.inr (Sum.inl y))) (fun y => some (Sum.inr (Sum.inr y)))
theorem slices_Equalapi_Value_api_Value_l4_n {β : Type} (s1_ : (List I4)) (s2_ : (List I4)) (s390 : Int) (K0 : Int → Option β) (K1 : Int → Option β) (K2 : Unit → Option β) : slices_Equalapi_Value_api_Value_l4_q s1_ s2_ s390 K0 K1 K2 = (slices_Equalapi_Value_api_Value_l4_p s1_ s2_ s390).bind (either K0 (either K1 K2)) := (bif_b (bind_b fun y392 => (bif_b e3_2 e3_0)) e3_1)
theorem slices_Equalapi_Value_api_Value_l4_b {α : Type} (s1_ : (List I4)) (s2_ : (List I4)) (s390 : Int) (k : Kont α) : R42 (bodyOf (bodyOf C42.r.r.l.r)) ⟨[(0, rl tsI4 s1_), (1, rl tsI4 s2_), (12, ri (s1_.length : Int)), (13, ri s390)], [], [], 26⟩ (loopKont 0 k) = Option.bind (slices_Equalapi_Value_api_Value_l4_p s1_ s2_ s390) (either (fun y : Int => k .normal ⟨[(0, rl tsI4 s1_), (1, rl tsI4 s2_), (12, ri (s1_.length : Int)), (13, ri y)], [], [], 26⟩) (either (fun y393 : Int => k (.exit 0) ⟨[(0, rl tsI4 s1_), (1, rl tsI4 s2_), (12, ri (s1_.length : Int)), (13, ri y393)], [], [], 26⟩) (fun y394 : Unit => k .ret ⟨[(4, rb false)], [], [], 26⟩))) := by
  refine Eq.trans ?_ (slices_Equalapi_Value_api_Value_l4_n s1_ s2_ s390 _ _ _)
  unfold slices_Equalapi_Value_api_Value_l4_q
  refine (pre (n := 1) (c' := (bodyOf (bodyOf C42.r.r.l.r)).r) (by kernel_rfl) (by kernel_rfl) (slices_Equalapi_Value_api_Value_fzx1 s1_ s2_ s390 _)).trans ?_
  refine (seq_push (by kernel_rfl)).trans ?_
  refine (cond_eq (b := (decide (s390 < (s1_.length : Int)))) (st' := ⟨[(0, rl tsI4 s1_), (1, rl tsI4 s2_), (12, ri (s1_.length : Int)), (13, ri s390)], [], [], 26⟩) (by kernel_rfl) (by kernel_rfl) (by kernel_rfl)).trans (bif_g ?_ ?_)
  · refine (skip_eq (by kernel_rfl)).trans ?_
    refine (seqC_normal (st' := ⟨[(0, rl tsI4 s1_), (1, rl tsI4 s2_), (12, ri (s1_.length : Int)), (13, ri s390)], [], [], 26⟩) (by kernel_rfl)).trans ?_
    refine (seq_push (by kernel_rfl)).trans ?_
    refine (block_push (id := 1) (by kernel_rfl)).trans ?_
    refine (pre (n := 2) (c' := (bodyOf (bodyOf (bodyOf C42.r.r.l.r)).r.r.l).r.r) (by kernel_rfl) (by kernel_rfl) (slices_Equalapi_Value_api_Value_r6 s1_ s2_ s390 _)).trans (bind_g fun y392 => ?_)
    refine (cond_eq (b := y392) (st' := ⟨[(0, rl tsI4 s1_), (1, rl tsI4 s2_), (12, ri (s1_.length : Int)), (13, ri s390)], [], [], 26⟩) (by kernel_rfl) (by kernel_rfl) (by kernel_rfl)).trans (bif_g ?_ ?_)
    · refine (pre (n := 1) (c' := (bodyOf (bodyOf (bodyOf C42.r.r.l.r)).r.r.l).r.r.t.r) (by kernel_rfl) (by kernel_rfl) (slices_Equalapi_Value_api_Value_fzx2 s1_ s2_ s390 _)).trans ?_
      refine (ret_eq (by kernel_rfl)).trans ?_
      refine block_ret.trans ?_
      refine seqC_ret.trans ?_
      kernel_rfl
    · refine (skip_eq (by kernel_rfl)).trans ?_
      refine block_normal.trans ?_
      refine (seqC_normal (st' := ⟨[(0, rl tsI4 s1_), (1, rl tsI4 s2_), (12, ri (s1_.length : Int)), (13, ri s390)], [], [], 26⟩) (by kernel_rfl)).trans ?_
      refine (slices_Equalapi_Value_api_Value_r8 s1_ s2_ s390 _).trans ?_
      kernel_rfl
  · refine (exit_eq (j := 0) (by kernel_rfl)).trans ?_
    refine seqC_exit.trans ?_
    kernel_rfl
theorem slices_Equalapi_Value_api_Value_l4 {α : Type} (s1_ : (List I4)) (s2_ : (List I4)) (k : Kont α) : R42 (bodyOf C42.r.r.l.r) ⟨[(0, rl tsI4 s1_), (1, rl tsI4 s2_), (12, ri (s1_.length : Int)), (13, ri (0 : Int))], [], [], 26⟩ k = Option.bind (iterN (slices_Equalapi_Value_api_Value_l4_p s1_ s2_) LL (0 : Int)) (either (fun y393 : Int => k (.exit 0) ⟨[(0, rl tsI4 s1_), (1, rl tsI4 s2_), (12, ri (s1_.length : Int)), (13, ri y393)], [], [], 26⟩) (fun y394 : Unit => k .ret ⟨[(4, rb false)], [], [], 26⟩)) :=
  Eq.trans (by kernel_rfl) (loop_iter2 (S := fun s390 : Int => ⟨[(0, rl tsI4 s1_), (1, rl tsI4 s2_), (12, ri (s1_.length : Int)), (13, ri s390)], [], [], 26⟩) (Y1 := fun y393 : Int => ((.exit 0), ⟨[(0, rl tsI4 s1_), (1, rl tsI4 s2_), (12, ri (s1_.length : Int)), (13, ri y393)], [], [], 26⟩)) (Y2 := fun y394 : Unit => (.ret, ⟨[(4, rb false)], [], [], 26⟩)) (fun s k => slices_Equalapi_Value_api_Value_l4_b s1_ s2_ s k) (fun z => rfl) (fun z => rfl) LL (0 : Int))
theorem slices_Equalapi_Value_api_Value_fzx3 {α : Type} (k : St → Option α) : P42 1 C42.r.r.r ⟨[], [], [], 26⟩ k = k ⟨[(4, rb true)], [], [], 26⟩ := by kernel_rfl
/-- slices.Equal[[]quilt/api.Value,quilt/api.Value] -/
def slices_Equalapi_Value_api_Value_q {β : Type} (s1_ : (List I4)) (s2_ : (List I4)) (K : Bool → Option β) : Option β := (bif ((s1_.length : Int) != (s2_.length : Int)) then (K false) else (Option.bind (iterN (slices_Equalapi_Value_api_Value_l4_p s1_ s2_) LL (0 : Int)) (either (fun y393 : Int => (K true)) (fun y394 : Unit => (K false)))))
def slices_Equalapi_Value_api_Value (s1_ : (List I4)) (s2_ : (List I4)) : Option Bool := slices_Equalapi_Value_api_Value_q s1_ s2_ some
theorem slices_Equalapi_Value_api_Value_n {β : Type} (s1_ : (List I4)) (s2_ : (List I4)) (K : Bool → Option β) : slices_Equalapi_Value_api_Value_q s1_ s2_ K = (slices_Equalapi_Value_api_Value s1_ s2_).bind K := (bif_b some_b (bind_b (either_b (fun y393 => some_b) (fun y394 => some_b))))
theorem slices_Equalapi_Value_api_Value_is (s1_ : (List I4)) (s2_ : (List I4)) : stepS E cp42 noE 41 [rl tsI4 s1_, rl tsI4 s2_] = Option.bind (slices_Equalapi_Value_api_Value s1_ s2_) (fun y : Bool => some (rb y : R)) := by
  refine Eq.trans ?_ (slices_Equalapi_Value_api_Value_n s1_ s2_ (fun y : Bool => some (rb y : R)))
  refine (stepG_is (nt := 26) (regs := [(0, rl tsI4 s1_), (1, rl tsI4 s2_)]) (by kernel_rfl) (by kernel_rfl)).trans ?_
  unfold slices_Equalapi_Value_api_Value_q
  refine (pre (n := 1) (c' := C42.r) (by kernel_rfl) (by kernel_rfl) (slices_Equalapi_Value_api_Value_f1 s1_ s2_ _)).trans ?_
  refine (seq_push (by kernel_rfl)).trans ?_
  refine (pre (n := 1) (c' := C42.r.l.r) (by kernel_rfl) (by kernel_rfl) (slices_Equalapi_Value_api_Value_f1000002 s1_ s2_ _)).trans ?_
  refine (cond_eq (b := ((s1_.length : Int) != (s2_.length : Int))) (st' := ⟨[(0, rl tsI4 s1_), (1, rl tsI4 s2_)], [], [], 26⟩) (by kernel_rfl) (by kernel_rfl) (by kernel_rfl)).trans (bif_g ?_ ?_)
  · refine (pre (n := 1) (c' := C42.r.l.r.t.r) (by kernel_rfl) (by kernel_rfl) (slices_Equalapi_Value_api_Value_fz s1_ s2_ _)).trans ?_
    refine (ret_eq (by kernel_rfl)).trans ?_
    refine seqC_ret.trans ?_
    kernel_rfl
  · refine (skip_eq (by kernel_rfl)).trans ?_
    refine (seqC_normal (st' := ⟨[(0, rl tsI4 s1_), (1, rl tsI4 s2_)], [], [], 26⟩) (by kernel_rfl)).trans ?_
    refine (seq_push (by kernel_rfl)).trans ?_
    refine (pre (n := 1) (c' := C42.r.r.l.r) (by kernel_rfl) (by kernel_rfl) (slices_Equalapi_Value_api_Value_f4 s1_ s2_ _)).trans ?_
    refine (block_push (id := 0) (by kernel_rfl)).trans ?_
    refine (slices_Equalapi_Value_api_Value_l4 s1_ s2_ _).trans (bind_g (either_g (fun y393 => ?_) (fun y394 => ?_)))
    · refine block_same.trans ?_
      refine (seqC_normal (st' := ⟨[], [], [], 26⟩) (by kernel_rfl)).trans ?_
      refine (pre (n := 1) (c' := C42.r.r.r.r) (by kernel_rfl) (by kernel_rfl) (slices_Equalapi_Value_api_Value_fzx3 _)).trans ?_
      refine (ret_eq (by kernel_rfl)).trans ?_
      kernel_rfl
    · refine block_ret.trans ?_
      refine seqC_ret.trans ?_
      kernel_rfl
theorem slices_Equalapi_Value_api_Value_c (x : denL [(.one (.g (.sl tsI4))), (.one (.g (.sl tsI4)))]) : stepS E cp42 noE 41 (encL [(.one (.g (.sl tsI4))), (.one (.g (.sl tsI4)))] x) = ((fun x => slices_Equalapi_Value_api_Value x.1 x.2.1) x).bind fun y => some (Po.enc (.one (.one (.g .bool))) ((fun y : Bool => y) y)) := Eq.mp (by kernel_rfl) (slices_Equalapi_Value_api_Value_is x.1 x.2.1)
noncomputable def cp43 : CallP := withC cp42 41 [(.one (.g (.sl tsI4))), (.one (.g (.sl tsI4)))] (.one (.one (.g .bool))) (fun y : Bool => y) (fun x => slices_Equalapi_Value_api_Value x.1 x.2.1)
theorem cp43_ok : PureOK E cp43 := withC_ok cp42_ok (stepS_ok eok cp42_ok noE_ok) fun x => con_of (enc := fun y => Po.enc (.one (.one (.g .bool))) ((fun y : Bool => y) y)) (slices_Equalapi_Value_api_Value_c x)
noncomputable abbrev C43 : Code := codeOf E.P 17
noncomputable abbrev P43 {α : Type} (n : Nat) (c : Code) (st : St) (k : St → Option α) : Option α := preK E 17 cp43 noE n c st k
noncomputable abbrev R43 {α : Type} (c : Code) (st : St) (k : Kont α) : Option α := runCode E 17 cp43 noE c st k
noncomputable abbrev Q43 {α : Type} (c : Code) (k : Kont α) : Kont α := seqC E 17 cp43 noE c k
theorem graph_Same_r1 {α : Type} (a_ : Graph) (b_ : Graph) (k : St → Option α) : P43 2 C43 ⟨[(0, .agg (tsGraph.leaves a_)), (1, .agg (tsGraph.leaves b_))], [], [], 26⟩ k = Option.bind (slices_EqualFuncapi_Node_api_Node_api_Node_api_Node a_.2.1 b_.2.1) fun y378 : Bool => k ⟨[(2, .one (.cell (tsGraph.leaves a_))), (3, .one (.cell (tsGraph.leaves b_))), (5, rb y378)], [], [], 26⟩ := by kernel_rfl
def graph_Same_r2_q {β : Type} (a_ : Graph) (b_ : Graph) (y378 : Bool) (K : Bool → Option β) : Option β := (bif y378 then (Option.bind (slices_Equalapi_Value_api_Value a_.1 b_.1) (fun y395 : Bool => (bif y395 then (Option.bind (slices_Equalint_int a_.2.2 b_.2.2) (fun y396 : Bool => (K y396))) else (K false)))) else (K false))
def graph_Same_r2_p (a_ : Graph) (b_ : Graph) (y378 : Bool) : Option (Bool) := graph_Same_r2_q a_ b_ y378 some
theorem graph_Same_r2_n {β : Type} (a_ : Graph) (b_ : Graph) (y378 : Bool) (K : Bool → Option β) : graph_Same_r2_q a_ b_ y378 K = (graph_Same_r2_p a_ b_ y378).bind K := (bif_b (bind_b fun y395 => (bif_b (bind_b fun y396 => some_b) some_b)) some_b)
theorem graph_Same_r2 {α : Type} (a_ : Graph) (b_ : Graph) (y378 : Bool) (k : St → Option α) : P43 1 C43.r.r ⟨[(2, .one (.cell (tsGraph.leaves a_))), (3, .one (.cell (tsGraph.leaves b_))), (5, rb y378)], [], [], 26⟩ k = Option.bind (graph_Same_r2_p a_ b_ y378) (fun y397 : Bool => k ⟨[(4, rb y397)], [], [], 26⟩) := Eq.trans (by kernel_rfl) (graph_Same_r2_n a_ b_ y378 _)
/-- quilt/graph.Same -/
def graph_Same_q {β : Type} (a_ : Graph) (b_ : Graph) (K : Bool → Option β) : Option β := (Option.bind (slices_EqualFuncapi_Node_api_Node_api_Node_api_Node a_.2.1 b_.2.1) (fun y378 : Bool => (Option.bind (graph_Same_r2_p a_ b_ y378) (fun y397 : Bool => (K y397)))))
def graph_Same (a_ : Graph) (b_ : Graph) : Option Bool := graph_Same_q a_ b_ some
theorem graph_Same_n {β : Type} (a_ : Graph) (b_ : Graph) (K : Bool → Option β) : graph_Same_q a_ b_ K = (graph_Same a_ b_).bind K := (bind_b fun y378 => (bind_b fun y397 => some_b))
theorem graph_Same_is (a_ : Graph) (b_ : Graph) : stepS E cp43 noE 17 [.agg (tsGraph.leaves a_), .agg (tsGraph.leaves b_)] = Option.bind (graph_Same a_ b_) (fun y : Bool => some (rb y : R)) := by
  refine Eq.trans ?_ (graph_Same_n a_ b_ (fun y : Bool => some (rb y : R)))
  refine (stepG_is (nt := 26) (regs := [(0, .agg (tsGraph.leaves a_)), (1, .agg (tsGraph.leaves b_))]) (by kernel_rfl) (by kernel_rfl)).trans ?_
  unfold graph_Same_q
  refine (pre (n := 2) (c' := C43.r.r) (by kernel_rfl) (by kernel_rfl) (graph_Same_r1 a_ b_ _)).trans (bind_g fun y378 => ?_)
  refine (pre (n := 1) (c' := C43.r.r.r) (by kernel_rfl) (by kernel_rfl) (graph_Same_r2 a_ b_ y378 _)).trans (bind_g fun y397 => ?_)
  refine (ret_eq (by kernel_rfl)).trans ?_
  kernel_rfl
theorem graph_Same_c (x : denL [(.agg tsGraph), (.agg tsGraph)]) : stepS E cp43 noE 17 (encL [(.agg tsGraph), (.agg tsGraph)] x) = ((fun x => graph_Same x.1 x.2.1) x).bind fun y => some (Po.enc (.one (.one (.g .bool))) ((fun y : Bool => y) y)) := Eq.mp (by kernel_rfl) (graph_Same_is x.1 x.2.1)
noncomputable def cp44 : CallP := withC cp43 17 [(.agg tsGraph), (.agg tsGraph)] (.one (.one (.g .bool))) (fun y : Bool => y) (fun x => graph_Same x.1 x.2.1)
theorem cp44_ok : PureOK E cp44 := withC_ok cp43_ok (stepS_ok eok cp43_ok noE_ok) fun x => con_of (enc := fun y => Po.enc (.one (.one (.g .bool))) ((fun y : Bool => y) y)) (graph_Same_c x)
noncomputable abbrev C44 : Code := codeOf E.P 42
noncomputable abbrev P44 {α : Type} (n : Nat) (c : Code) (st : St) (k : St → Option α) : Option α := preK E 42 cp44 noE n c st k
noncomputable abbrev R44 {α : Type} (c : Code) (st : St) (k : Kont α) : Option α := runCode E 42 cp44 noE c st k
noncomputable abbrev Q44 {α : Type} (c : Code) (k : Kont α) : Kont α := seqC E 42 cp44 noE c k
theorem ref03_SameValues_f1 {α : Type} (a_ : (List I4)) (b_ : (List I4)) (k : St → Option α) : P44 1 C44 ⟨[(0, rl tsI4 a_), (1, rl tsI4 b_)], [], [], 26⟩ k = k ⟨[(0, rl tsI4 a_), (1, rl tsI4 b_)], [], [], 26⟩ := by kernel_rfl
theorem ref03_SameValues_f1000002 {α : Type} (a_ : (List I4)) (b_ : (List I4)) (k : St → Option α) : P44 1 C44.r.l ⟨[(0, rl tsI4 a_), (1, rl tsI4 b_)], [], [], 26⟩ k = k ⟨[(0, rl tsI4 a_), (1, rl tsI4 b_), (10, rb ((a_.length : Int) != (b_.length : Int)))], [], [], 26⟩ := by kernel_rfl
theorem ref03_SameValues_fz {α : Type} (a_ : (List I4)) (b_ : (List I4)) (k : St → Option α) : P44 1 C44.r.l.r.t ⟨[(0, rl tsI4 a_), (1, rl tsI4 b_)], [], [], 26⟩ k = k ⟨[(4, rb false)], [], [], 26⟩ := by kernel_rfl
theorem ref03_SameValues_f4 {α : Type} (a_ : (List I4)) (b_ : (List I4)) (k : St → Option α) : P44 1 C44.r.r.l ⟨[(0, rl tsI4 a_), (1, rl tsI4 b_)], [], [], 26⟩ k = k ⟨[(0, rl tsI4 a_), (1, rl tsI4 b_), (5, ri (0 : Int))], [], [], 26⟩ := by kernel_rfl
theorem ref03_SameValues_fzx1 {α : Type} (a_ : (List I4)) (b_ : (List I4)) (s410 : Int) (k : St → Option α) : P44 1 (bodyOf (bodyOf C44.r.r.l.r)).l ⟨[(0, rl tsI4 a_), (1, rl tsI4 b_), (5, ri s410)], [], [], 26⟩ k = k ⟨[(0, rl tsI4 a_), (1, rl tsI4 b_), (5, ri s410), (14, rb (decide (s410 < (a_.length : Int))))], [], [], 26⟩ := by kernel_rfl
def ref03_SameValues_r6_q {β : Type} (a_ : (List I4)) (b_ : (List I4)) (s410 : Int) (K : Bool → Option β) : Option β := (bif (decide ((0 : Int) ≤ s410)) then (bif (decide (s410 < (a_.length : Int))) then (bif (decide ((0 : Int) ≤ s410)) then (bif (decide (s410 < (b_.length : Int))) then (K (!((((gt a_ s410 dI4).1) == ((gt b_ s410 dI4).1)) && ((((gt a_ s410 dI4).2.1) == ((gt b_ s410 dI4).2.1)) && ((((gt a_ s410 dI4).2.2.1) == ((gt b_ s410 dI4).2.2.1)) && ((((gt a_ s410 dI4).2.2.2) == ((gt b_ s410 dI4).2.2.2)) && true)))))) else none) else none) else none) else none)
def ref03_SameValues_r6_p (a_ : (List I4)) (b_ : (List I4)) (s410 : Int) : Option (Bool) := ref03_SameValues_r6_q a_ b_ s410 some
theorem ref03_SameValues_r6_n {β : Type} (a_ : (List I4)) (b_ : (List I4)) (s410 : Int) (K : Bool → Option β) : ref03_SameValues_r6_q a_ b_ s410 K = (ref03_SameValues_r6_p a_ b_ s410).bind K := (bif_b (bif_b (bif_b (bif_b some_b none_b) none_b) none_b) none_b)
theorem ref03_SameValues_r6 {α : Type} (a_ : (List I4)) (b_ : (List I4)) (s410 : Int) (k : St → Option α) : P44 1 (bodyOf (bodyOf (bodyOf C44.r.r.l.r)).r.l) ⟨[(0, rl tsI4 a_), (1, rl tsI4 b_), (5, ri s410)], [], [], 26⟩ k = Option.bind (ref03_SameValues_r6_p a_ b_ s410) (fun y412 : Bool => k ⟨[(0, rl tsI4 a_), (1, rl tsI4 b_), (5, ri s410), (25, rb y412)], [], [], 26⟩) := Eq.trans (by kernel_rfl) (ref03_SameValues_r6_n a_ b_ s410 _)
theorem ref03_SameValues_fzx2 {α : Type} (a_ : (List I4)) (b_ : (List I4)) (s410 : Int) (k : St → Option α) : P44 1 (bodyOf (bodyOf (bodyOf C44.r.r.l.r)).r.l).r.t ⟨[(0, rl tsI4 a_), (1, rl tsI4 b_), (5, ri s410)], [], [], 26⟩ k = k ⟨[(4, rb false)], [], [], 26⟩ := by kernel_rfl
theorem ref03_SameValues_r5 {α : Type} (a_ : (List I4)) (b_ : (List I4)) (s410 : Int) (k : Kont α) : R44 (bodyOf (bodyOf C44.r.r.l.r)).r.r ⟨[(0, rl tsI4 a_), (1, rl tsI4 b_), (5, ri s410)], [], [], 26⟩ k = k .normal ⟨[(0, rl tsI4 a_), (1, rl tsI4 b_), (5, ri (IntKind.wrap .i64 (s410 + (1 : Int))))], [], [], 26⟩ := by kernel_rfl
def ref03_SameValues_l4_q {β : Type} (a_ : (List I4)) (b_ : (List I4)) (s410 : Int) (K0 : Int → Option β) (K1 : Int → Option β) (K2 : Unit → Option β) : Option β := (bif (decide (s410 < (a_.length : Int))) then (Option.bind (ref03_SameValues_r6_p a_ b_ s410) (fun y412 : Bool => (bif y412 then (K2 ()) else (K0 (IntKind.wrap .i64 (s410 + (1 : Int))))))) else (K1 s410))
def ref03_SameValues_l4_p (a_ : (List I4)) (b_ : (List I4)) (s410 : Int) : Option (Int ⊕ (Int ⊕ Unit)) := ref03_SameValues_l4_q a_ b_ s410 (fun y => some (Sum.inl y)) (fun y => some (Sum.inr (Sum.inl y))) (fun y => some (Sum.inr (Sum.inr y)))
theorem ref03_SameValues_l4_n {β : Type} (a_ : (List I4)) (b_ : (List I4)) (s410 : Int) (K0 : Int → Option β) (K1 : Int → Option β) (K2 : Unit → Option β) : ref03_SameValues_l4_q a_ b_ s410 K0 K1 K2 = (ref03_SameValues_l4_p a_ b_ s410).bind (either K0 (either K1 K2)) := (bif_b (bind_b fun y412 => (bif_b e3_2 e3_0)) e3_1)
theorem ref03_SameValues_l4_b {α : Type} (a_ : (List I4)) (b_ : (List I4)) (s410 : Int) (k : Kont α) : R44 (bodyOf (bodyOf C44.r.r.l.r)) ⟨[(0, rl tsI4 a_), (1, rl tsI4 b_), (5, ri s410)], [], [], 26⟩ (loopKont 0 k) = Option.bind (ref03_SameValues_l4_p a_ b_ s410) (either (fun y : Int => k .normal ⟨[(0, rl tsI4 a_), (1, rl tsI4 b_), (5, ri y)], [], [], 26⟩) (either (fun y413 : Int => k (.exit 0) ⟨[(0, rl tsI4 a_), (1, rl tsI4 b_), (5, ri y413)], [], [], 26⟩) (fun y414 : Unit => k .ret ⟨[(4, rb false)], [], [], 26⟩))) := by
  refine Eq.trans ?_ (ref03_SameValues_l4_n a_ b_ s410 _ _ _)
  unfold ref03_SameValues_l4_q
  refine (seq_push (by kernel_rfl)).trans ?_
  refine (pre (n := 1) (c' := (bodyOf (bodyOf C44.r.r.l.r)).l.r) (by kernel_rfl) (by kernel_rfl) (ref03_SameValues_fzx1 a_ b_ s410 _)).trans ?_
  refine (cond_eq (b := (decide (s410 < (a_.length : Int)))) (st' := ⟨[(0, rl tsI4 a_), (1, rl tsI4 b_), (5, ri s410)], [], [], 26⟩) (by kernel_rfl) (by kernel_rfl) (by kernel_rfl)).trans (bif_g ?_ ?_)
  · refine (skip_eq (by kernel_rfl)).trans ?_
    refine (seqC_normal (st' := ⟨[(0, rl tsI4 a_), (1, rl tsI4 b_), (5, ri s410)], [], [], 26⟩) (by kernel_rfl)).trans ?_
    refine (seq_push (by kernel_rfl)).trans ?_
    refine (block_push (id := 1) (by kernel_rfl)).trans ?_
    refine (pre (n := 1) (c' := (bodyOf (bodyOf (bodyOf C44.r.r.l.r)).r.l).r) (by kernel_rfl) (by kernel_rfl) (ref03_SameValues_r6 a_ b_ s410 _)).trans (bind_g fun y412 => ?_)
    refine (cond_eq (b := y412) (st' := ⟨[(0, rl tsI4 a_), (1, rl tsI4 b_), (5, ri s410)], [], [], 26⟩) (by kernel_rfl) (by kernel_rfl) (by kernel_rfl)).trans (bif_g ?_ ?_)
    · refine (pre (n := 1) (c' := (bodyOf (bodyOf (bodyOf C44.r.r.l.r)).r.l).r.t.r) (by kernel_rfl) (by kernel_rfl) (ref03_SameValues_fzx2 a_ b_ s410 _)).trans ?_
      refine (ret_eq (by kernel_rfl)).trans ?_
      refine block_ret.trans ?_
      refine seqC_ret.trans ?_
      kernel_rfl
    · refine (skip_eq (by kernel_rfl)).trans ?_
      refine block_normal.trans ?_
      refine (seqC_normal (st' := ⟨[(0, rl tsI4 a_), (1, rl tsI4 b_), (5, ri s410)], [], [], 26⟩) (by kernel_rfl)).trans ?_
      refine (ref03_SameValues_r5 a_ b_ s410 _).trans ?_
      kernel_rfl
  · refine (exit_eq (j := 0) (by kernel_rfl)).trans ?_
    refine seqC_exit.trans ?_
    kernel_rfl
theorem ref03_SameValues_l4 {α : Type} (a_ : (List I4)) (b_ : (List I4)) (k : Kont α) : R44 (bodyOf C44.r.r.l.r) ⟨[(0, rl tsI4 a_), (1, rl tsI4 b_), (5, ri (0 : Int))], [], [], 26⟩ k = Option.bind (iterN (ref03_SameValues_l4_p a_ b_) LL (0 : Int)) (either (fun y413 : Int => k (.exit 0) ⟨[(0, rl tsI4 a_), (1, rl tsI4 b_), (5, ri y413)], [], [], 26⟩) (fun y414 : Unit => k .ret ⟨[(4, rb false)], [], [], 26⟩)) :=
  Eq.trans (by kernel_rfl) (loop_iter2 (S := fun s410 : Int => ⟨[(0, rl tsI4 a_), (1, rl tsI4 b_), (5, ri s410)], [], [], 26⟩) (Y1 := fun y413 : Int => ((.exit 0), ⟨[(0, rl tsI4 a_), (1, rl tsI4 b_), (5, ri y413)], [], [], 26⟩)) (Y2 := fun y414 : Unit => (.ret, ⟨[(4, rb false)], [], [], 26⟩)) (fun s k => ref03_SameValues_l4_b a_ b_ s k) (fun z => rfl) (fun z => rfl) LL (0 : Int))
theorem ref03_SameValues_fzx3 {α : Type} (k : St → Option α) : P44 1 C44.r.r.r ⟨[], [], [], 26⟩ k = k ⟨[(4, rb true)], [], [], 26⟩ := by kernel_rfl
/-- quilt/quiltref03.SameValues -/
def ref03_SameValues_q {β : Type} (a_ : (List I4)) (b_ : (List I4)) (K : Bool → Option β) : Option β := (bif ((a_.length : Int) != (b_.length : Int)) then (K false) else (Option.bind (iterN (ref03_SameValues_l4_p a_ b_) LL (0 : Int)) (either (fun y413 : Int => (K true)) (fun y414 : Unit => (K false)))))
def ref03_SameValues (a_ : (List I4)) (b_ : (List I4)) : Option Bool := ref03_SameValues_q a_ b_ some
theorem ref03_SameValues_n {β : Type} (a_ : (List I4)) (b_ : (List I4)) (K : Bool → Option β) : ref03_SameValues_q a_ b_ K = (ref03_SameValues a_ b_).bind K := (bif_b some_b (bind_b (either_b (fun y413 => some_b) (fun y414 => some_b))))
theorem ref03_SameValues_is (a_ : (List I4)) (b_ : (List I4)) : stepS E cp44 noE 42 [rl tsI4 a_, rl tsI4 b_] = Option.bind (ref03_SameValues a_ b_) (fun y : Bool => some (rb y : R)) := by
  refine Eq.trans ?_ (ref03_SameValues_n a_ b_ (fun y : Bool => some (rb y : R)))
  refine (stepG_is (nt := 26) (regs := [(0, rl tsI4 a_), (1, rl tsI4 b_)]) (by kernel_rfl) (by kernel_rfl)).trans ?_
  unfold ref03_SameValues_q
  refine (pre (n := 1) (c' := C44.r) (by kernel_rfl) (by kernel_rfl) (ref03_SameValues_f1 a_ b_ _)).trans ?_
  refine (seq_push (by kernel_rfl)).trans ?_
  refine (pre (n := 1) (c' := C44.r.l.r) (by kernel_rfl) (by kernel_rfl) (ref03_SameValues_f1000002 a_ b_ _)).trans ?_
  refine (cond_eq (b := ((a_.length : Int) != (b_.length : Int))) (st' := ⟨[(0, rl tsI4 a_), (1, rl tsI4 b_)], [], [], 26⟩) (by kernel_rfl) (by kernel_rfl) (by kernel_rfl)).trans (bif_g ?_ ?_)
  · refine (pre (n := 1) (c' := C44.r.l.r.t.r) (by kernel_rfl) (by kernel_rfl) (ref03_SameValues_fz a_ b_ _)).trans ?_
    refine (ret_eq (by kernel_rfl)).trans ?_
    refine seqC_ret.trans ?_
    kernel_rfl
  · refine (skip_eq (by kernel_rfl)).trans ?_
    refine (seqC_normal (st' := ⟨[(0, rl tsI4 a_), (1, rl tsI4 b_)], [], [], 26⟩) (by kernel_rfl)).trans ?_
    refine (seq_push (by kernel_rfl)).trans ?_
    refine (pre (n := 1) (c' := C44.r.r.l.r) (by kernel_rfl) (by kernel_rfl) (ref03_SameValues_f4 a_ b_ _)).trans ?_
    refine (block_push (id := 0) (by kernel_rfl)).trans ?_
    refine (ref03_SameValues_l4 a_ b_ _).trans (bind_g (either_g (fun y413 => ?_) (fun y414 => ?_)))
    · refine block_same.trans ?_
      refine (seqC_normal (st' := ⟨[], [], [], 26⟩) (by kernel_rfl)).trans ?_
      refine (pre (n := 1) (c' := C44.r.r.r.r) (by kernel_rfl) (by kernel_rfl) (ref03_SameValues_fzx3 _)).trans ?_
      refine (ret_eq (by kernel_rfl)).trans ?_
      kernel_rfl
    · refine block_ret.trans ?_
      refine seqC_ret.trans ?_
      kernel_rfl
theorem ref03_SameValues_c (x : denL [(.one (.g (.sl tsI4))), (.one (.g (.sl tsI4)))]) : stepS E cp44 noE 42 (encL [(.one (.g (.sl tsI4))), (.one (.g (.sl tsI4)))] x) = ((fun x => ref03_SameValues x.1 x.2.1) x).bind fun y => some (Po.enc (.one (.one (.g .bool))) ((fun y : Bool => y) y)) := Eq.mp (by kernel_rfl) (ref03_SameValues_is x.1 x.2.1)
noncomputable def cp45 : CallP := withC cp44 42 [(.one (.g (.sl tsI4))), (.one (.g (.sl tsI4)))] (.one (.one (.g .bool))) (fun y : Bool => y) (fun x => ref03_SameValues x.1 x.2.1)
theorem cp45_ok : PureOK E cp45 := withC_ok cp44_ok (stepS_ok eok cp44_ok noE_ok) fun x => con_of (enc := fun y => Po.enc (.one (.one (.g .bool))) ((fun y : Bool => y) y)) (ref03_SameValues_c x)
noncomputable abbrev C45 : Code := codeOf E.P 43
noncomputable abbrev P45 {α : Type} (n : Nat) (c : Code) (st : St) (k : St → Option α) : Option α := preK E 43 cp45 noE n c st k
noncomputable abbrev R45 {α : Type} (c : Code) (st : St) (k : Kont α) : Option α := runCode E 43 cp45 noE c st k
noncomputable abbrev Q45 {α : Type} (c : Code) (k : Kont α) : Kont α := seqC E 43 cp45 noE c k
theorem ref03_ints_f1 {α : Type} (a_ : (List Int)) (b_ : (List Int)) (k : St → Option α) : P45 1 C45 ⟨[(0, rl (.one (.int .i64)) a_), (1, rl (.one (.int .i64)) b_)], [], [], 26⟩ k = k ⟨[(0, rl (.one (.int .i64)) a_), (1, rl (.one (.int .i64)) b_)], [], [], 26⟩ := by kernel_rfl
theorem ref03_ints_f1000002 {α : Type} (a_ : (List Int)) (b_ : (List Int)) (k : St → Option α) : P45 1 C45.r.l ⟨[(0, rl (.one (.int .i64)) a_), (1, rl (.one (.int .i64)) b_)], [], [], 26⟩ k = k ⟨[(0, rl (.one (.int .i64)) a_), (1, rl (.one (.int .i64)) b_), (10, rb ((a_.length : Int) != (b_.length : Int)))], [], [], 26⟩ := by kernel_rfl
theorem ref03_ints_fz {α : Type} (a_ : (List Int)) (b_ : (List Int)) (k : St → Option α) : P45 1 C45.r.l.r.t ⟨[(0, rl (.one (.int .i64)) a_), (1, rl (.one (.int .i64)) b_)], [], [], 26⟩ k = k ⟨[(4, rb false)], [], [], 26⟩ := by kernel_rfl
theorem ref03_ints_f4 {α : Type} (a_ : (List Int)) (b_ : (List Int)) (k : St → Option α) : P45 1 C45.r.r.l ⟨[(0, rl (.one (.int .i64)) a_), (1, rl (.one (.int .i64)) b_)], [], [], 26⟩ k = k ⟨[(0, rl (.one (.int .i64)) a_), (1, rl (.one (.int .i64)) b_), (5, ri (0 : Int))], [], [], 26⟩ := by kernel_rfl
theorem ref03_ints_fzx1 {α : Type} (a_ : (List Int)) (b_ : (List Int)) (s427 : Int) (k : St → Option α) : P45 1 (bodyOf (bodyOf C45.r.r.l.r)).l ⟨[(0, rl (.one (.int .i64)) a_), (1, rl (.one (.int .i64)) b_), (5, ri s427)], [], [], 26⟩ k = k ⟨[(0, rl (.one (.int .i64)) a_), (1, rl (.one (.int .i64)) b_), (5, ri s427), (14, rb (decide (s427 < (a_.length : Int))))], [], [], 26⟩ := by kernel_rfl
def ref03_ints_r6_q {β : Type} (a_ : (List Int)) (b_ : (List Int)) (s427 : Int) (K : Unit → Option β) : Option β := (bif (decide ((0 : Int) ≤ s427)) then (bif (decide (s427 < (a_.length : Int))) then (bif (decide ((0 : Int) ≤ s427)) then (bif (decide (s427 < (b_.length : Int))) then (K ()) else none) else none) else none) else none)
def ref03_ints_r6_p (a_ : (List Int)) (b_ : (List Int)) (s427 : Int) : Option (Unit) := ref03_ints_r6_q a_ b_ s427 some
theorem ref03_ints_r6_n {β : Type} (a_ : (List Int)) (b_ : (List Int)) (s427 : Int) (K : Unit → Option β) : ref03_ints_r6_q a_ b_ s427 K = (ref03_ints_r6_p a_ b_ s427).bind K := (bif_b (bif_b (bif_b (bif_b some_b none_b) none_b) none_b) none_b)
theorem ref03_ints_r6 {α : Type} (a_ : (List Int)) (b_ : (List Int)) (s427 : Int) (k : St → Option α) : P45 1 (bodyOf (bodyOf (bodyOf C45.r.r.l.r)).r.l) ⟨[(0, rl (.one (.int .i64)) a_), (1, rl (.one (.int .i64)) b_), (5, ri s427)], [], [], 26⟩ k = Option.bind (ref03_ints_r6_p a_ b_ s427) (fun y429 : Unit => k ⟨[(0, rl (.one (.int .i64)) a_), (1, rl (.one (.int .i64)) b_), (5, ri s427), (25, rb ((gt a_ s427 (0 : Int)) != (gt b_ s427 (0 : Int))))], [], [], 26⟩) := Eq.trans (by kernel_rfl) (ref03_ints_r6_n a_ b_ s427 _)
theorem ref03_ints_fzx2 {α : Type} (a_ : (List Int)) (b_ : (List Int)) (s427 : Int) (k : St → Option α) : P45 1 (bodyOf (bodyOf (bodyOf C45.r.r.l.r)).r.l).r.t ⟨[(0, rl (.one (.int .i64)) a_), (1, rl (.one (.int .i64)) b_), (5, ri s427)], [], [], 26⟩ k = k ⟨[(4, rb false)], [], [], 26⟩ := by kernel_rfl
theorem ref03_ints_r5 {α : Type} (a_ : (List Int)) (b_ : (List Int)) (s427 : Int) (k : Kont α) : R45 (bodyOf (bodyOf C45.r.r.l.r)).r.r ⟨[(0, rl (.one (.int .i64)) a_), (1, rl (.one (.int .i64)) b_), (5, ri s427)], [], [], 26⟩ k = k .normal ⟨[(0, rl (.one (.int .i64)) a_), (1, rl (.one (.int .i64)) b_), (5, ri (IntKind.wrap .i64 (s427 + (1 : Int))))], [], [], 26⟩ := by kernel_rfl
def ref03_ints_l4_q {β : Type} (a_ : (List Int)) (b_ : (List Int)) (s427 : Int) (K0 : Int → Option β) (K1 : Int → Option β) (K2 : Unit → Option β) : Option β := (bif (decide (s427 < (a_.length : Int))) then (Option.bind (ref03_ints_r6_p a_ b_ s427) (fun y429 : Unit => (bif ((gt a_ s427 (0 : Int)) != (gt b_ s427 (0 : Int))) then (K2 ()) else (K0 (IntKind.wrap .i64 (s427 + (1 : Int))))))) else (K1 s427))
def ref03_ints_l4_p (a_ : (List Int)) (b_ : (List Int)) (s427 : Int) : Option (Int ⊕ (Int ⊕ Unit)) := ref03_ints_l4_q a_ b_ s427 (fun y => some (Sum.inl y)) (fun y => some (Sum.inr (Sum.inl y))) (fun y => some (Sum.inr (Sum.inr y)))
theorem ref03_ints_l4_n {β : Type} (a_ : (List Int)) (b_ : (List Int)) (s427 : Int) (K0 : Int → Option β) (K1 : Int → Option β) (K2 : Unit → Option β) : ref03_ints_l4_q a_ b_ s427 K0 K1 K2 = (ref03_ints_l4_p a_ b_ s427).bind (either K0 (either K1 K2)) := (bif_b (bind_b fun y429 => (bif_b e3_2 e3_0)) e3_1)
theorem ref03_ints_l4_b {α : Type} (a_ : (List Int)) (b_ : (List Int)) (s427 : Int) (k : Kont α) : R45 (bodyOf (bodyOf C45.r.r.l.r)) ⟨[(0, rl (.one (.int .i64)) a_), (1, rl (.one (.int .i64)) b_), (5, ri s427)], [], [], 26⟩ (loopKont 0 k) = Option.bind (ref03_ints_l4_p a_ b_ s427) (either (fun y : Int => k .normal ⟨[(0, rl (.one (.int .i64)) a_), (1, rl (.one (.int .i64)) b_), (5, ri y)], [], [], 26⟩) (either (fun y430 : Int => k (.exit 0) ⟨[(0, rl (.one (.int .i64)) a_), (1, rl (.one (.int .i64)) b_), (5, ri y430)], [], [], 26⟩) (fun y431 : Unit => k .ret ⟨[(4, rb false)], [], [], 26⟩))) := by
  refine Eq.trans ?_ (ref03_ints_l4_n a_ b_ s427 _ _ _)
  unfold ref03_ints_l4_q
  refine (seq_push (by kernel_rfl)).trans ?_
  refine (pre (n := 1) (c' := (bodyOf (bodyOf C45.r.r.l.r)).l.r) (by kernel_rfl) (by kernel_rfl) (ref03_ints_fzx1 a_ b_ s427 _)).trans ?_
  refine (cond_eq (b := (decide (s427 < (a_.length : Int)))) (st' := ⟨[(0, rl (.one (.int .i64)) a_), (1, rl (.one (.int .i64)) b_), (5, ri s427)], [], [], 26⟩) (by kernel_rfl) (by kernel_rfl) (by kernel_rfl)).trans (bif_g ?_ ?_)
  · refine (skip_eq (by kernel_rfl)).trans ?_
    refine (seqC_normal (st' := ⟨[(0, rl (.one (.int .i64)) a_), (1, rl (.one (.int .i64)) b_), (5, ri s427)], [], [], 26⟩) (by kernel_rfl)).trans ?_
    refine (seq_push (by kernel_rfl)).trans ?_
    refine (block_push (id := 1) (by kernel_rfl)).trans ?_
    refine (pre (n := 1) (c' := (bodyOf (bodyOf (bodyOf C45.r.r.l.r)).r.l).r) (by kernel_rfl) (by kernel_rfl) (ref03_ints_r6 a_ b_ s427 _)).trans (bind_g fun y429 => ?_)
    refine (cond_eq (b := ((gt a_ s427 (0 : Int)) != (gt b_ s427 (0 : Int)))) (st' := ⟨[(0, rl (.one (.int .i64)) a_), (1, rl (.one (.int .i64)) b_), (5, ri s427)], [], [], 26⟩) (by kernel_rfl) (by kernel_rfl) (by kernel_rfl)).trans (bif_g ?_ ?_)
    · refine (pre (n := 1) (c' := (bodyOf (bodyOf (bodyOf C45.r.r.l.r)).r.l).r.t.r) (by kernel_rfl) (by kernel_rfl) (ref03_ints_fzx2 a_ b_ s427 _)).trans ?_
      refine (ret_eq (by kernel_rfl)).trans ?_
      refine block_ret.trans ?_
      refine seqC_ret.trans ?_
      kernel_rfl
    · refine (skip_eq (by kernel_rfl)).trans ?_
      refine block_normal.trans ?_
      refine (seqC_normal (st' := ⟨[(0, rl (.one (.int .i64)) a_), (1, rl (.one (.int .i64)) b_), (5, ri s427)], [], [], 26⟩) (by kernel_rfl)).trans ?_
      refine (ref03_ints_r5 a_ b_ s427 _).trans ?_
      kernel_rfl
  · refine (exit_eq (j := 0) (by kernel_rfl)).trans ?_
    refine seqC_exit.trans ?_
    kernel_rfl
theorem ref03_ints_l4 {α : Type} (a_ : (List Int)) (b_ : (List Int)) (k : Kont α) : R45 (bodyOf C45.r.r.l.r) ⟨[(0, rl (.one (.int .i64)) a_), (1, rl (.one (.int .i64)) b_), (5, ri (0 : Int))], [], [], 26⟩ k = Option.bind (iterN (ref03_ints_l4_p a_ b_) LL (0 : Int)) (either (fun y430 : Int => k (.exit 0) ⟨[(0, rl (.one (.int .i64)) a_), (1, rl (.one (.int .i64)) b_), (5, ri y430)], [], [], 26⟩) (fun y431 : Unit => k .ret ⟨[(4, rb false)], [], [], 26⟩)) :=
  Eq.trans (by kernel_rfl) (loop_iter2 (S := fun s427 : Int => ⟨[(0, rl (.one (.int .i64)) a_), (1, rl (.one (.int .i64)) b_), (5, ri s427)], [], [], 26⟩) (Y1 := fun y430 : Int => ((.exit 0), ⟨[(0, rl (.one (.int .i64)) a_), (1, rl (.one (.int .i64)) b_), (5, ri y430)], [], [], 26⟩)) (Y2 := fun y431 : Unit => (.ret, ⟨[(4, rb false)], [], [], 26⟩)) (fun s k => ref03_ints_l4_b a_ b_ s k) (fun z => rfl) (fun z => rfl) LL (0 : Int))
theorem ref03_ints_fzx3 {α : Type} (k : St → Option α) : P45 1 C45.r.r.r ⟨[], [], [], 26⟩ k = k ⟨[(4, rb true)], [], [], 26⟩ := by kernel_rfl
/-- quilt/quiltref03.ints -/
def ref03_ints_q {β : Type} (a_ : (List Int)) (b_ : (List Int)) (K : Bool → Option β) : Option β := (bif ((a_.length : Int) != (b_.length : Int)) then (K false) else (Option.bind (iterN (ref03_ints_l4_p a_ b_) LL (0 : Int)) (either (fun y430 : Int => (K true)) (fun y431 : Unit => (K false)))))
def ref03_ints (a_ : (List Int)) (b_ : (List Int)) : Option Bool := ref03_ints_q a_ b_ some
theorem ref03_ints_n {β : Type} (a_ : (List Int)) (b_ : (List Int)) (K : Bool → Option β) : ref03_ints_q a_ b_ K = (ref03_ints a_ b_).bind K := (bif_b some_b (bind_b (either_b (fun y430 => some_b) (fun y431 => some_b))))
theorem ref03_ints_is (a_ : (List Int)) (b_ : (List Int)) : stepS E cp45 noE 43 [rl (.one (.int .i64)) a_, rl (.one (.int .i64)) b_] = Option.bind (ref03_ints a_ b_) (fun y : Bool => some (rb y : R)) := by
  refine Eq.trans ?_ (ref03_ints_n a_ b_ (fun y : Bool => some (rb y : R)))
  refine (stepG_is (nt := 26) (regs := [(0, rl (.one (.int .i64)) a_), (1, rl (.one (.int .i64)) b_)]) (by kernel_rfl) (by kernel_rfl)).trans ?_
  unfold ref03_ints_q
  refine (pre (n := 1) (c' := C45.r) (by kernel_rfl) (by kernel_rfl) (ref03_ints_f1 a_ b_ _)).trans ?_
  refine (seq_push (by kernel_rfl)).trans ?_
  refine (pre (n := 1) (c' := C45.r.l.r) (by kernel_rfl) (by kernel_rfl) (ref03_ints_f1000002 a_ b_ _)).trans ?_
  refine (cond_eq (b := ((a_.length : Int) != (b_.length : Int))) (st' := ⟨[(0, rl (.one (.int .i64)) a_), (1, rl (.one (.int .i64)) b_)], [], [], 26⟩) (by kernel_rfl) (by kernel_rfl) (by kernel_rfl)).trans (bif_g ?_ ?_)
  · refine (pre (n := 1) (c' := C45.r.l.r.t.r) (by kernel_rfl) (by kernel_rfl) (ref03_ints_fz a_ b_ _)).trans ?_
    refine (ret_eq (by kernel_rfl)).trans ?_
    refine seqC_ret.trans ?_
    kernel_rfl
  · refine (skip_eq (by kernel_rfl)).trans ?_
    refine (seqC_normal (st' := ⟨[(0, rl (.one (.int .i64)) a_), (1, rl (.one (.int .i64)) b_)], [], [], 26⟩) (by kernel_rfl)).trans ?_
    refine (seq_push (by kernel_rfl)).trans ?_
    refine (pre (n := 1) (c' := C45.r.r.l.r) (by kernel_rfl) (by kernel_rfl) (ref03_ints_f4 a_ b_ _)).trans ?_
    refine (block_push (id := 0) (by kernel_rfl)).trans ?_
    refine (ref03_ints_l4 a_ b_ _).trans (bind_g (either_g (fun y430 => ?_) (fun y431 => ?_)))
    · refine block_same.trans ?_
      refine (seqC_normal (st' := ⟨[], [], [], 26⟩) (by kernel_rfl)).trans ?_
      refine (pre (n := 1) (c' := C45.r.r.r.r) (by kernel_rfl) (by kernel_rfl) (ref03_ints_fzx3 _)).trans ?_
      refine (ret_eq (by kernel_rfl)).trans ?_
      kernel_rfl
    · refine block_ret.trans ?_
      refine seqC_ret.trans ?_
      kernel_rfl
theorem ref03_ints_c (x : denL [(.one (.g (.sl (.one (.int .i64))))), (.one (.g (.sl (.one (.int .i64)))))]) : stepS E cp45 noE 43 (encL [(.one (.g (.sl (.one (.int .i64))))), (.one (.g (.sl (.one (.int .i64)))))] x) = ((fun x => ref03_ints x.1 x.2.1) x).bind fun y => some (Po.enc (.one (.one (.g .bool))) ((fun y : Bool => y) y)) := Eq.mp (by kernel_rfl) (ref03_ints_is x.1 x.2.1)
noncomputable def cp46 : CallP := withC cp45 43 [(.one (.g (.sl (.one (.int .i64))))), (.one (.g (.sl (.one (.int .i64)))))] (.one (.one (.g .bool))) (fun y : Bool => y) (fun x => ref03_ints x.1 x.2.1)
theorem cp46_ok : PureOK E cp46 := withC_ok cp45_ok (stepS_ok eok cp45_ok noE_ok) fun x => con_of (enc := fun y => Po.enc (.one (.one (.g .bool))) ((fun y : Bool => y) y)) (ref03_ints_c x)
noncomputable abbrev C46 : Code := codeOf E.P 44
noncomputable abbrev P46 {α : Type} (n : Nat) (c : Code) (st : St) (k : St → Option α) : Option α := preK E 44 cp46 noE n c st k
noncomputable abbrev R46 {α : Type} (c : Code) (st : St) (k : Kont α) : Option α := runCode E 44 cp46 noE c st k
noncomputable abbrev Q46 {α : Type} (c : Code) (k : Kont α) : Kont α := seqC E 44 cp46 noE c k
theorem ref03_SameNode_r1 {α : Type} (a_ : Node) (b_ : Node) (k : St → Option α) : P46 2 C46 ⟨[(0, .agg (tsNode.leaves a_)), (1, .agg (tsNode.leaves b_))], [], [], 132⟩ k = Option.bind (ref03_ints a_.2.1 b_.2.1) fun y436 : Bool => k ⟨[(2, .one (.cell (tsNode.leaves a_))), (3, .one (.cell (tsNode.leaves b_))), (5, rb y436)], [], [], 132⟩ := by kernel_rfl
def ref03_SameNode_r2_q {β : Type} (a_ : Node) (b_ : Node) (y436 : Bool) (K : Bool → β) : β := (bif (!y436) then (K true) else (bif (a_.1 != b_.1) then (K true) else (bif (a_.2.2.1 != b_.2.2.1) then (K true) else (bif (a_.2.2.2.1 != b_.2.2.2.1) then (K true) else (bif (a_.2.2.2.2.1 != b_.2.2.2.2.1) then (K true) else (bif (a_.2.2.2.2.2.1 != b_.2.2.2.2.2.1) then (K true) else (bif (a_.2.2.2.2.2.2.1 != b_.2.2.2.2.2.2.1) then (K true) else (bif (a_.2.2.2.2.2.2.2.1 != b_.2.2.2.2.2.2.2.1) then (K true) else (bif (a_.2.2.2.2.2.2.2.2.1 != b_.2.2.2.2.2.2.2.2.1) then (K true) else (bif (!((a_.2.2.2.2.2.2.2.2.2.1 == b_.2.2.2.2.2.2.2.2.2.1) && ((a_.2.2.2.2.2.2.2.2.2.2.1 == b_.2.2.2.2.2.2.2.2.2.2.1) && ((a_.2.2.2.2.2.2.2.2.2.2.2.1 == b_.2.2.2.2.2.2.2.2.2.2.2.1) && true)))) then (K true) else (bif ((a_.2.2.2.2.2.2.2.2.2.2.2.2.1.length : Int) != (b_.2.2.2.2.2.2.2.2.2.2.2.2.1.length : Int)) then (K true) else (K ((a_.2.2.2.2.2.2.2.2.2.2.2.2.2.length : Int) != (b_.2.2.2.2.2.2.2.2.2.2.2.2.2.length : Int))))))))))))))
def ref03_SameNode_r2_p (a_ : Node) (b_ : Node) (y436 : Bool) : Bool := ref03_SameNode_r2_q a_ b_ y436 (fun y => y)
theorem ref03_SameNode_r2_n {β : Type} (a_ : Node) (b_ : Node) (y436 : Bool) (K : Bool → β) : ref03_SameNode_r2_q a_ b_ y436 K = K (ref03_SameNode_r2_p a_ b_ y436) := (bif_k K rfl (bif_k K rfl (bif_k K rfl (bif_k K rfl (bif_k K rfl (bif_k K rfl (bif_k K rfl (bif_k K rfl (bif_k K rfl (bif_k K rfl (bif_k K rfl rfl)))))))))))
theorem ref03_SameNode_r2 {α : Type} (a_ : Node) (b_ : Node) (y436 : Bool) (k : St → Option α) : P46 1 C46.r.r.l ⟨[(2, .one (.cell (tsNode.leaves a_))), (3, .one (.cell (tsNode.leaves b_))), (5, rb y436)], [], [], 132⟩ k = k ⟨[(2, .one (.cell (tsNode.leaves a_))), (3, .one (.cell (tsNode.leaves b_))), (95, rb (ref03_SameNode_r2_p a_ b_ y436))], [], [], 132⟩ := Eq.trans (by kernel_rfl) (ref03_SameNode_r2_n a_ b_ y436 (fun y438 : Bool => k ⟨[(2, .one (.cell (tsNode.leaves a_))), (3, .one (.cell (tsNode.leaves b_))), (95, rb y438)], [], [], 132⟩))
theorem ref03_SameNode_fz {α : Type} (a_ : Node) (b_ : Node) (k : St → Option α) : P46 1 C46.r.r.l.r.t ⟨[(2, .one (.cell (tsNode.leaves a_))), (3, .one (.cell (tsNode.leaves b_)))], [], [], 132⟩ k = k ⟨[(4, rb false)], [], [], 132⟩ := by kernel_rfl
theorem ref03_SameNode_f5 {α : Type} (a_ : Node) (b_ : Node) (k : St → Option α) : P46 1 C46.r.r.r.l ⟨[(2, .one (.cell (tsNode.leaves a_))), (3, .one (.cell (tsNode.leaves b_)))], [], [], 132⟩ k = k ⟨[(2, .one (.cell (tsNode.leaves a_))), (3, .one (.cell (tsNode.leaves b_))), (6, ri (0 : Int))], [], [], 132⟩ := by kernel_rfl
theorem ref03_SameNode_fzx1 {α : Type} (a_ : Node) (b_ : Node) (s450 : Int) (k : St → Option α) : P46 1 (bodyOf (bodyOf C46.r.r.r.l.r)).l ⟨[(2, .one (.cell (tsNode.leaves a_))), (3, .one (.cell (tsNode.leaves b_))), (6, ri s450)], [], [], 132⟩ k = k ⟨[(2, .one (.cell (tsNode.leaves a_))), (3, .one (.cell (tsNode.leaves b_))), (6, ri s450), (100, rb (decide (s450 < (a_.2.2.2.2.2.2.2.2.2.2.2.2.1.length : Int))))], [], [], 132⟩ := by kernel_rfl
def ref03_SameNode_r7_q {β : Type} (a_ : Node) (b_ : Node) (s450 : Int) (K : Bool → Option β) : Option β := (bif (decide ((0 : Int) ≤ s450)) then (bif (decide (s450 < (a_.2.2.2.2.2.2.2.2.2.2.2.2.1.length : Int))) then (bif (decide ((0 : Int) ≤ s450)) then (bif (decide (s450 < (b_.2.2.2.2.2.2.2.2.2.2.2.2.1.length : Int))) then (K ((gt a_.2.2.2.2.2.2.2.2.2.2.2.2.1 s450 (0 : Int)) != (gt b_.2.2.2.2.2.2.2.2.2.2.2.2.1 s450 (0 : Int)))) else none) else none) else none) else none)
def ref03_SameNode_r7_p (a_ : Node) (b_ : Node) (s450 : Int) : Option (Bool) := ref03_SameNode_r7_q a_ b_ s450 some
theorem ref03_SameNode_r7_n {β : Type} (a_ : Node) (b_ : Node) (s450 : Int) (K : Bool → Option β) : ref03_SameNode_r7_q a_ b_ s450 K = (ref03_SameNode_r7_p a_ b_ s450).bind K := (bif_b (bif_b (bif_b (bif_b some_b none_b) none_b) none_b) none_b)
theorem ref03_SameNode_r7 {α : Type} (a_ : Node) (b_ : Node) (s450 : Int) (k : St → Option α) : P46 1 (bodyOf (bodyOf (bodyOf C46.r.r.r.l.r)).r.l) ⟨[(2, .one (.cell (tsNode.leaves a_))), (3, .one (.cell (tsNode.leaves b_))), (6, ri s450)], [], [], 132⟩ k = Option.bind (ref03_SameNode_r7_p a_ b_ s450) (fun y452 : Bool => k ⟨[(2, .one (.cell (tsNode.leaves a_))), (3, .one (.cell (tsNode.leaves b_))), (6, ri s450), (113, rb y452)], [], [], 132⟩) := Eq.trans (by kernel_rfl) (ref03_SameNode_r7_n a_ b_ s450 _)
theorem ref03_SameNode_fzx2 {α : Type} (a_ : Node) (b_ : Node) (s450 : Int) (k : St → Option α) : P46 1 (bodyOf (bodyOf (bodyOf C46.r.r.r.l.r)).r.l).r.t ⟨[(2, .one (.cell (tsNode.leaves a_))), (3, .one (.cell (tsNode.leaves b_))), (6, ri s450)], [], [], 132⟩ k = k ⟨[(4, rb false)], [], [], 132⟩ := by kernel_rfl
theorem ref03_SameNode_r6 {α : Type} (a_ : Node) (b_ : Node) (s450 : Int) (k : Kont α) : R46 (bodyOf (bodyOf C46.r.r.r.l.r)).r.r ⟨[(2, .one (.cell (tsNode.leaves a_))), (3, .one (.cell (tsNode.leaves b_))), (6, ri s450)], [], [], 132⟩ k = k .normal ⟨[(2, .one (.cell (tsNode.leaves a_))), (3, .one (.cell (tsNode.leaves b_))), (6, ri (IntKind.wrap .i64 (s450 + (1 : Int))))], [], [], 132⟩ := by kernel_rfl
def ref03_SameNode_l5_q {β : Type} (a_ : Node) (b_ : Node) (s450 : Int) (K0 : Int → Option β) (K1 : Int → Option β) (K2 : Unit → Option β) : Option β := (bif (decide (s450 < (a_.2.2.2.2.2.2.2.2.2.2.2.2.1.length : Int))) then (Option.bind (ref03_SameNode_r7_p a_ b_ s450) (fun y452 : Bool => (bif y452 then (K2 ()) else (K0 (IntKind.wrap .i64 (s450 + (1 : Int))))))) else (K1 s450))
def ref03_SameNode_l5_p (a_ : Node) (b_ : Node) (s450 : Int) : Option (Int ⊕ (Int ⊕ Unit)) := ref03_SameNode_l5_q a_ b_ s450 (fun y => some (Sum.inl y)) (fun y => some (Sum.inr (Sum.inl y))) (fun y => some (Sum.inr (Sum.inr y)))
theorem ref03_SameNode_l5_n {β : Type} (a_ : Node) (b_ : Node) (s450 : Int) (K0 : Int → Option β) (K1 : Int → Option β) (K2 : Unit → Option β) : ref03_SameNode_l5_q a_ b_ s450 K0 K1 K2 = (ref03_SameNode_l5_p a_ b_ s450).bind (either K0 (either K1 K2)) := (bif_b (bind_b fun y452 => (bif_b e3_2 e3_0)) e3_1)
theorem ref03_SameNode_l5_b {α : Type} (a_ : Node) (b_ : Node) (s450 : Int) (k : Kont α) : R46 (bodyOf (bodyOf C46.r.r.r.l.r)) ⟨[(2, .one (.cell (tsNode.leaves a_))), (3, .one (.cell (tsNode.leaves b_))), (6, ri s450)], [], [], 132⟩ (loopKont 0 k) = Option.bind (ref03_SameNode_l5_p a_ b_ s450) (either (fun y : Int => k .normal ⟨[(2, .one (.cell (tsNode.leaves a_))), (3, .one (.cell (tsNode.leaves b_))), (6, ri y)], [], [], 132⟩) (either (fun y453 : Int => k (.exit 0) ⟨[(2, .one (.cell (tsNode.leaves a_))), (3, .one (.cell (tsNode.leaves b_))), (6, ri y453)], [], [], 132⟩) (fun y454 : Unit => k .ret ⟨[(4, rb false)], [], [], 132⟩))) := by
  refine Eq.trans ?_ (ref03_SameNode_l5_n a_ b_ s450 _ _ _)
  unfold ref03_SameNode_l5_q
  refine (seq_push (by kernel_rfl)).trans ?_
  refine (pre (n := 1) (c' := (bodyOf (bodyOf C46.r.r.r.l.r)).l.r) (by kernel_rfl) (by kernel_rfl) (ref03_SameNode_fzx1 a_ b_ s450 _)).trans ?_
  refine (cond_eq (b := (decide (s450 < (a_.2.2.2.2.2.2.2.2.2.2.2.2.1.length : Int)))) (st' := ⟨[(2, .one (.cell (tsNode.leaves a_))), (3, .one (.cell (tsNode.leaves b_))), (6, ri s450)], [], [], 132⟩) (by kernel_rfl) (by kernel_rfl) (by kernel_rfl)).trans (bif_g ?_ ?_)
  · refine (skip_eq (by kernel_rfl)).trans ?_
    refine (seqC_normal (st' := ⟨[(2, .one (.cell (tsNode.leaves a_))), (3, .one (.cell (tsNode.leaves b_))), (6, ri s450)], [], [], 132⟩) (by kernel_rfl)).trans ?_
    refine (seq_push (by kernel_rfl)).trans ?_
    refine (block_push (id := 1) (by kernel_rfl)).trans ?_
    refine (pre (n := 1) (c' := (bodyOf (bodyOf (bodyOf C46.r.r.r.l.r)).r.l).r) (by kernel_rfl) (by kernel_rfl) (ref03_SameNode_r7 a_ b_ s450 _)).trans (bind_g fun y452 => ?_)
    refine (cond_eq (b := y452) (st' := ⟨[(2, .one (.cell (tsNode.leaves a_))), (3, .one (.cell (tsNode.leaves b_))), (6, ri s450)], [], [], 132⟩) (by kernel_rfl) (by kernel_rfl) (by kernel_rfl)).trans (bif_g ?_ ?_)
    · refine (pre (n := 1) (c' := (bodyOf (bodyOf (bodyOf C46.r.r.r.l.r)).r.l).r.t.r) (by kernel_rfl) (by kernel_rfl) (ref03_SameNode_fzx2 a_ b_ s450 _)).trans ?_
      refine (ret_eq (by kernel_rfl)).trans ?_
      refine block_ret.trans ?_
      refine seqC_ret.trans ?_
      kernel_rfl
    · refine (skip_eq (by kernel_rfl)).trans ?_
      refine block_normal.trans ?_
      refine (seqC_normal (st' := ⟨[(2, .one (.cell (tsNode.leaves a_))), (3, .one (.cell (tsNode.leaves b_))), (6, ri s450)], [], [], 132⟩) (by kernel_rfl)).trans ?_
      refine (ref03_SameNode_r6 a_ b_ s450 _).trans ?_
      kernel_rfl
  · refine (exit_eq (j := 0) (by kernel_rfl)).trans ?_
    refine seqC_exit.trans ?_
    kernel_rfl
theorem ref03_SameNode_l5 {α : Type} (a_ : Node) (b_ : Node) (k : Kont α) : R46 (bodyOf C46.r.r.r.l.r) ⟨[(2, .one (.cell (tsNode.leaves a_))), (3, .one (.cell (tsNode.leaves b_))), (6, ri (0 : Int))], [], [], 132⟩ k = Option.bind (iterN (ref03_SameNode_l5_p a_ b_) LL (0 : Int)) (either (fun y453 : Int => k (.exit 0) ⟨[(2, .one (.cell (tsNode.leaves a_))), (3, .one (.cell (tsNode.leaves b_))), (6, ri y453)], [], [], 132⟩) (fun y454 : Unit => k .ret ⟨[(4, rb false)], [], [], 132⟩)) :=
  Eq.trans (by kernel_rfl) (loop_iter2 (S := fun s450 : Int => ⟨[(2, .one (.cell (tsNode.leaves a_))), (3, .one (.cell (tsNode.leaves b_))), (6, ri s450)], [], [], 132⟩) (Y1 := fun y453 : Int => ((.exit 0), ⟨[(2, .one (.cell (tsNode.leaves a_))), (3, .one (.cell (tsNode.leaves b_))), (6, ri y453)], [], [], 132⟩)) (Y2 := fun y454 : Unit => (.ret, ⟨[(4, rb false)], [], [], 132⟩)) (fun s k => ref03_SameNode_l5_b a_ b_ s k) (fun z => rfl) (fun z => rfl) LL (0 : Int))
theorem ref03_SameNode_f10 {α : Type} (a_ : Node) (b_ : Node) (k : St → Option α) : P46 1 C46.r.r.r.r.l ⟨[(2, .one (.cell (tsNode.leaves a_))), (3, .one (.cell (tsNode.leaves b_)))], [], [], 132⟩ k = k ⟨[(2, .one (.cell (tsNode.leaves a_))), (3, .one (.cell (tsNode.leaves b_))), (7, ri (0 : Int))], [], [], 132⟩ := by kernel_rfl
theorem ref03_SameNode_fzx3 {α : Type} (a_ : Node) (b_ : Node) (s466 : Int) (k : St → Option α) : P46 1 (bodyOf (bodyOf C46.r.r.r.r.l.r)).l ⟨[(2, .one (.cell (tsNode.leaves a_))), (3, .one (.cell (tsNode.leaves b_))), (7, ri s466)], [], [], 132⟩ k = k ⟨[(2, .one (.cell (tsNode.leaves a_))), (3, .one (.cell (tsNode.leaves b_))), (7, ri s466), (118, rb (decide (s466 < (a_.2.2.2.2.2.2.2.2.2.2.2.2.2.length : Int))))], [], [], 132⟩ := by kernel_rfl
def ref03_SameNode_r12_q {β : Type} (a_ : Node) (b_ : Node) (s466 : Int) (K : Bool → Option β) : Option β := (bif (decide ((0 : Int) ≤ s466)) then (bif (decide (s466 < (a_.2.2.2.2.2.2.2.2.2.2.2.2.2.length : Int))) then (bif (decide ((0 : Int) ≤ s466)) then (bif (decide (s466 < (b_.2.2.2.2.2.2.2.2.2.2.2.2.2.length : Int))) then (K ((gt a_.2.2.2.2.2.2.2.2.2.2.2.2.2 s466 (0 : Int)) != (gt b_.2.2.2.2.2.2.2.2.2.2.2.2.2 s466 (0 : Int)))) else none) else none) else none) else none)
def ref03_SameNode_r12_p (a_ : Node) (b_ : Node) (s466 : Int) : Option (Bool) := ref03_SameNode_r12_q a_ b_ s466 some
theorem ref03_SameNode_r12_n {β : Type} (a_ : Node) (b_ : Node) (s466 : Int) (K : Bool → Option β) : ref03_SameNode_r12_q a_ b_ s466 K = (ref03_SameNode_r12_p a_ b_ s466).bind K := (bif_b (bif_b (bif_b (bif_b some_b none_b) none_b) none_b) none_b)
theorem ref03_SameNode_r12 {α : Type} (a_ : Node) (b_ : Node) (s466 : Int) (k : St → Option α) : P46 1 (bodyOf (bodyOf (bodyOf C46.r.r.r.r.l.r)).r.l) ⟨[(2, .one (.cell (tsNode.leaves a_))), (3, .one (.cell (tsNode.leaves b_))), (7, ri s466)], [], [], 132⟩ k = Option.bind (ref03_SameNode_r12_p a_ b_ s466) (fun y468 : Bool => k ⟨[(2, .one (.cell (tsNode.leaves a_))), (3, .one (.cell (tsNode.leaves b_))), (7, ri s466), (131, rb y468)], [], [], 132⟩) := Eq.trans (by kernel_rfl) (ref03_SameNode_r12_n a_ b_ s466 _)
theorem ref03_SameNode_fzx4 {α : Type} (a_ : Node) (b_ : Node) (s466 : Int) (k : St → Option α) : P46 1 (bodyOf (bodyOf (bodyOf C46.r.r.r.r.l.r)).r.l).r.t ⟨[(2, .one (.cell (tsNode.leaves a_))), (3, .one (.cell (tsNode.leaves b_))), (7, ri s466)], [], [], 132⟩ k = k ⟨[(4, rb false)], [], [], 132⟩ := by kernel_rfl
theorem ref03_SameNode_r11 {α : Type} (a_ : Node) (b_ : Node) (s466 : Int) (k : Kont α) : R46 (bodyOf (bodyOf C46.r.r.r.r.l.r)).r.r ⟨[(2, .one (.cell (tsNode.leaves a_))), (3, .one (.cell (tsNode.leaves b_))), (7, ri s466)], [], [], 132⟩ k = k .normal ⟨[(2, .one (.cell (tsNode.leaves a_))), (3, .one (.cell (tsNode.leaves b_))), (7, ri (IntKind.wrap .i64 (s466 + (1 : Int))))], [], [], 132⟩ := by kernel_rfl
def ref03_SameNode_l10_q {β : Type} (a_ : Node) (b_ : Node) (s466 : Int) (K0 : Int → Option β) (K1 : Int → Option β) (K2 : Unit → Option β) : Option β := (bif (decide (s466 < (a_.2.2.2.2.2.2.2.2.2.2.2.2.2.length : Int))) then (Option.bind (ref03_SameNode_r12_p a_ b_ s466) (fun y468 : Bool => (bif y468 then (K2 ()) else (K0 (IntKind.wrap .i64 (s466 + (1 : Int))))))) else (K1 s466))
def ref03_SameNode_l10_p (a_ : Node) (b_ : Node) (s466 : Int) : Option (Int ⊕ (Int ⊕ Unit)) := ref03_SameNode_l10_q a_ b_ s466 (fun y => some (Sum.inl y)) (fun y => some (Sum.inr (Sum.inl y))) (fun y => some (Sum.inr (Sum.inr y)))
theorem ref03_SameNode_l10_n {β : Type} (a_ : Node) (b_ : Node) (s466 : Int) (K0 : Int → Option β) (K1 : Int → Option β) (K2 : Unit → Option β) : ref03_SameNode_l10_q a_ b_ s466 K0 K1 K2 = (ref03_SameNode_l10_p a_ b_ s466).bind (either K0 (either K1 K2)) := (bif_b (bind_b fun y468 => (bif_b e3_2 e3_0)) e3_1)
theorem ref03_SameNode_l10_b {α : Type} (a_ : Node) (b_ : Node) (s466 : Int) (k : Kont α) : R46 (bodyOf (bodyOf C46.r.r.r.r.l.r)) ⟨[(2, .one (.cell (tsNode.leaves a_))), (3, .one (.cell (tsNode.leaves b_))), (7, ri s466)], [], [], 132⟩ (loopKont 0 k) = Option.bind (ref03_SameNode_l10_p a_ b_ s466) (either (fun y : Int => k .normal ⟨[(2, .one (.cell (tsNode.leaves a_))), (3, .one (.cell (tsNode.leaves b_))), (7, ri y)], [], [], 132⟩) (either (fun y469 : Int => k (.exit 2) ⟨[(2, .one (.cell (tsNode.leaves a_))), (3, .one (.cell (tsNode.leaves b_))), (7, ri y469)], [], [], 132⟩) (fun y470 : Unit => k .ret ⟨[(4, rb false)], [], [], 132⟩))) := by
  refine Eq.trans ?_ (ref03_SameNode_l10_n a_ b_ s466 _ _ _)
  unfold ref03_SameNode_l10_q
  refine (seq_push (by kernel_rfl)).trans ?_
  refine (pre (n := 1) (c' := (bodyOf (bodyOf C46.r.r.r.r.l.r)).l.r) (by kernel_rfl) (by kernel_rfl) (ref03_SameNode_fzx3 a_ b_ s466 _)).trans ?_
  refine (cond_eq (b := (decide (s466 < (a_.2.2.2.2.2.2.2.2.2.2.2.2.2.length : Int)))) (st' := ⟨[(2, .one (.cell (tsNode.leaves a_))), (3, .one (.cell (tsNode.leaves b_))), (7, ri s466)], [], [], 132⟩) (by kernel_rfl) (by kernel_rfl) (by kernel_rfl)).trans (bif_g ?_ ?_)
  · refine (skip_eq (by kernel_rfl)).trans ?_
    refine (seqC_normal (st' := ⟨[(2, .one (.cell (tsNode.leaves a_))), (3, .one (.cell (tsNode.leaves b_))), (7, ri s466)], [], [], 132⟩) (by kernel_rfl)).trans ?_
    refine (seq_push (by kernel_rfl)).trans ?_
    refine (block_push (id := 3) (by kernel_rfl)).trans ?_
    refine (pre (n := 1) (c' := (bodyOf (bodyOf (bodyOf C46.r.r.r.r.l.r)).r.l).r) (by kernel_rfl) (by kernel_rfl) (ref03_SameNode_r12 a_ b_ s466 _)).trans (bind_g fun y468 => ?_)
    refine (cond_eq (b := y468) (st' := ⟨[(2, .one (.cell (tsNode.leaves a_))), (3, .one (.cell (tsNode.leaves b_))), (7, ri s466)], [], [], 132⟩) (by kernel_rfl) (by kernel_rfl) (by kernel_rfl)).trans (bif_g ?_ ?_)
    · refine (pre (n := 1) (c' := (bodyOf (bodyOf (bodyOf C46.r.r.r.r.l.r)).r.l).r.t.r) (by kernel_rfl) (by kernel_rfl) (ref03_SameNode_fzx4 a_ b_ s466 _)).trans ?_
      refine (ret_eq (by kernel_rfl)).trans ?_
      refine block_ret.trans ?_
      refine seqC_ret.trans ?_
      kernel_rfl
    · refine (skip_eq (by kernel_rfl)).trans ?_
      refine block_normal.trans ?_
      refine (seqC_normal (st' := ⟨[(2, .one (.cell (tsNode.leaves a_))), (3, .one (.cell (tsNode.leaves b_))), (7, ri s466)], [], [], 132⟩) (by kernel_rfl)).trans ?_
      refine (ref03_SameNode_r11 a_ b_ s466 _).trans ?_
      kernel_rfl
  · refine (exit_eq (j := 2) (by kernel_rfl)).trans ?_
    refine seqC_exit.trans ?_
    kernel_rfl
theorem ref03_SameNode_l10 {α : Type} (a_ : Node) (b_ : Node) (k : Kont α) : R46 (bodyOf C46.r.r.r.r.l.r) ⟨[(2, .one (.cell (tsNode.leaves a_))), (3, .one (.cell (tsNode.leaves b_))), (7, ri (0 : Int))], [], [], 132⟩ k = Option.bind (iterN (ref03_SameNode_l10_p a_ b_) LL (0 : Int)) (either (fun y469 : Int => k (.exit 2) ⟨[(2, .one (.cell (tsNode.leaves a_))), (3, .one (.cell (tsNode.leaves b_))), (7, ri y469)], [], [], 132⟩) (fun y470 : Unit => k .ret ⟨[(4, rb false)], [], [], 132⟩)) :=
  Eq.trans (by kernel_rfl) (loop_iter2 (S := fun s466 : Int => ⟨[(2, .one (.cell (tsNode.leaves a_))), (3, .one (.cell (tsNode.leaves b_))), (7, ri s466)], [], [], 132⟩) (Y1 := fun y469 : Int => ((.exit 2), ⟨[(2, .one (.cell (tsNode.leaves a_))), (3, .one (.cell (tsNode.leaves b_))), (7, ri y469)], [], [], 132⟩)) (Y2 := fun y470 : Unit => (.ret, ⟨[(4, rb false)], [], [], 132⟩)) (fun s k => ref03_SameNode_l10_b a_ b_ s k) (fun z => rfl) (fun z => rfl) LL (0 : Int))
theorem ref03_SameNode_fzx5 {α : Type} (k : St → Option α) : P46 1 C46.r.r.r.r.r ⟨[], [], [], 132⟩ k = k ⟨[(4, rb true)], [], [], 132⟩ := by kernel_rfl
/-- quilt/quiltref03.SameNode -/
def ref03_SameNode_q {β : Type} (a_ : Node) (b_ : Node) (K : Bool → Option β) : Option β := (Option.bind (ref03_ints a_.2.1 b_.2.1) (fun y436 : Bool => (bif (ref03_SameNode_r2_p a_ b_ y436) then (K false) else (Option.bind (iterN (ref03_SameNode_l5_p a_ b_) LL (0 : Int)) (either (fun y453 : Int => (Option.bind (iterN (ref03_SameNode_l10_p a_ b_) LL (0 : Int)) (either (fun y469 : Int => (K true)) (fun y470 : Unit => (K false))))) (fun y454 : Unit => (K false)))))))
def ref03_SameNode (a_ : Node) (b_ : Node) : Option Bool := ref03_SameNode_q a_ b_ some
theorem ref03_SameNode_n {β : Type} (a_ : Node) (b_ : Node) (K : Bool → Option β) : ref03_SameNode_q a_ b_ K = (ref03_SameNode a_ b_).bind K := (bind_b fun y436 => (bif_b some_b (bind_b (either_b (fun y453 => (bind_b (either_b (fun y469 => some_b) (fun y470 => some_b)))) (fun y454 => some_b)))))
theorem ref03_SameNode_is (a_ : Node) (b_ : Node) : stepS E cp46 noE 44 [.agg (tsNode.leaves a_), .agg (tsNode.leaves b_)] = Option.bind (ref03_SameNode a_ b_) (fun y : Bool => some (rb y : R)) := by
  refine Eq.trans ?_ (ref03_SameNode_n a_ b_ (fun y : Bool => some (rb y : R)))
  refine (stepG_is (nt := 132) (regs := [(0, .agg (tsNode.leaves a_)), (1, .agg (tsNode.leaves b_))]) (by kernel_rfl) (by kernel_rfl)).trans ?_
  unfold ref03_SameNode_q
  refine (pre (n := 2) (c' := C46.r.r) (by kernel_rfl) (by kernel_rfl) (ref03_SameNode_r1 a_ b_ _)).trans (bind_g fun y436 => ?_)
  refine (seq_push (by kernel_rfl)).trans ?_
  refine (pre (n := 1) (c' := C46.r.r.l.r) (by kernel_rfl) (by kernel_rfl) (ref03_SameNode_r2 a_ b_ y436 _)).trans ?_
  refine (cond_eq (b := (ref03_SameNode_r2_p a_ b_ y436)) (st' := ⟨[(2, .one (.cell (tsNode.leaves a_))), (3, .one (.cell (tsNode.leaves b_)))], [], [], 132⟩) (by kernel_rfl) (by kernel_rfl) (by kernel_rfl)).trans (bif_g ?_ ?_)
  · refine (pre (n := 1) (c' := C46.r.r.l.r.t.r) (by kernel_rfl) (by kernel_rfl) (ref03_SameNode_fz a_ b_ _)).trans ?_
    refine (ret_eq (by kernel_rfl)).trans ?_
    refine seqC_ret.trans ?_
    kernel_rfl
  · refine (skip_eq (by kernel_rfl)).trans ?_
    refine (seqC_normal (st' := ⟨[(2, .one (.cell (tsNode.leaves a_))), (3, .one (.cell (tsNode.leaves b_)))], [], [], 132⟩) (by kernel_rfl)).trans ?_
    refine (seq_push (by kernel_rfl)).trans ?_
    refine (pre (n := 1) (c' := C46.r.r.r.l.r) (by kernel_rfl) (by kernel_rfl) (ref03_SameNode_f5 a_ b_ _)).trans ?_
    refine (block_push (id := 0) (by kernel_rfl)).trans ?_
    refine (ref03_SameNode_l5 a_ b_ _).trans (bind_g (either_g (fun y453 => ?_) (fun y454 => ?_)))
    · refine block_same.trans ?_
      refine (seqC_normal (st' := ⟨[(2, .one (.cell (tsNode.leaves a_))), (3, .one (.cell (tsNode.leaves b_)))], [], [], 132⟩) (by kernel_rfl)).trans ?_
      refine (seq_push (by kernel_rfl)).trans ?_
      refine (pre (n := 1) (c' := C46.r.r.r.r.l.r) (by kernel_rfl) (by kernel_rfl) (ref03_SameNode_f10 a_ b_ _)).trans ?_
      refine (block_push (id := 2) (by kernel_rfl)).trans ?_
      refine (ref03_SameNode_l10 a_ b_ _).trans (bind_g (either_g (fun y469 => ?_) (fun y470 => ?_)))
      · refine block_same.trans ?_
        refine (seqC_normal (st' := ⟨[], [], [], 132⟩) (by kernel_rfl)).trans ?_
        refine (pre (n := 1) (c' := C46.r.r.r.r.r.r) (by kernel_rfl) (by kernel_rfl) (ref03_SameNode_fzx5 _)).trans ?_
        refine (ret_eq (by kernel_rfl)).trans ?_
        kernel_rfl
      · refine block_ret.trans ?_
        refine seqC_ret.trans ?_
        kernel_rfl
    · refine block_ret.trans ?_
      refine seqC_ret.trans ?_
      kernel_rfl
theorem ref03_SameNode_c (x : denL [(.agg tsNode), (.agg tsNode)]) : stepS E cp46 noE 44 (encL [(.agg tsNode), (.agg tsNode)] x) = ((fun x => ref03_SameNode x.1 x.2.1) x).bind fun y => some (Po.enc (.one (.one (.g .bool))) ((fun y : Bool => y) y)) := Eq.mp (by kernel_rfl) (ref03_SameNode_is x.1 x.2.1)
noncomputable def cp47 : CallP := withC cp46 44 [(.agg tsNode), (.agg tsNode)] (.one (.one (.g .bool))) (fun y : Bool => y) (fun x => ref03_SameNode x.1 x.2.1)
theorem cp47_ok : PureOK E cp47 := withC_ok cp46_ok (stepS_ok eok cp46_ok noE_ok) fun x => con_of (enc := fun y => Po.enc (.one (.one (.g .bool))) ((fun y : Bool => y) y)) (ref03_SameNode_c x)
noncomputable abbrev C47 : Code := codeOf E.P 18
noncomputable abbrev P47 {α : Type} (n : Nat) (c : Code) (st : St) (k : St → Option α) : Option α := preK E 18 cp47 noE n c st k
noncomputable abbrev R47 {α : Type} (c : Code) (st : St) (k : Kont α) : Option α := runCode E 18 cp47 noE c st k
noncomputable abbrev Q47 {α : Type} (c : Code) (k : Kont α) : Kont α := seqC E 18 cp47 noE c k
theorem ref03_Same_r1 {α : Type} (a_ : Graph) (b_ : Graph) (k : St → Option α) : P47 2 C47 ⟨[(0, .agg (tsGraph.leaves a_)), (1, .agg (tsGraph.leaves b_))], [], [], 54⟩ k = Option.bind (ref03_SameValues a_.1 b_.1) fun y415 : Bool => k ⟨[(2, .one (.cell (tsGraph.leaves a_))), (3, .one (.cell (tsGraph.leaves b_))), (5, rb y415)], [], [], 54⟩ := by kernel_rfl
theorem ref03_Same_r2 {α : Type} (a_ : Graph) (b_ : Graph) (y415 : Bool) (k : St → Option α) : P47 1 C47.r.r ⟨[(2, .one (.cell (tsGraph.leaves a_))), (3, .one (.cell (tsGraph.leaves b_))), (5, rb y415)], [], [], 54⟩ k = Option.bind (ref03_ints a_.2.2 b_.2.2) fun y432 : Bool => k ⟨[(2, .one (.cell (tsGraph.leaves a_))), (3, .one (.cell (tsGraph.leaves b_))), (5, rb y415), (6, rb y432)], [], [], 54⟩ := by kernel_rfl
def ref03_Same_r3_q {β : Type} (a_ : Graph) (b_ : Graph) (y415 : Bool) (y432 : Bool) (K : Bool → β) : β := (bif (!y415) then (K true) else (bif (!y432) then (K true) else (K ((a_.2.1.length : Int) != (b_.2.1.length : Int)))))
def ref03_Same_r3_p (a_ : Graph) (b_ : Graph) (y415 : Bool) (y432 : Bool) : Bool := ref03_Same_r3_q a_ b_ y415 y432 (fun y => y)
theorem ref03_Same_r3_n {β : Type} (a_ : Graph) (b_ : Graph) (y415 : Bool) (y432 : Bool) (K : Bool → β) : ref03_Same_r3_q a_ b_ y415 y432 K = K (ref03_Same_r3_p a_ b_ y415 y432) := (bif_k K rfl (bif_k K rfl rfl))
theorem ref03_Same_r3 {α : Type} (a_ : Graph) (b_ : Graph) (y415 : Bool) (y432 : Bool) (k : St → Option α) : P47 1 C47.r.r.r.l ⟨[(2, .one (.cell (tsGraph.leaves a_))), (3, .one (.cell (tsGraph.leaves b_))), (5, rb y415), (6, rb y432)], [], [], 54⟩ k = k ⟨[(2, .one (.cell (tsGraph.leaves a_))), (3, .one (.cell (tsGraph.leaves b_))), (33, rb (ref03_Same_r3_p a_ b_ y415 y432))], [], [], 54⟩ := Eq.trans (by kernel_rfl) (ref03_Same_r3_n a_ b_ y415 y432 (fun y434 : Bool => k ⟨[(2, .one (.cell (tsGraph.leaves a_))), (3, .one (.cell (tsGraph.leaves b_))), (33, rb y434)], [], [], 54⟩))
theorem ref03_Same_fz {α : Type} (a_ : Graph) (b_ : Graph) (k : St → Option α) : P47 1 C47.r.r.r.l.r.t ⟨[(2, .one (.cell (tsGraph.leaves a_))), (3, .one (.cell (tsGraph.leaves b_)))], [], [], 54⟩ k = k ⟨[(4, rb false)], [], [], 54⟩ := by kernel_rfl
theorem ref03_Same_f6 {α : Type} (a_ : Graph) (b_ : Graph) (k : St → Option α) : P47 1 C47.r.r.r.r.l ⟨[(2, .one (.cell (tsGraph.leaves a_))), (3, .one (.cell (tsGraph.leaves b_)))], [], [], 54⟩ k = k ⟨[(2, .one (.cell (tsGraph.leaves a_))), (3, .one (.cell (tsGraph.leaves b_))), (7, ri (0 : Int))], [], [], 54⟩ := by kernel_rfl
theorem ref03_Same_fzx1 {α : Type} (a_ : Graph) (b_ : Graph) (s487 : Int) (k : St → Option α) : P47 1 (bodyOf (bodyOf C47.r.r.r.r.l.r)).l ⟨[(2, .one (.cell (tsGraph.leaves a_))), (3, .one (.cell (tsGraph.leaves b_))), (7, ri s487)], [], [], 54⟩ k = k ⟨[(2, .one (.cell (tsGraph.leaves a_))), (3, .one (.cell (tsGraph.leaves b_))), (7, ri s487), (38, rb (decide (s487 < (a_.2.1.length : Int))))], [], [], 54⟩ := by kernel_rfl
def ref03_Same_r8_q {β : Type} (a_ : Graph) (b_ : Graph) (s487 : Int) (K : Bool → Option β) : Option β := (bif (decide ((0 : Int) ≤ s487)) then (bif (decide (s487 < (a_.2.1.length : Int))) then (bif (decide ((0 : Int) ≤ s487)) then (bif (decide (s487 < (b_.2.1.length : Int))) then (Option.bind (ref03_SameNode (gt a_.2.1 s487 dNode) (gt b_.2.1 s487 dNode)) (fun y490 : Bool => (K y490))) else none) else none) else none) else none)
def ref03_Same_r8_p (a_ : Graph) (b_ : Graph) (s487 : Int) : Option (Bool) := ref03_Same_r8_q a_ b_ s487 some
theorem ref03_Same_r8_n {β : Type} (a_ : Graph) (b_ : Graph) (s487 : Int) (K : Bool → Option β) : ref03_Same_r8_q a_ b_ s487 K = (ref03_Same_r8_p a_ b_ s487).bind K := (bif_b (bif_b (bif_b (bif_b (bind_b fun y490 => some_b) none_b) none_b) none_b) none_b)
theorem ref03_Same_r8 {α : Type} (a_ : Graph) (b_ : Graph) (s487 : Int) (k : St → Option α) : P47 1 (bodyOf (bodyOf (bodyOf C47.r.r.r.r.l.r)).r.l) ⟨[(2, .one (.cell (tsGraph.leaves a_))), (3, .one (.cell (tsGraph.leaves b_))), (7, ri s487)], [], [], 54⟩ k = Option.bind (ref03_Same_r8_p a_ b_ s487) (fun y491 : Bool => k ⟨[(2, .one (.cell (tsGraph.leaves a_))), (3, .one (.cell (tsGraph.leaves b_))), (7, ri s487), (8, rb y491)], [], [], 54⟩) := Eq.trans (by kernel_rfl) (ref03_Same_r8_n a_ b_ s487 _)
theorem ref03_Same_f1000010 {α : Type} (a_ : Graph) (b_ : Graph) (s487 : Int) (y491 : Bool) (k : St → Option α) : P47 1 (bodyOf (bodyOf (bodyOf C47.r.r.r.r.l.r)).r.l).r ⟨[(2, .one (.cell (tsGraph.leaves a_))), (3, .one (.cell (tsGraph.leaves b_))), (7, ri s487), (8, rb y491)], [], [], 54⟩ k = k ⟨[(2, .one (.cell (tsGraph.leaves a_))), (3, .one (.cell (tsGraph.leaves b_))), (7, ri s487), (53, rb (!y491))], [], [], 54⟩ := by kernel_rfl
theorem ref03_Same_fzx2 {α : Type} (a_ : Graph) (b_ : Graph) (s487 : Int) (k : St → Option α) : P47 1 (bodyOf (bodyOf (bodyOf C47.r.r.r.r.l.r)).r.l).r.r.t ⟨[(2, .one (.cell (tsGraph.leaves a_))), (3, .one (.cell (tsGraph.leaves b_))), (7, ri s487)], [], [], 54⟩ k = k ⟨[(4, rb false)], [], [], 54⟩ := by kernel_rfl
theorem ref03_Same_r7 {α : Type} (a_ : Graph) (b_ : Graph) (s487 : Int) (k : Kont α) : R47 (bodyOf (bodyOf C47.r.r.r.r.l.r)).r.r ⟨[(2, .one (.cell (tsGraph.leaves a_))), (3, .one (.cell (tsGraph.leaves b_))), (7, ri s487)], [], [], 54⟩ k = k .normal ⟨[(2, .one (.cell (tsGraph.leaves a_))), (3, .one (.cell (tsGraph.leaves b_))), (7, ri (IntKind.wrap .i64 (s487 + (1 : Int))))], [], [], 54⟩ := by kernel_rfl
def ref03_Same_l6_q {β : Type} (a_ : Graph) (b_ : Graph) (s487 : Int) (K0 : Int → Option β) (K1 : Int → Option β) (K2 : Unit → Option β) : Option β := (bif (decide (s487 < (a_.2.1.length : Int))) then (Option.bind (ref03_Same_r8_p a_ b_ s487) (fun y491 : Bool => (bif (!y491) then (K2 ()) else (K0 (IntKind.wrap .i64 (s487 + (1 : Int))))))) else (K1 s487))
def ref03_Same_l6_p (a_ : Graph) (b_ : Graph) (s487 : Int) : Option (Int ⊕ (Int ⊕ Unit)) := ref03_Same_l6_q a_ b_ s487 (fun y => some (Sum.inl y)) (fun y => some (Sum.inr (Sum.inl y))) (fun y => some (Sum.inr (Sum.inr y)))
theorem ref03_Same_l6_n {β : Type} (a_ : Graph) (b_ : Graph) (s487 : Int) (K0 : Int → Option β) (K1 : Int → Option β) (K2 : Unit → Option β) : ref03_Same_l6_q a_ b_ s487 K0 K1 K2 = (ref03_Same_l6_p a_ b_ s487).bind (either K0 (either K1 K2)) := (bif_b (bind_b fun y491 => (bif_b e3_2 e3_0)) e3_1)
theorem ref03_Same_l6_b {α : Type} (a_ : Graph) (b_ : Graph) (s487 : Int) (k : Kont α) : R47 (bodyOf (bodyOf C47.r.r.r.r.l.r)) ⟨[(2, .one (.cell (tsGraph.leaves a_))), (3, .one (.cell (tsGraph.leaves b_))), (7, ri s487)], [], [], 54⟩ (loopKont 0 k) = Option.bind (ref03_Same_l6_p a_ b_ s487) (either (fun y : Int => k .normal ⟨[(2, .one (.cell (tsGraph.leaves a_))), (3, .one (.cell (tsGraph.leaves b_))), (7, ri y)], [], [], 54⟩) (either (fun y492 : Int => k (.exit 0) ⟨[(2, .one (.cell (tsGraph.leaves a_))), (3, .one (.cell (tsGraph.leaves b_))), (7, ri y492)], [], [], 54⟩) (fun y493 : Unit => k .ret ⟨[(4, rb false)], [], [], 54⟩))) := by
  refine Eq.trans ?_ (ref03_Same_l6_n a_ b_ s487 _ _ _)
  unfold ref03_Same_l6_q
  refine (seq_push (by kernel_rfl)).trans ?_
  refine (pre (n := 1) (c' := (bodyOf (bodyOf C47.r.r.r.r.l.r)).l.r) (by kernel_rfl) (by kernel_rfl) (ref03_Same_fzx1 a_ b_ s487 _)).trans ?_
  refine (cond_eq (b := (decide (s487 < (a_.2.1.length : Int)))) (st' := ⟨[(2, .one (.cell (tsGraph.leaves a_))), (3, .one (.cell (tsGraph.leaves b_))), (7, ri s487)], [], [], 54⟩) (by kernel_rfl) (by kernel_rfl) (by kernel_rfl)).trans (bif_g ?_ ?_)
  · refine (skip_eq (by kernel_rfl)).trans ?_
    refine (seqC_normal (st' := ⟨[(2, .one (.cell (tsGraph.leaves a_))), (3, .one (.cell (tsGraph.leaves b_))), (7, ri s487)], [], [], 54⟩) (by kernel_rfl)).trans ?_
    refine (seq_push (by kernel_rfl)).trans ?_
    refine (block_push (id := 1) (by kernel_rfl)).trans ?_
    refine (pre (n := 1) (c' := (bodyOf (bodyOf (bodyOf C47.r.r.r.r.l.r)).r.l).r) (by kernel_rfl) (by kernel_rfl) (ref03_Same_r8 a_ b_ s487 _)).trans (bind_g fun y491 => ?_)
    refine (pre (n := 1) (c' := (bodyOf (bodyOf (bodyOf C47.r.r.r.r.l.r)).r.l).r.r) (by kernel_rfl) (by kernel_rfl) (ref03_Same_f1000010 a_ b_ s487 y491 _)).trans ?_
    refine (cond_eq (b := (!y491)) (st' := ⟨[(2, .one (.cell (tsGraph.leaves a_))), (3, .one (.cell (tsGraph.leaves b_))), (7, ri s487)], [], [], 54⟩) (by kernel_rfl) (by kernel_rfl) (by kernel_rfl)).trans (bif_g ?_ ?_)
    · refine (pre (n := 1) (c' := (bodyOf (bodyOf (bodyOf C47.r.r.r.r.l.r)).r.l).r.r.t.r) (by kernel_rfl) (by kernel_rfl) (ref03_Same_fzx2 a_ b_ s487 _)).trans ?_
      refine (ret_eq (by kernel_rfl)).trans ?_
      refine block_ret.trans ?_
      refine seqC_ret.trans ?_
      kernel_rfl
    · refine (skip_eq (by kernel_rfl)).trans ?_
      refine block_normal.trans ?_
      refine (seqC_normal (st' := ⟨[(2, .one (.cell (tsGraph.leaves a_))), (3, .one (.cell (tsGraph.leaves b_))), (7, ri s487)], [], [], 54⟩) (by kernel_rfl)).trans ?_
      refine (ref03_Same_r7 a_ b_ s487 _).trans ?_
      kernel_rfl
  · refine (exit_eq (j := 0) (by kernel_rfl)).trans ?_
    refine seqC_exit.trans ?_
    kernel_rfl
theorem ref03_Same_l6 {α : Type} (a_ : Graph) (b_ : Graph) (k : Kont α) : R47 (bodyOf C47.r.r.r.r.l.r) ⟨[(2, .one (.cell (tsGraph.leaves a_))), (3, .one (.cell (tsGraph.leaves b_))), (7, ri (0 : Int))], [], [], 54⟩ k = Option.bind (iterN (ref03_Same_l6_p a_ b_) LL (0 : Int)) (either (fun y492 : Int => k (.exit 0) ⟨[(2, .one (.cell (tsGraph.leaves a_))), (3, .one (.cell (tsGraph.leaves b_))), (7, ri y492)], [], [], 54⟩) (fun y493 : Unit => k .ret ⟨[(4, rb false)], [], [], 54⟩)) :=
  Eq.trans (by kernel_rfl) (loop_iter2 (S := fun s487 : Int => ⟨[(2, .one (.cell (tsGraph.leaves a_))), (3, .one (.cell (tsGraph.leaves b_))), (7, ri s487)], [], [], 54⟩) (Y1 := fun y492 : Int => ((.exit 0), ⟨[(2, .one (.cell (tsGraph.leaves a_))), (3, .one (.cell (tsGraph.leaves b_))), (7, ri y492)], [], [], 54⟩)) (Y2 := fun y493 : Unit => (.ret, ⟨[(4, rb false)], [], [], 54⟩)) (fun s k => ref03_Same_l6_b a_ b_ s k) (fun z => rfl) (fun z => rfl) LL (0 : Int))
theorem ref03_Same_fzx3 {α : Type} (k : St → Option α) : P47 1 C47.r.r.r.r.r ⟨[], [], [], 54⟩ k = k ⟨[(4, rb true)], [], [], 54⟩ := by kernel_rfl
/-- quilt/quiltref03.Same -/
def ref03_Same_q {β : Type} (a_ : Graph) (b_ : Graph) (K : Bool → Option β) : Option β := (Option.bind (ref03_SameValues a_.1 b_.1) (fun y415 : Bool => (Option.bind (ref03_ints a_.2.2 b_.2.2) (fun y432 : Bool => (bif (ref03_Same_r3_p a_ b_ y415 y432) then (K false) else (Option.bind (iterN (ref03_Same_l6_p a_ b_) LL (0 : Int)) (either (fun y492 : Int => (K true)) (fun y493 : Unit => (K false)))))))))
def ref03_Same (a_ : Graph) (b_ : Graph) : Option Bool := ref03_Same_q a_ b_ some
theorem ref03_Same_n {β : Type} (a_ : Graph) (b_ : Graph) (K : Bool → Option β) : ref03_Same_q a_ b_ K = (ref03_Same a_ b_).bind K := (bind_b fun y415 => (bind_b fun y432 => (bif_b some_b (bind_b (either_b (fun y492 => some_b) (fun y493 => some_b))))))
theorem ref03_Same_is (a_ : Graph) (b_ : Graph) : stepS E cp47 noE 18 [.agg (tsGraph.leaves a_), .agg (tsGraph.leaves b_)] = Option.bind (ref03_Same a_ b_) (fun y : Bool => some (rb y : R)) := by
  refine Eq.trans ?_ (ref03_Same_n a_ b_ (fun y : Bool => some (rb y : R)))
  refine (stepG_is (nt := 54) (regs := [(0, .agg (tsGraph.leaves a_)), (1, .agg (tsGraph.leaves b_))]) (by kernel_rfl) (by kernel_rfl)).trans ?_
  unfold ref03_Same_q
  refine (pre (n := 2) (c' := C47.r.r) (by kernel_rfl) (by kernel_rfl) (ref03_Same_r1 a_ b_ _)).trans (bind_g fun y415 => ?_)
  refine (pre (n := 1) (c' := C47.r.r.r) (by kernel_rfl) (by kernel_rfl) (ref03_Same_r2 a_ b_ y415 _)).trans (bind_g fun y432 => ?_)
  refine (seq_push (by kernel_rfl)).trans ?_
  refine (pre (n := 1) (c' := C47.r.r.r.l.r) (by kernel_rfl) (by kernel_rfl) (ref03_Same_r3 a_ b_ y415 y432 _)).trans ?_
  refine (cond_eq (b := (ref03_Same_r3_p a_ b_ y415 y432)) (st' := ⟨[(2, .one (.cell (tsGraph.leaves a_))), (3, .one (.cell (tsGraph.leaves b_)))], [], [], 54⟩) (by kernel_rfl) (by kernel_rfl) (by kernel_rfl)).trans (bif_g ?_ ?_)
  · refine (pre (n := 1) (c' := C47.r.r.r.l.r.t.r) (by kernel_rfl) (by kernel_rfl) (ref03_Same_fz a_ b_ _)).trans ?_
    refine (ret_eq (by kernel_rfl)).trans ?_
    refine seqC_ret.trans ?_
    kernel_rfl
  · refine (skip_eq (by kernel_rfl)).trans ?_
    refine (seqC_normal (st' := ⟨[(2, .one (.cell (tsGraph.leaves a_))), (3, .one (.cell (tsGraph.leaves b_)))], [], [], 54⟩) (by kernel_rfl)).trans ?_
    refine (seq_push (by kernel_rfl)).trans ?_
    refine (pre (n := 1) (c' := C47.r.r.r.r.l.r) (by kernel_rfl) (by kernel_rfl) (ref03_Same_f6 a_ b_ _)).trans ?_
    refine (block_push (id := 0) (by kernel_rfl)).trans ?_
    refine (ref03_Same_l6 a_ b_ _).trans (bind_g (either_g (fun y492 => ?_) (fun y493 => ?_)))
    · refine block_same.trans ?_
      refine (seqC_normal (st' := ⟨[], [], [], 54⟩) (by kernel_rfl)).trans ?_
      refine (pre (n := 1) (c' := C47.r.r.r.r.r.r) (by kernel_rfl) (by kernel_rfl) (ref03_Same_fzx3 _)).trans ?_
      refine (ret_eq (by kernel_rfl)).trans ?_
      kernel_rfl
    · refine block_ret.trans ?_
      refine seqC_ret.trans ?_
      kernel_rfl
theorem ref03_Same_c (x : denL [(.agg tsGraph), (.agg tsGraph)]) : stepS E cp47 noE 18 (encL [(.agg tsGraph), (.agg tsGraph)] x) = ((fun x => ref03_Same x.1 x.2.1) x).bind fun y => some (Po.enc (.one (.one (.g .bool))) ((fun y : Bool => y) y)) := Eq.mp (by kernel_rfl) (ref03_Same_is x.1 x.2.1)
noncomputable def cp48 : CallP := withC cp47 18 [(.agg tsGraph), (.agg tsGraph)] (.one (.one (.g .bool))) (fun y : Bool => y) (fun x => ref03_Same x.1 x.2.1)
theorem cp48_ok : PureOK E cp48 := withC_ok cp47_ok (stepS_ok eok cp47_ok noE_ok) fun x => con_of (enc := fun y => Po.enc (.one (.one (.g .bool))) ((fun y : Bool => y) y)) (ref03_Same_c x)
noncomputable abbrev C48 : Code := codeOf E.P 6
noncomputable abbrev P48 {α : Type} (n : Nat) (c : Code) (st : St) (k : St → Option α) : Option α := preK E 6 cp48 noE n c st k
noncomputable abbrev R48 {α : Type} (c : Code) (st : St) (k : Kont α) : Option α := runCode E 6 cp48 noE c st k
noncomputable abbrev Q48 {α : Type} (c : Code) (k : Kont α) : Kont α := seqC E 6 cp48 noE c k
theorem law03_GraphSame_r1 {α : Type} (a_ : Graph) (b_ : Graph) (k : St → Option α) : P48 2 C48 ⟨[(0, .agg (tsGraph.leaves a_)), (1, .agg (tsGraph.leaves b_))], [], [], 35⟩ k = Option.bind law03_shown fun y249 : Bool => k ⟨[(2, .one (.ref 0 0)), (3, .one (.ref 1 0)), (5, rb y249)], [(tsGraph.leaves a_), (tsGraph.leaves b_)], [], 35⟩ := by kernel_rfl
theorem law03_GraphSame_r2 {α : Type} (a_ : Graph) (b_ : Graph) (y249 : Bool) (k : St → Option α) : P48 1 C48.r.r ⟨[(2, .one (.ref 0 0)), (3, .one (.ref 1 0)), (5, rb y249)], [(tsGraph.leaves a_), (tsGraph.leaves b_)], [], 35⟩ k = Option.bind (law03_less a_) fun y290 : Graph => k ⟨[(2, .one (.ref 0 0)), (3, .one (.ref 1 0)), (5, rb y249)], [(tsGraph.leaves y290), (tsGraph.leaves b_)], [], 35⟩ := by kernel_rfl
theorem law03_GraphSame_r3 {α : Type} (b_ : Graph) (y249 : Bool) (y290 : Graph) (k : St → Option α) : P48 1 C48.r.r.r ⟨[(2, .one (.ref 0 0)), (3, .one (.ref 1 0)), (5, rb y249)], [(tsGraph.leaves y290), (tsGraph.leaves b_)], [], 35⟩ k = Option.bind (law03_less b_) fun y291 : Graph => k ⟨[(2, .one (.ref 0 0)), (3, .one (.ref 1 0)), (5, rb y249)], [(tsGraph.leaves y290), (tsGraph.leaves y291)], [], 35⟩ := by kernel_rfl
def law03_GraphSame_r4_q {β : Type} (y249 : Bool) (y290 : Graph) (y291 : Graph) (K : Bool → Option β) : Option β := (bif y249 then (Option.bind (graph_Same y290 y291) (fun y398 : Bool => (Option.bind (ref03_Same y290 y291) (fun y494 : Bool => (bif (y398 == y494) then (Option.bind (graph_Same y290 y290) (fun y495 : Bool => (bif y495 then (Option.bind (graph_Same y290 y291) (fun y496 : Bool => (Option.bind (graph_Same y291 y290) (fun y497 : Bool => (K (y496 == y497)))))) else (K false)))) else (K false)))))) else (K false))
def law03_GraphSame_r4_p (y249 : Bool) (y290 : Graph) (y291 : Graph) : Option (Bool) := law03_GraphSame_r4_q y249 y290 y291 some
theorem law03_GraphSame_r4_n {β : Type} (y249 : Bool) (y290 : Graph) (y291 : Graph) (K : Bool → Option β) : law03_GraphSame_r4_q y249 y290 y291 K = (law03_GraphSame_r4_p y249 y290 y291).bind K := (bif_b (bind_b fun y398 => (bind_b fun y494 => (bif_b (bind_b fun y495 => (bif_b (bind_b fun y496 => (bind_b fun y497 => some_b)) some_b)) some_b))) some_b)
theorem law03_GraphSame_r4 {α : Type} (y249 : Bool) (y290 : Graph) (y291 : Graph) (k : St → Option α) : P48 1 C48.r.r.r.r ⟨[(2, .one (.ref 0 0)), (3, .one (.ref 1 0)), (5, rb y249)], [(tsGraph.leaves y290), (tsGraph.leaves y291)], [], 35⟩ k = Option.bind (law03_GraphSame_r4_p y249 y290 y291) (fun y498 : Bool => k ⟨[(4, rb y498)], [[], []], [], 35⟩) := Eq.trans (by kernel_rfl) (law03_GraphSame_r4_n y249 y290 y291 _)
/-- quilt/quiltlaw03.GraphSame -/
def law03_GraphSame_q {β : Type} (a_ : Graph) (b_ : Graph) (K : Bool → Option β) : Option β := (Option.bind law03_shown (fun y249 : Bool => (Option.bind (law03_less a_) (fun y290 : Graph => (Option.bind (law03_less b_) (fun y291 : Graph => (Option.bind (law03_GraphSame_r4_p y249 y290 y291) (fun y498 : Bool => (K y498)))))))))
def law03_GraphSame (a_ : Graph) (b_ : Graph) : Option Bool := law03_GraphSame_q a_ b_ some
theorem law03_GraphSame_n {β : Type} (a_ : Graph) (b_ : Graph) (K : Bool → Option β) : law03_GraphSame_q a_ b_ K = (law03_GraphSame a_ b_).bind K := (bind_b fun y249 => (bind_b fun y290 => (bind_b fun y291 => (bind_b fun y498 => some_b))))
theorem law03_GraphSame_is (a_ : Graph) (b_ : Graph) : stepS E cp48 noE 6 [.agg (tsGraph.leaves a_), .agg (tsGraph.leaves b_)] = Option.bind (law03_GraphSame a_ b_) (fun y : Bool => some (rb y : R)) := by
  refine Eq.trans ?_ (law03_GraphSame_n a_ b_ (fun y : Bool => some (rb y : R)))
  refine (stepG_is (nt := 35) (regs := [(0, .agg (tsGraph.leaves a_)), (1, .agg (tsGraph.leaves b_))]) (by kernel_rfl) (by kernel_rfl)).trans ?_
  unfold law03_GraphSame_q
  refine (pre (n := 2) (c' := C48.r.r) (by kernel_rfl) (by kernel_rfl) (law03_GraphSame_r1 a_ b_ _)).trans (bind_g fun y249 => ?_)
  refine (pre (n := 1) (c' := C48.r.r.r) (by kernel_rfl) (by kernel_rfl) (law03_GraphSame_r2 a_ b_ y249 _)).trans (bind_g fun y290 => ?_)
  refine (pre (n := 1) (c' := C48.r.r.r.r) (by kernel_rfl) (by kernel_rfl) (law03_GraphSame_r3 b_ y249 y290 _)).trans (bind_g fun y291 => ?_)
  refine (pre (n := 1) (c' := C48.r.r.r.r.r) (by kernel_rfl) (by kernel_rfl) (law03_GraphSame_r4 y249 y290 y291 _)).trans (bind_g fun y498 => ?_)
  refine (ret_eq (by kernel_rfl)).trans ?_
  kernel_rfl
theorem law03_GraphSame_c (x : denL [(.agg tsGraph), (.agg tsGraph)]) : stepS E cp48 noE 6 (encL [(.agg tsGraph), (.agg tsGraph)] x) = ((fun x => law03_GraphSame x.1 x.2.1) x).bind fun y => some (Po.enc (.one (.one (.g .bool))) ((fun y : Bool => y) y)) := Eq.mp (by kernel_rfl) (law03_GraphSame_is x.1 x.2.1)
noncomputable def cp49 : CallP := withC cp48 6 [(.agg tsGraph), (.agg tsGraph)] (.one (.one (.g .bool))) (fun y : Bool => y) (fun x => law03_GraphSame x.1 x.2.1)
theorem cp49_ok : PureOK E cp49 := withC_ok cp48_ok (stepS_ok eok cp48_ok noE_ok) fun x => con_of (enc := fun y => Po.enc (.one (.one (.g .bool))) ((fun y : Bool => y) y)) (law03_GraphSame_c x)
theorem law03_GraphSame_walk (a_ : Graph) (b_ : Graph) (ht : law03_GraphSame a_ b_ = some true) (w : World) (vs : List Value) (hrd : ∀ γ : Gh, Free γ → rdRs w γ [argR true tsGraph a_, argR true tsGraph b_] vs) : Calls E.P 6 vs.toArray w fun e w' => e = .returned (.bool true) ∧ Below w.heap.size w w' :=
  walk_true (E := E) (stepS_ok eok cp48_ok noE_ok) (show stepS E cp48 noE 6 [.agg (tsGraph.leaves a_), .agg (tsGraph.leaves b_)] = some (.one (.g .bool true)) from by rw [law03_GraphSame_is, ht]; rfl) w fun γ hγ => Eq.mp (by kernel_rfl) (hrd γ hγ)
end Go.V.P
