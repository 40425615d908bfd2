/- What functions compute. -/
import Derived.Test.YtcmckbcpeocokaaGv7
namespace Go.V.P
open Go.RowKit Go.V Go.Proofs
set_option linter.unusedVariables false
set_option maxRecDepth 100000
noncomputable abbrev C52 : Code := codeOf E.P 45
noncomputable abbrev P52 {α : Type} (n : Nat) (c : Code) (st : St) (k : St → Option α) : Option α := preK E 45 cp52 noE n c st k
noncomputable abbrev R52 {α : Type} (c : Code) (st : St) (k : Kont α) : Option α := runCode E 45 cp52 noE c st k
noncomputable abbrev Q52 {α : Type} (c : Code) (k : Kont α) : Kont α := seqC E 45 cp52 noE c k
theorem graph_goesIn_f1 {α : Type} (g_ : Graph) (k : St → Option α) : P52 1 C52 ⟨[(0, .agg (tsGraph.leaves g_))], [], [], 55⟩ k = k ⟨[(1, .one (.cell (tsGraph.leaves g_)))], [], [], 55⟩ := by kernel_rfl
def graph_goesIn_r1_q {β : Type} (g_ : Graph) (K : Bool → β) : β := (bif (decide ((g_.1.length : Int) > (4 : Int))) then (K true) else (bif (decide ((g_.2.1.length : Int) > (12 : Int))) then (K true) else (K (decide ((g_.2.2.length : Int) > (4 : Int))))))
def graph_goesIn_r1_p (g_ : Graph) : Bool := graph_goesIn_r1_q g_ (fun y => y)
theorem graph_goesIn_r1_n {β : Type} (g_ : Graph) (K : Bool → β) : graph_goesIn_r1_q g_ K = K (graph_goesIn_r1_p g_) := (bif_k K rfl (bif_k K rfl rfl))
theorem graph_goesIn_r1 {α : Type} (g_ : Graph) (k : St → Option α) : P52 1 (bodyOf C52.r.l) ⟨[(1, .one (.cell (tsGraph.leaves g_)))], [], [], 55⟩ k = k ⟨[(1, .one (.cell (tsGraph.leaves g_))), (6, rb (graph_goesIn_r1_p g_))], [], [], 55⟩ := Eq.trans (by kernel_rfl) (graph_goesIn_r1_n g_ (fun y476 : Bool => k ⟨[(1, .one (.cell (tsGraph.leaves g_))), (6, rb y476)], [], [], 55⟩))
theorem graph_goesIn_fz {α : Type} (g_ : Graph) (k : St → Option α) : P52 1 (bodyOf C52.r.l).r.t ⟨[(1, .one (.cell (tsGraph.leaves g_)))], [], [], 55⟩ k = k ⟨[(2, .one (.ow tsI4 [] (.v 2))), (3, ri (3 : Int))], [], [], 55⟩ := by kernel_rfl
def graph_goesIn_r3_q {β : Type} (g_ : Graph) (K : Bool → β) : β := (bif ((g_.1.length : Int) == (0 : Int)) then (K true) else (K ((g_.2.2.length : Int) == (0 : Int))))
def graph_goesIn_r3_p (g_ : Graph) : Bool := graph_goesIn_r3_q g_ (fun y => y)
theorem graph_goesIn_r3_n {β : Type} (g_ : Graph) (K : Bool → β) : graph_goesIn_r3_q g_ K = K (graph_goesIn_r3_p g_) := (bif_k K rfl rfl)
theorem graph_goesIn_r3 {α : Type} (g_ : Graph) (k : St → Option α) : P52 1 (bodyOf C52.r.l).r.e ⟨[(1, .one (.cell (tsGraph.leaves g_)))], [], [], 55⟩ k = k ⟨[(1, .one (.cell (tsGraph.leaves g_))), (23, rb (graph_goesIn_r3_p g_))], [], [], 55⟩ := Eq.trans (by kernel_rfl) (graph_goesIn_r3_n g_ (fun y477 : Bool => k ⟨[(1, .one (.cell (tsGraph.leaves g_))), (23, rb y477)], [], [], 55⟩))
theorem graph_goesIn_fzx1 {α : Type} (g_ : Graph) (k : St → Option α) : P52 1 (bodyOf C52.r.l).r.e.r.t ⟨[(1, .one (.cell (tsGraph.leaves g_)))], [], [], 55⟩ k = k ⟨[(2, .one (.ow tsI4 [] (.v 2))), (3, ri (13 : Int))], [], [], 55⟩ := by kernel_rfl
theorem graph_goesIn_f6 {α : Type} (g_ : Graph) (k : St → Option α) : P52 1 C52.r.r.l ⟨[(1, .one (.cell (tsGraph.leaves g_)))], [], [], 55⟩ k = k ⟨[(1, .one (.cell (tsGraph.leaves g_))), (35, rl tsI4 g_.1), (36, ri (g_.1.length : Int)), (37, ri (0 : Int))], [], [], 55⟩ := by kernel_rfl
theorem graph_goesIn_fzx2 {α : Type} (g_ : Graph) (s495 : Int) (k : St → Option α) : P52 1 (bodyOf (bodyOf C52.r.r.l.r)) ⟨[(1, .one (.cell (tsGraph.leaves g_))), (35, rl tsI4 g_.1), (36, ri (g_.1.length : Int)), (37, ri s495)], [], [], 55⟩ k = k ⟨[(1, .one (.cell (tsGraph.leaves g_))), (35, rl tsI4 g_.1), (36, ri (g_.1.length : Int)), (37, ri s495), (38, rb (decide (s495 < (g_.1.length : Int))))], [], [], 55⟩ := by kernel_rfl
def graph_goesIn_r7_q {β : Type} (g_ : Graph) (s495 : Int) (K : Unit → Option β) : Option β := (bif (decide ((0 : Int) ≤ s495)) then (bif (decide (s495 < (g_.1.length : Int))) then (K ()) else none) else none)
def graph_goesIn_r7_p (g_ : Graph) (s495 : Int) : Option (Unit) := graph_goesIn_r7_q g_ s495 some
theorem graph_goesIn_r7_n {β : Type} (g_ : Graph) (s495 : Int) (K : Unit → Option β) : graph_goesIn_r7_q g_ s495 K = (graph_goesIn_r7_p g_ s495).bind K := (bif_b (bif_b some_b none_b) none_b)
theorem graph_goesIn_r7 {α : Type} (g_ : Graph) (s495 : Int) (k : St → Option α) : P52 1 (bodyOf (bodyOf (bodyOf C52.r.r.l.r)).r.r.l) ⟨[(1, .one (.cell (tsGraph.leaves g_))), (35, rl tsI4 g_.1), (36, ri (g_.1.length : Int)), (37, ri s495)], [], [], 55⟩ k = Option.bind (graph_goesIn_r7_p g_ s495) (fun y498 : Unit => k ⟨[(1, .one (.cell (tsGraph.leaves g_))), (5, .one (.ref 0 0)), (35, rl tsI4 g_.1), (36, ri (g_.1.length : Int)), (37, ri s495)], [(tsI4.leaves (gt g_.1 s495 dI4))], [], 55⟩) := Eq.trans (by kernel_rfl) (graph_goesIn_r7_n g_ s495 _)
theorem graph_goesIn_r8 {α : Type} (g_ : Graph) (s495 : Int) (k : St → Option α) : P52 1 (bodyOf (bodyOf (bodyOf (bodyOf C52.r.r.l.r)).r.r.l).r) ⟨[(1, .one (.cell (tsGraph.leaves g_))), (5, .one (.ref 0 0)), (35, rl tsI4 g_.1), (36, ri (g_.1.length : Int)), (37, ri s495)], [(tsI4.leaves (gt g_.1 s495 dI4))], [], 55⟩ k = Option.bind (shape_May ((gt g_.1 s495 dI4).1, (gt g_.1 s495 dI4).2.1, (gt g_.1 s495 dI4).2.2.1)) fun y499 : Int => k ⟨[(1, .one (.cell (tsGraph.leaves g_))), (5, .one (.ref 0 0)), (35, rl tsI4 g_.1), (36, ri (g_.1.length : Int)), (37, ri s495), (41, rb (y499 != (0 : Int)))], [(tsI4.leaves (gt g_.1 s495 dI4))], [], 55⟩ := by kernel_rfl
theorem graph_goesIn_fzx3 {α : Type} (g_ : Graph) (s495 : Int) (k : St → Option α) : P52 1 (bodyOf (bodyOf (bodyOf (bodyOf C52.r.r.l.r)).r.r.l).r).r.t ⟨[(1, .one (.cell (tsGraph.leaves g_))), (5, .one (.ref 0 0)), (35, rl tsI4 g_.1), (36, ri (g_.1.length : Int)), (37, ri s495)], [(tsI4.leaves (gt g_.1 s495 dI4))], [], 55⟩ k = k ⟨[(2, .one (.ow tsI4 [] (.v 2))), (3, ri (10 : Int))], [[]], [], 55⟩ := by kernel_rfl
theorem graph_goesIn_f1000011 {α : Type} (g_ : Graph) (s495 : Int) (k : St → Option α) : P52 1 (bodyOf (bodyOf (bodyOf (bodyOf C52.r.r.l.r)).r.r.l).r).r.e ⟨[(1, .one (.cell (tsGraph.leaves g_))), (5, .one (.ref 0 0)), (35, rl tsI4 g_.1), (36, ri (g_.1.length : Int)), (37, ri s495)], [(tsI4.leaves (gt g_.1 s495 dI4))], [], 55⟩ k = k ⟨[(1, .one (.cell (tsGraph.leaves g_))), (35, rl tsI4 g_.1), (36, ri (g_.1.length : Int)), (37, ri s495), (46, rb (!(graph_within ((gt g_.1 s495 dI4).2.2.2) (-128 : Int) (127 : Int))))], [[]], [], 55⟩ := by kernel_rfl
theorem graph_goesIn_fzx4 {α : Type} (g_ : Graph) (s495 : Int) (k : St → Option α) : P52 1 (bodyOf (bodyOf (bodyOf (bodyOf C52.r.r.l.r)).r.r.l).r).r.e.r.t ⟨[(1, .one (.cell (tsGraph.leaves g_))), (35, rl tsI4 g_.1), (36, ri (g_.1.length : Int)), (37, ri s495)], [[]], [], 55⟩ k = k ⟨[(2, .one (.ow tsI4 [] (.v 2))), (3, ri (11 : Int))], [[]], [], 55⟩ := by kernel_rfl
theorem graph_goesIn_r12 {α : Type} (g_ : Graph) (s495 : Int) (k : Kont α) : R52 (bodyOf (bodyOf C52.r.r.l.r)).r.r.r ⟨[(1, .one (.cell (tsGraph.leaves g_))), (35, rl tsI4 g_.1), (36, ri (g_.1.length : Int)), (37, ri s495)], [[]], [], 55⟩ k = k .normal ⟨[(1, .one (.cell (tsGraph.leaves g_))), (35, rl tsI4 g_.1), (36, ri (g_.1.length : Int)), (37, ri (IntKind.wrap .i64 (s495 + (1 : Int))))], [[]], [], 55⟩ := by kernel_rfl
def graph_goesIn_l6_q {β : Type} (g_ : Graph) (s495 : Int) (K0 : Int → Option β) (K1 : Int → Option β) (K2 : Int → Option β) : Option β := (bif (decide (s495 < (g_.1.length : Int))) then (Option.bind (graph_goesIn_r7_p g_ s495) (fun y498 : Unit => (Option.bind (shape_May ((gt g_.1 s495 dI4).1, (gt g_.1 s495 dI4).2.1, (gt g_.1 s495 dI4).2.2.1)) (fun y499 : Int => (bif (y499 != (0 : Int)) then (K2 (10 : Int)) else (bif (!(graph_within ((gt g_.1 s495 dI4).2.2.2) (-128 : Int) (127 : Int))) then (K2 (11 : Int)) else (K0 (IntKind.wrap .i64 (s495 + (1 : Int)))))))))) else (K1 s495))
def graph_goesIn_l6_p (g_ : Graph) (s495 : Int) : Option (Int ⊕ (Int ⊕ Int)) := graph_goesIn_l6_q g_ s495 (fun y => some (Sum.inl y)) (fun y => some (Sum.inr (Sum.inl y))) (fun y => some (Sum.inr (Sum.inr y)))
theorem graph_goesIn_l6_n {β : Type} (g_ : Graph) (s495 : Int) (K0 : Int → Option β) (K1 : Int → Option β) (K2 : Int → Option β) : graph_goesIn_l6_q g_ s495 K0 K1 K2 = (graph_goesIn_l6_p g_ s495).bind (either K0 (either K1 K2)) := (bif_b (bind_b fun y498 => (bind_b fun y499 => (bif_b e3_2 (bif_b e3_2 e3_0)))) e3_1)
theorem graph_goesIn_l6_b {α : Type} (g_ : Graph) (s495 : Int) (k : Kont α) : R52 (bodyOf (bodyOf C52.r.r.l.r)) ⟨[(1, .one (.cell (tsGraph.leaves g_))), (35, rl tsI4 g_.1), (36, ri (g_.1.length : Int)), (37, ri s495)], [], [], 55⟩ (loopKont 0 k) = Option.bind (graph_goesIn_l6_p g_ s495) (either (fun y : Int => k .normal ⟨[(1, .one (.cell (tsGraph.leaves g_))), (35, rl tsI4 g_.1), (36, ri (g_.1.length : Int)), (37, ri y)], [], [], 55⟩) (either (fun y500 : Int => k (.exit 1) ⟨[(1, .one (.cell (tsGraph.leaves g_))), (35, rl tsI4 g_.1), (36, ri (g_.1.length : Int)), (37, ri y500)], [], [], 55⟩) (fun y501 : Int => k .ret ⟨[(2, .one (.ow tsI4 [] (.v 2))), (3, ri y501)], [[]], [], 55⟩))) := by
  refine Eq.trans ?_ (graph_goesIn_l6_n g_ s495 _ _ _)
  unfold graph_goesIn_l6_q
  refine (pre (n := 1) (c' := (bodyOf (bodyOf C52.r.r.l.r)).r) (by kernel_rfl) (by kernel_rfl) (graph_goesIn_fzx2 g_ s495 _)).trans ?_
  refine (seq_push (by kernel_rfl)).trans ?_
  refine (cond_eq (b := (decide (s495 < (g_.1.length : Int)))) (st' := ⟨[(1, .one (.cell (tsGraph.leaves g_))), (35, rl tsI4 g_.1), (36, ri (g_.1.length : Int)), (37, ri s495)], [], [], 55⟩) (by kernel_rfl) (by kernel_rfl) (by kernel_rfl)).trans (bif_g ?_ ?_)
  · refine (skip_eq (by kernel_rfl)).trans ?_
    refine (seqC_normal (st' := ⟨[(1, .one (.cell (tsGraph.leaves g_))), (35, rl tsI4 g_.1), (36, ri (g_.1.length : Int)), (37, ri s495)], [], [], 55⟩) (by kernel_rfl)).trans ?_
    refine (seq_push (by kernel_rfl)).trans ?_
    refine (block_push (id := 2) (by kernel_rfl)).trans ?_
    refine (pre (n := 1) (c' := (bodyOf (bodyOf (bodyOf C52.r.r.l.r)).r.r.l).r) (by kernel_rfl) (by kernel_rfl) (graph_goesIn_r7 g_ s495 _)).trans (bind_g fun y498 => ?_)
    refine (block_push (id := 3) (by kernel_rfl)).trans ?_
    refine (pre (n := 1) (c' := (bodyOf (bodyOf (bodyOf (bodyOf C52.r.r.l.r)).r.r.l).r).r) (by kernel_rfl) (by kernel_rfl) (graph_goesIn_r8 g_ s495 _)).trans (bind_g fun y499 => ?_)
    refine (cond_eq (b := (y499 != (0 : Int))) (st' := ⟨[(1, .one (.cell (tsGraph.leaves g_))), (5, .one (.ref 0 0)), (35, rl tsI4 g_.1), (36, ri (g_.1.length : Int)), (37, ri s495)], [(tsI4.leaves (gt g_.1 s495 dI4))], [], 55⟩) (by kernel_rfl) (by kernel_rfl) (by kernel_rfl)).trans (bif_g ?_ ?_)
    · refine (pre (n := 1) (c' := (bodyOf (bodyOf (bodyOf (bodyOf C52.r.r.l.r)).r.r.l).r).r.t.r) (by kernel_rfl) (by kernel_rfl) (graph_goesIn_fzx3 g_ s495 _)).trans ?_
      refine (ret_eq (by kernel_rfl)).trans ?_
      refine block_ret.trans ?_
      refine block_ret.trans ?_
      refine seqC_ret.trans ?_
      kernel_rfl
    · refine (pre (n := 1) (c' := (bodyOf (bodyOf (bodyOf (bodyOf C52.r.r.l.r)).r.r.l).r).r.e.r) (by kernel_rfl) (by kernel_rfl) (graph_goesIn_f1000011 g_ s495 _)).trans ?_
      refine (cond_eq (b := (!(graph_within ((gt g_.1 s495 dI4).2.2.2) (-128 : Int) (127 : Int)))) (st' := ⟨[(1, .one (.cell (tsGraph.leaves g_))), (35, rl tsI4 g_.1), (36, ri (g_.1.length : Int)), (37, ri s495)], [[]], [], 55⟩) (by kernel_rfl) (by kernel_rfl) (by kernel_rfl)).trans (bif_g ?_ ?_)
      · refine (pre (n := 1) (c' := (bodyOf (bodyOf (bodyOf (bodyOf C52.r.r.l.r)).r.r.l).r).r.e.r.t.r) (by kernel_rfl) (by kernel_rfl) (graph_goesIn_fzx4 g_ s495 _)).trans ?_
        refine (ret_eq (by kernel_rfl)).trans ?_
        refine block_ret.trans ?_
        refine block_ret.trans ?_
        refine seqC_ret.trans ?_
        kernel_rfl
      · refine (skip_eq (by kernel_rfl)).trans ?_
        refine block_normal.trans ?_
        refine block_normal.trans ?_
        refine (seqC_normal (st' := ⟨[(1, .one (.cell (tsGraph.leaves g_))), (35, rl tsI4 g_.1), (36, ri (g_.1.length : Int)), (37, ri s495)], [[]], [], 55⟩) (by kernel_rfl)).trans ?_
        refine (graph_goesIn_r12 g_ s495 _).trans ?_
        kernel_rfl
  · refine (exit_eq (j := 1) (by kernel_rfl)).trans ?_
    refine seqC_exit.trans ?_
    kernel_rfl
theorem graph_goesIn_l6 {α : Type} (g_ : Graph) (k : Kont α) : R52 (bodyOf C52.r.r.l.r) ⟨[(1, .one (.cell (tsGraph.leaves g_))), (35, rl tsI4 g_.1), (36, ri (g_.1.length : Int)), (37, ri (0 : Int))], [], [], 55⟩ k = Option.bind (iterN (graph_goesIn_l6_p g_) LL (0 : Int)) (either (fun y500 : Int => k (.exit 1) ⟨[(1, .one (.cell (tsGraph.leaves g_))), (35, rl tsI4 g_.1), (36, ri (g_.1.length : Int)), (37, ri y500)], [], [], 55⟩) (fun y501 : Int => k .ret ⟨[(2, .one (.ow tsI4 [] (.v 2))), (3, ri y501)], [[]], [], 55⟩)) :=
  Eq.trans (by kernel_rfl) (loop_iter2 (S := fun s495 : Int => ⟨[(1, .one (.cell (tsGraph.leaves g_))), (35, rl tsI4 g_.1), (36, ri (g_.1.length : Int)), (37, ri s495)], [], [], 55⟩) (Y1 := fun y500 : Int => ((.exit 1), ⟨[(1, .one (.cell (tsGraph.leaves g_))), (35, rl tsI4 g_.1), (36, ri (g_.1.length : Int)), (37, ri y500)], [], [], 55⟩)) (Y2 := fun y501 : Int => (.ret, ⟨[(2, .one (.ow tsI4 [] (.v 2))), (3, ri y501)], [[]], [], 55⟩)) (fun s k => graph_goesIn_l6_b g_ s k) (fun z => rfl) (fun z => rfl) LL (0 : Int))
theorem graph_goesIn_r13 {α : Type} (g_ : Graph) (k : St → Option α) : P52 1 C52.r.r.r ⟨[(1, .one (.cell (tsGraph.leaves g_)))], [], [], 55⟩ k = Option.bind (slices_Cloneapi_Value_api_Value g_.1) fun y502 : (List I4) => k ⟨[(2, .one (.ow tsI4 y502 (.v 2))), (3, ri (0 : Int))], [], [], 55⟩ := by kernel_rfl
/-- quilt/graph.goesIn -/
def graph_goesIn_q {β : Type} (g_ : Graph) (K : ((List I4) × Int) → Option β) : Option β := (bif (graph_goesIn_r1_p g_) then (K ([], (3 : Int))) else (bif (graph_goesIn_r3_p g_) then (K ([], (13 : Int))) else (Option.bind (iterN (graph_goesIn_l6_p g_) LL (0 : Int)) (either (fun y500 : Int => (Option.bind (slices_Cloneapi_Value_api_Value g_.1) (fun y502 : (List I4) => (K (y502, (0 : Int)))))) (fun y501 : Int => (K ([], y501)))))))
def graph_goesIn (g_ : Graph) : Option ((List I4) × Int) := graph_goesIn_q g_ some
theorem graph_goesIn_n {β : Type} (g_ : Graph) (K : ((List I4) × Int) → Option β) : graph_goesIn_q g_ K = (graph_goesIn g_).bind K := (bif_b some_b (bif_b some_b (bind_b (either_b (fun y500 => (bind_b fun y502 => some_b)) (fun y501 => some_b)))))
theorem graph_goesIn_is (g_ : Graph) : stepO E cp52 noE 45 [.agg (tsGraph.leaves g_)] = Option.bind (graph_goesIn g_) (fun y : ((List I4) × Int) => some (.tup [.one (.ow tsI4 y.1 (.s 0)), ri y.2] : R)) := by
  refine Eq.trans ?_ (graph_goesIn_n g_ (fun y : ((List I4) × Int) => some (.tup [.one (.ow tsI4 y.1 (.s 0)), ri y.2] : R)))
  refine (stepG_is (nt := 55) (regs := [(0, .agg (tsGraph.leaves g_))]) (by kernel_rfl) (by kernel_rfl)).trans ?_
  unfold graph_goesIn_q
  refine (pre (n := 1) (c' := C52.r) (by kernel_rfl) (by kernel_rfl) (graph_goesIn_f1 g_ _)).trans ?_
  refine (seq_push (by kernel_rfl)).trans ?_
  refine (block_push (id := 0) (by kernel_rfl)).trans ?_
  refine (pre (n := 1) (c' := (bodyOf C52.r.l).r) (by kernel_rfl) (by kernel_rfl) (graph_goesIn_r1 g_ _)).trans ?_
  refine (cond_eq (b := (graph_goesIn_r1_p g_)) (st' := ⟨[(1, .one (.cell (tsGraph.leaves g_)))], [], [], 55⟩) (by kernel_rfl) (by kernel_rfl) (by kernel_rfl)).trans (bif_g ?_ ?_)
  · refine (pre (n := 1) (c' := (bodyOf C52.r.l).r.t.r) (by kernel_rfl) (by kernel_rfl) (graph_goesIn_fz g_ _)).trans ?_
    refine (ret_eq (by kernel_rfl)).trans ?_
    refine block_ret.trans ?_
    refine seqC_ret.trans ?_
    kernel_rfl
  · refine (pre (n := 1) (c' := (bodyOf C52.r.l).r.e.r) (by kernel_rfl) (by kernel_rfl) (graph_goesIn_r3 g_ _)).trans ?_
    refine (cond_eq (b := (graph_goesIn_r3_p g_)) (st' := ⟨[(1, .one (.cell (tsGraph.leaves g_)))], [], [], 55⟩) (by kernel_rfl) (by kernel_rfl) (by kernel_rfl)).trans (bif_g ?_ ?_)
    · refine (pre (n := 1) (c' := (bodyOf C52.r.l).r.e.r.t.r) (by kernel_rfl) (by kernel_rfl) (graph_goesIn_fzx1 g_ _)).trans ?_
      refine (ret_eq (by kernel_rfl)).trans ?_
      refine block_ret.trans ?_
      refine seqC_ret.trans ?_
      kernel_rfl
    · refine (skip_eq (by kernel_rfl)).trans ?_
      refine block_normal.trans ?_
      refine (seqC_normal (st' := ⟨[(1, .one (.cell (tsGraph.leaves g_)))], [], [], 55⟩) (by kernel_rfl)).trans ?_
      refine (seq_push (by kernel_rfl)).trans ?_
      refine (pre (n := 1) (c' := C52.r.r.l.r) (by kernel_rfl) (by kernel_rfl) (graph_goesIn_f6 g_ _)).trans ?_
      refine (block_push (id := 1) (by kernel_rfl)).trans ?_
      refine (graph_goesIn_l6 g_ _).trans (bind_g (either_g (fun y500 => ?_) (fun y501 => ?_)))
      · refine block_same.trans ?_
        refine (seqC_normal (st' := ⟨[(1, .one (.cell (tsGraph.leaves g_)))], [], [], 55⟩) (by kernel_rfl)).trans ?_
        refine (pre (n := 1) (c' := C52.r.r.r.r) (by kernel_rfl) (by kernel_rfl) (graph_goesIn_r13 g_ _)).trans (bind_g fun y502 => ?_)
        refine (ret_eq (by kernel_rfl)).trans ?_
        kernel_rfl
      · refine block_ret.trans ?_
        refine seqC_ret.trans ?_
        kernel_rfl
theorem graph_goesIn_c (x : denL [(.agg tsGraph)]) : stepO E cp52 noE 45 (encL [(.agg tsGraph)] x) = ((fun x => graph_goesIn x.1) x).bind fun y => some (Po.enc (.tup [(.one (.ow tsI4)), (.one (.g (.int .i64)))]) ((fun y : ((List I4) × Int) => (y.1, y.2, ())) y)) := Eq.mp (by kernel_rfl) (graph_goesIn_is x.1)
noncomputable def cp53 : CallP := withC cp52 45 [(.agg tsGraph)] (.tup [(.one (.ow tsI4)), (.one (.g (.int .i64)))]) (fun y : ((List I4) × Int) => (y.1, y.2, ())) (fun x => graph_goesIn x.1)
theorem cp53_ok : PureOK E cp53 := withC_ok cp52_ok (stepO_ok eok cp52_ok noE_ok) fun x => con_of (enc := fun y => Po.enc (.tup [(.one (.ow tsI4)), (.one (.g (.int .i64)))]) ((fun y : ((List I4) × Int) => (y.1, y.2, ())) y)) (graph_goesIn_c x)
noncomputable abbrev C53 : Code := codeOf E.P 46
noncomputable abbrev P53 {α : Type} (n : Nat) (c : Code) (st : St) (k : St → Option α) : Option α := preK E 46 cp53 noE n c st k
noncomputable abbrev R53 {α : Type} (c : Code) (st : St) (k : Kont α) : Option α := runCode E 46 cp53 noE c st k
noncomputable abbrev Q53 {α : Type} (c : Code) (k : Kont α) : Kont α := seqC E 46 cp53 noE c k
theorem graph_picked_f1 {α : Type} (vals : (List I4)) (l_ : (List Int)) (k : St → Option α) : P53 1 C53 ⟨[(0, rl tsI4 vals), (1, rl (.one (.int .i64)) l_)], [], [], 29⟩ k = k ⟨[(0, rl tsI4 vals), (1, rl (.one (.int .i64)) l_), (4, .one (.ow tsI4 [] (.v 4)))], [], [], 29⟩ := by kernel_rfl
theorem graph_picked_f2 {α : Type} (vals : (List I4)) (l_ : (List Int)) (k : St → Option α) : P53 1 C53.r.l ⟨[(0, rl tsI4 vals), (1, rl (.one (.int .i64)) l_), (4, .one (.ow tsI4 [] (.v 4)))], [], [], 29⟩ k = k ⟨[(0, rl tsI4 vals), (4, .one (.ow tsI4 [] (.v 4))), (8, rl (.one (.int .i64)) l_), (9, ri (l_.length : Int)), (10, ri (0 : Int))], [], [], 29⟩ := by kernel_rfl
theorem graph_picked_fz {α : Type} (vals : (List I4)) (l_ : (List Int)) (s535 : ((List I4) × Int)) (k : St → Option α) : P53 1 (bodyOf (bodyOf C53.r.l.r)) ⟨[(0, rl tsI4 vals), (4, .one (.ow tsI4 s535.1 (.v 4))), (8, rl (.one (.int .i64)) l_), (9, ri (l_.length : Int)), (10, ri s535.2)], [], [], 29⟩ k = k ⟨[(0, rl tsI4 vals), (4, .one (.ow tsI4 s535.1 (.v 4))), (8, rl (.one (.int .i64)) l_), (9, ri (l_.length : Int)), (10, ri s535.2), (11, rb (decide (s535.2 < (l_.length : Int))))], [], [], 29⟩ := by kernel_rfl
def graph_picked_r3_q {β : Type} (l_ : (List Int)) (s535 : ((List I4) × Int)) (K : Unit → Option β) : Option β := (bif (decide ((0 : Int) ≤ s535.2)) then (bif (decide (s535.2 < (l_.length : Int))) then (K ()) else none) else none)
def graph_picked_r3_p (l_ : (List Int)) (s535 : ((List I4) × Int)) : Option (Unit) := graph_picked_r3_q l_ s535 some
theorem graph_picked_r3_n {β : Type} (l_ : (List Int)) (s535 : ((List I4) × Int)) (K : Unit → Option β) : graph_picked_r3_q l_ s535 K = (graph_picked_r3_p l_ s535).bind K := (bif_b (bif_b some_b none_b) none_b)
theorem graph_picked_r3 {α : Type} (vals : (List I4)) (l_ : (List Int)) (s535 : ((List I4) × Int)) (k : St → Option α) : P53 1 (bodyOf (bodyOf (bodyOf C53.r.l.r)).r.r.l) ⟨[(0, rl tsI4 vals), (4, .one (.ow tsI4 s535.1 (.v 4))), (8, rl (.one (.int .i64)) l_), (9, ri (l_.length : Int)), (10, ri s535.2)], [], [], 29⟩ k = Option.bind (graph_picked_r3_p l_ s535) (fun y540 : Unit => k ⟨[(0, rl tsI4 vals), (4, .one (.ow tsI4 s535.1 (.v 4))), (7, ri (gt l_ s535.2 (0 : Int))), (8, rl (.one (.int .i64)) l_), (9, ri (l_.length : Int)), (10, ri s535.2)], [], [], 29⟩) := Eq.trans (by kernel_rfl) (graph_picked_r3_n l_ s535 _)
def graph_picked_r4_q {β : Type} (vals : (List I4)) (l_ : (List Int)) (s535 : ((List I4) × Int)) (K : Bool → β) : β := (K (!(graph_within (gt l_ s535.2 (0 : Int)) (0 : Int) (IntKind.wrap .i64 ((vals.length : Int) - (1 : Int))))))
def graph_picked_r4_p (vals : (List I4)) (l_ : (List Int)) (s535 : ((List I4) × Int)) : Bool := graph_picked_r4_q vals l_ s535 (fun y => y)
theorem graph_picked_r4_n {β : Type} (vals : (List I4)) (l_ : (List Int)) (s535 : ((List I4) × Int)) (K : Bool → β) : graph_picked_r4_q vals l_ s535 K = K (graph_picked_r4_p vals l_ s535) := rfl
theorem graph_picked_r4 {α : Type} (vals : (List I4)) (l_ : (List Int)) (s535 : ((List I4) × Int)) (k : St → Option α) : P53 1 (bodyOf (bodyOf (bodyOf C53.r.l.r)).r.r.l).r.l ⟨[(0, rl tsI4 vals), (4, .one (.ow tsI4 s535.1 (.v 4))), (7, ri (gt l_ s535.2 (0 : Int))), (8, rl (.one (.int .i64)) l_), (9, ri (l_.length : Int)), (10, ri s535.2)], [], [], 29⟩ k = k ⟨[(0, rl tsI4 vals), (4, .one (.ow tsI4 s535.1 (.v 4))), (7, ri (gt l_ s535.2 (0 : Int))), (8, rl (.one (.int .i64)) l_), (9, ri (l_.length : Int)), (10, ri s535.2), (19, rb (graph_picked_r4_p vals l_ s535))], [], [], 29⟩ := Eq.trans (by kernel_rfl) (graph_picked_r4_n vals l_ s535 (fun y542 : Bool => k ⟨[(0, rl tsI4 vals), (4, .one (.ow tsI4 s535.1 (.v 4))), (7, ri (gt l_ s535.2 (0 : Int))), (8, rl (.one (.int .i64)) l_), (9, ri (l_.length : Int)), (10, ri s535.2), (19, rb y542)], [], [], 29⟩))
theorem graph_picked_fzx1 {α : Type} (vals : (List I4)) (l_ : (List Int)) (s535 : ((List I4) × Int)) (k : St → Option α) : P53 1 (bodyOf (bodyOf (bodyOf C53.r.l.r)).r.r.l).r.l.r.t ⟨[(0, rl tsI4 vals), (4, .one (.ow tsI4 s535.1 (.v 4))), (7, ri (gt l_ s535.2 (0 : Int))), (8, rl (.one (.int .i64)) l_), (9, ri (l_.length : Int)), (10, ri s535.2)], [], [], 29⟩ k = k ⟨[(4, .one (.ow tsI4 [] (.v 4))), (5, rb false)], [], [], 29⟩ := by kernel_rfl
def graph_picked_r6_q {β : Type} (vals : (List I4)) (l_ : (List Int)) (s535 : ((List I4) × Int)) (K : Unit → Option β) : Option β := (bif (decide ((0 : Int) ≤ (gt l_ s535.2 (0 : Int)))) then (bif (decide ((gt l_ s535.2 (0 : Int)) < (vals.length : Int))) then (bif (decide (s535.1.length + ([(gt vals (gt l_ s535.2 (0 : Int)) dI4)] : List I4).length ≤ maxL)) then (K ()) else none) else none) else none)
def graph_picked_r6_p (vals : (List I4)) (l_ : (List Int)) (s535 : ((List I4) × Int)) : Option (Unit) := graph_picked_r6_q vals l_ s535 some
theorem graph_picked_r6_n {β : Type} (vals : (List I4)) (l_ : (List Int)) (s535 : ((List I4) × Int)) (K : Unit → Option β) : graph_picked_r6_q vals l_ s535 K = (graph_picked_r6_p vals l_ s535).bind K := (bif_b (bif_b (bif_b some_b none_b) none_b) none_b)
theorem graph_picked_r6 {α : Type} (vals : (List I4)) (l_ : (List Int)) (s535 : ((List I4) × Int)) (k : Kont α) : R53 (bodyOf (bodyOf (bodyOf C53.r.l.r)).r.r.l).r.r ⟨[(0, rl tsI4 vals), (4, .one (.ow tsI4 s535.1 (.v 4))), (7, ri (gt l_ s535.2 (0 : Int))), (8, rl (.one (.int .i64)) l_), (9, ri (l_.length : Int)), (10, ri s535.2)], [], [], 29⟩ k = Option.bind (graph_picked_r6_p vals l_ s535) (fun y543 : Unit => k .normal ⟨[(0, rl tsI4 vals), (4, .one (.ow tsI4 (s535.1 ++ [(gt vals (gt l_ s535.2 (0 : Int)) dI4)]) (.v 4))), (8, rl (.one (.int .i64)) l_), (9, ri (l_.length : Int)), (10, ri s535.2)], [], [], 29⟩) := Eq.trans (by kernel_rfl) (graph_picked_r6_n vals l_ s535 _)
theorem graph_picked_r7 {α : Type} (vals : (List I4)) (l_ : (List Int)) (s535 : ((List I4) × Int)) (k : Kont α) : R53 (bodyOf (bodyOf C53.r.l.r)).r.r.r ⟨[(0, rl tsI4 vals), (4, .one (.ow tsI4 (s535.1 ++ [(gt vals (gt l_ s535.2 (0 : Int)) dI4)]) (.v 4))), (8, rl (.one (.int .i64)) l_), (9, ri (l_.length : Int)), (10, ri s535.2)], [], [], 29⟩ k = k .normal ⟨[(0, rl tsI4 vals), (4, .one (.ow tsI4 (s535.1 ++ [(gt vals (gt l_ s535.2 (0 : Int)) dI4)]) (.v 4))), (8, rl (.one (.int .i64)) l_), (9, ri (l_.length : Int)), (10, ri (IntKind.wrap .i64 (s535.2 + (1 : Int))))], [], [], 29⟩ := by kernel_rfl
def graph_picked_l2_q {β : Type} (vals : (List I4)) (l_ : (List Int)) (s535 : ((List I4) × Int)) (K0 : ((List I4) × Int) → Option β) (K1 : ((List I4) × Int) → Option β) (K2 : Unit → Option β) : Option β := (bif (decide (s535.2 < (l_.length : Int))) then (Option.bind (graph_picked_r3_p l_ s535) (fun y540 : Unit => (bif (graph_picked_r4_p vals l_ s535) then (K2 ()) else (Option.bind (graph_picked_r6_p vals l_ s535) (fun y543 : Unit => (K0 ((s535.1 ++ [(gt vals (gt l_ s535.2 (0 : Int)) dI4)]), (IntKind.wrap .i64 (s535.2 + (1 : Int)))))))))) else (K1 s535))
def graph_picked_l2_p (vals : (List I4)) (l_ : (List Int)) (s535 : ((List I4) × Int)) : Option (((List I4) × Int) ⊕ (((List I4) × Int) ⊕ Unit)) := graph_picked_l2_q vals l_ s535 (fun y => some (Sum.inl y)) (fun y => some (Sum.inr (Sum.inl y))) (fun y => some (Sum.inr (Sum.inr y)))
theorem graph_picked_l2_n {β : Type} (vals : (List I4)) (l_ : (List Int)) (s535 : ((List I4) × Int)) (K0 : ((List I4) × Int) → Option β) (K1 : ((List I4) × Int) → Option β) (K2 : Unit → Option β) : graph_picked_l2_q vals l_ s535 K0 K1 K2 = (graph_picked_l2_p vals l_ s535).bind (either K0 (either K1 K2)) := (bif_b (bind_b fun y540 => (bif_b e3_2 (bind_b fun y543 => e3_0))) e3_1)
theorem graph_picked_l2_b {α : Type} (vals : (List I4)) (l_ : (List Int)) (s535 : ((List I4) × Int)) (k : Kont α) : R53 (bodyOf (bodyOf C53.r.l.r)) ⟨[(0, rl tsI4 vals), (4, .one (.ow tsI4 s535.1 (.v 4))), (8, rl (.one (.int .i64)) l_), (9, ri (l_.length : Int)), (10, ri s535.2)], [], [], 29⟩ (loopKont 0 k) = Option.bind (graph_picked_l2_p vals l_ s535) (either (fun y : ((List I4) × Int) => k .normal ⟨[(0, rl tsI4 vals), (4, .one (.ow tsI4 y.1 (.v 4))), (8, rl (.one (.int .i64)) l_), (9, ri (l_.length : Int)), (10, ri y.2)], [], [], 29⟩) (either (fun y544 : ((List I4) × Int) => k (.exit 0) ⟨[(0, rl tsI4 vals), (4, .one (.ow tsI4 y544.1 (.v 4))), (8, rl (.one (.int .i64)) l_), (9, ri (l_.length : Int)), (10, ri y544.2)], [], [], 29⟩) (fun y545 : Unit => k .ret ⟨[(4, .one (.ow tsI4 [] (.v 4))), (5, rb false)], [], [], 29⟩))) := by
  refine Eq.trans ?_ (graph_picked_l2_n vals l_ s535 _ _ _)
  unfold graph_picked_l2_q
  refine (pre (n := 1) (c' := (bodyOf (bodyOf C53.r.l.r)).r) (by kernel_rfl) (by kernel_rfl) (graph_picked_fz vals l_ s535 _)).trans ?_
  refine (seq_push (by kernel_rfl)).trans ?_
  refine (cond_eq (b := (decide (s535.2 < (l_.length : Int)))) (st' := ⟨[(0, rl tsI4 vals), (4, .one (.ow tsI4 s535.1 (.v 4))), (8, rl (.one (.int .i64)) l_), (9, ri (l_.length : Int)), (10, ri s535.2)], [], [], 29⟩) (by kernel_rfl) (by kernel_rfl) (by kernel_rfl)).trans (bif_g ?_ ?_)
  · refine (skip_eq (by kernel_rfl)).trans ?_
    refine (seqC_normal (st' := ⟨[(0, rl tsI4 vals), (4, .one (.ow tsI4 s535.1 (.v 4))), (8, rl (.one (.int .i64)) l_), (9, ri (l_.length : Int)), (10, ri s535.2)], [], [], 29⟩) (by kernel_rfl)).trans ?_
    refine (seq_push (by kernel_rfl)).trans ?_
    refine (block_push (id := 1) (by kernel_rfl)).trans ?_
    refine (pre (n := 1) (c' := (bodyOf (bodyOf (bodyOf C53.r.l.r)).r.r.l).r) (by kernel_rfl) (by kernel_rfl) (graph_picked_r3 vals l_ s535 _)).trans (bind_g fun y540 => ?_)
    refine (seq_push (by kernel_rfl)).trans ?_
    refine (pre (n := 1) (c' := (bodyOf (bodyOf (bodyOf C53.r.l.r)).r.r.l).r.l.r) (by kernel_rfl) (by kernel_rfl) (graph_picked_r4 vals l_ s535 _)).trans ?_
    refine (cond_eq (b := (graph_picked_r4_p vals l_ s535)) (st' := ⟨[(0, rl tsI4 vals), (4, .one (.ow tsI4 s535.1 (.v 4))), (7, ri (gt l_ s535.2 (0 : Int))), (8, rl (.one (.int .i64)) l_), (9, ri (l_.length : Int)), (10, ri s535.2)], [], [], 29⟩) (by kernel_rfl) (by kernel_rfl) (by kernel_rfl)).trans (bif_g ?_ ?_)
    · refine (pre (n := 1) (c' := (bodyOf (bodyOf (bodyOf C53.r.l.r)).r.r.l).r.l.r.t.r) (by kernel_rfl) (by kernel_rfl) (graph_picked_fzx1 vals l_ s535 _)).trans ?_
      refine (ret_eq (by kernel_rfl)).trans ?_
      refine seqC_ret.trans ?_
      refine block_ret.trans ?_
      refine seqC_ret.trans ?_
      kernel_rfl
    · refine (skip_eq (by kernel_rfl)).trans ?_
      refine (seqC_normal (st' := ⟨[(0, rl tsI4 vals), (4, .one (.ow tsI4 s535.1 (.v 4))), (7, ri (gt l_ s535.2 (0 : Int))), (8, rl (.one (.int .i64)) l_), (9, ri (l_.length : Int)), (10, ri s535.2)], [], [], 29⟩) (by kernel_rfl)).trans ?_
      refine (graph_picked_r6 vals l_ s535 _).trans (bind_g fun y543 => ?_)
      refine block_normal.trans ?_
      refine (seqC_normal (st' := ⟨[(0, rl tsI4 vals), (4, .one (.ow tsI4 (s535.1 ++ [(gt vals (gt l_ s535.2 (0 : Int)) dI4)]) (.v 4))), (8, rl (.one (.int .i64)) l_), (9, ri (l_.length : Int)), (10, ri s535.2)], [], [], 29⟩) (by kernel_rfl)).trans ?_
      refine (graph_picked_r7 vals l_ s535 _).trans ?_
      kernel_rfl
  · refine (exit_eq (j := 0) (by kernel_rfl)).trans ?_
    refine seqC_exit.trans ?_
    kernel_rfl
theorem graph_picked_l2 {α : Type} (vals : (List I4)) (l_ : (List Int)) (k : Kont α) : R53 (bodyOf C53.r.l.r) ⟨[(0, rl tsI4 vals), (4, .one (.ow tsI4 [] (.v 4))), (8, rl (.one (.int .i64)) l_), (9, ri (l_.length : Int)), (10, ri (0 : Int))], [], [], 29⟩ k = Option.bind (iterN (graph_picked_l2_p vals l_) LL ([], (0 : Int))) (either (fun y544 : ((List I4) × Int) => k (.exit 0) ⟨[(0, rl tsI4 vals), (4, .one (.ow tsI4 y544.1 (.v 4))), (8, rl (.one (.int .i64)) l_), (9, ri (l_.length : Int)), (10, ri y544.2)], [], [], 29⟩) (fun y545 : Unit => k .ret ⟨[(4, .one (.ow tsI4 [] (.v 4))), (5, rb false)], [], [], 29⟩)) :=
  Eq.trans (by kernel_rfl) (loop_iter2 (S := fun s535 : ((List I4) × Int) => ⟨[(0, rl tsI4 vals), (4, .one (.ow tsI4 s535.1 (.v 4))), (8, rl (.one (.int .i64)) l_), (9, ri (l_.length : Int)), (10, ri s535.2)], [], [], 29⟩) (Y1 := fun y544 : ((List I4) × Int) => ((.exit 0), ⟨[(0, rl tsI4 vals), (4, .one (.ow tsI4 y544.1 (.v 4))), (8, rl (.one (.int .i64)) l_), (9, ri (l_.length : Int)), (10, ri y544.2)], [], [], 29⟩)) (Y2 := fun y545 : Unit => (.ret, ⟨[(4, .one (.ow tsI4 [] (.v 4))), (5, rb false)], [], [], 29⟩)) (fun s k => graph_picked_l2_b vals l_ s k) (fun z => rfl) (fun z => rfl) LL ([], (0 : Int)))
theorem graph_picked_fzx2 {α : Type} (y544 : ((List I4) × Int)) (k : St → Option α) : P53 1 C53.r.r ⟨[(4, .one (.ow tsI4 y544.1 (.v 4)))], [], [], 29⟩ k = k ⟨[(4, .one (.ow tsI4 y544.1 (.v 4))), (5, rb true)], [], [], 29⟩ := by kernel_rfl
/-- quilt/graph.picked -/
def graph_picked_q {β : Type} (vals : (List I4)) (l_ : (List Int)) (K : ((List I4) × Bool) → Option β) : Option β := (Option.bind (iterN (graph_picked_l2_p vals l_) LL ([], (0 : Int))) (either (fun y544 : ((List I4) × Int) => (K (y544.1, true))) (fun y545 : Unit => (K ([], false)))))
def graph_picked (vals : (List I4)) (l_ : (List Int)) : Option ((List I4) × Bool) := graph_picked_q vals l_ some
theorem graph_picked_n {β : Type} (vals : (List I4)) (l_ : (List Int)) (K : ((List I4) × Bool) → Option β) : graph_picked_q vals l_ K = (graph_picked vals l_).bind K := (bind_b (either_b (fun y544 => some_b) (fun y545 => some_b)))
theorem graph_picked_is (vals : (List I4)) (l_ : (List Int)) : stepO E cp53 noE 46 [rl tsI4 vals, rl (.one (.int .i64)) l_] = Option.bind (graph_picked vals l_) (fun y : ((List I4) × Bool) => some (.tup [.one (.ow tsI4 y.1 (.s 0)), rb y.2] : R)) := by
  refine Eq.trans ?_ (graph_picked_n vals l_ (fun y : ((List I4) × Bool) => some (.tup [.one (.ow tsI4 y.1 (.s 0)), rb y.2] : R)))
  refine (stepG_is (nt := 29) (regs := [(0, rl tsI4 vals), (1, rl (.one (.int .i64)) l_)]) (by kernel_rfl) (by kernel_rfl)).trans ?_
  unfold graph_picked_q
  refine (pre (n := 1) (c' := C53.r) (by kernel_rfl) (by kernel_rfl) (graph_picked_f1 vals l_ _)).trans ?_
  refine (seq_push (by kernel_rfl)).trans ?_
  refine (pre (n := 1) (c' := C53.r.l.r) (by kernel_rfl) (by kernel_rfl) (graph_picked_f2 vals l_ _)).trans ?_
  refine (block_push (id := 0) (by kernel_rfl)).trans ?_
  refine (graph_picked_l2 vals l_ _).trans (bind_g (either_g (fun y544 => ?_) (fun y545 => ?_)))
  · refine block_same.trans ?_
    refine (seqC_normal (st' := ⟨[(4, .one (.ow tsI4 y544.1 (.v 4)))], [], [], 29⟩) (by kernel_rfl)).trans ?_
    refine (pre (n := 1) (c' := C53.r.r.r) (by kernel_rfl) (by kernel_rfl) (graph_picked_fzx2 y544 _)).trans ?_
    refine (ret_eq (by kernel_rfl)).trans ?_
    kernel_rfl
  · refine block_ret.trans ?_
    refine seqC_ret.trans ?_
    kernel_rfl
theorem graph_picked_c (x : denL [(.one (.g (.sl tsI4))), (.one (.g (.sl (.one (.int .i64)))))]) : stepO E cp53 noE 46 (encL [(.one (.g (.sl tsI4))), (.one (.g (.sl (.one (.int .i64)))))] x) = ((fun x => graph_picked x.1 x.2.1) x).bind fun y => some (Po.enc (.tup [(.one (.ow tsI4)), (.one (.g .bool))]) ((fun y : ((List I4) × Bool) => (y.1, y.2, ())) y)) := Eq.mp (by kernel_rfl) (graph_picked_is x.1 x.2.1)
noncomputable def cp54 : CallP := withC cp53 46 [(.one (.g (.sl tsI4))), (.one (.g (.sl (.one (.int .i64)))))] (.tup [(.one (.ow tsI4)), (.one (.g .bool))]) (fun y : ((List I4) × Bool) => (y.1, y.2, ())) (fun x => graph_picked x.1 x.2.1)
theorem cp54_ok : PureOK E cp54 := withC_ok cp53_ok (stepO_ok eok cp53_ok noE_ok) fun x => con_of (enc := fun y => Po.enc (.tup [(.one (.ow tsI4)), (.one (.g .bool))]) ((fun y : ((List I4) × Bool) => (y.1, y.2, ())) y)) (graph_picked_c x)
noncomputable abbrev C54 : Code := codeOf E.P 19
noncomputable abbrev P54 {α : Type} (n : Nat) (c : Code) (st : St) (k : St → Option α) : Option α := preK E 19 cp54 noE n c st k
noncomputable abbrev R54 {α : Type} (c : Code) (st : St) (k : Kont α) : Option α := runCode E 19 cp54 noE c st k
noncomputable abbrev Q54 {α : Type} (c : Code) (k : Kont α) : Kont α := seqC E 19 cp54 noE c k
theorem graph_Values_r1 {α : Type} (g_ : Graph) (k : St → Option α) : P54 2 C54 ⟨[(0, .agg (tsGraph.leaves g_))], [], [], 70⟩ k = Option.bind (graph_goesIn g_) fun y503 : ((List I4) × Int) => k ⟨[(1, .one (.cell (tsGraph.leaves g_))), (4, .one (.ow tsI4 y503.1 (.v 4))), (5, ri y503.2)], [], [], 70⟩ := by kernel_rfl
theorem graph_Values_f1000003 {α : Type} (g_ : Graph) (y503 : ((List I4) × Int)) (k : St → Option α) : P54 1 C54.r.r.l ⟨[(1, .one (.cell (tsGraph.leaves g_))), (4, .one (.ow tsI4 y503.1 (.v 4))), (5, ri y503.2)], [], [], 70⟩ k = k ⟨[(1, .one (.cell (tsGraph.leaves g_))), (4, .one (.ow tsI4 y503.1 (.v 4))), (5, ri y503.2), (21, rb (y503.2 != (0 : Int)))], [], [], 70⟩ := by kernel_rfl
theorem graph_Values_fz {α : Type} (g_ : Graph) (y503 : ((List I4) × Int)) (k : St → Option α) : P54 1 C54.r.r.l.r.t ⟨[(1, .one (.cell (tsGraph.leaves g_))), (4, .one (.ow tsI4 y503.1 (.v 4))), (5, ri y503.2)], [], [], 70⟩ k = k ⟨[(2, .one (.ow tsI4 [] (.v 2))), (3, ri y503.2)], [], [], 70⟩ := by kernel_rfl
theorem graph_Values_f5 {α : Type} (g_ : Graph) (y503 : ((List I4) × Int)) (k : St → Option α) : P54 1 C54.r.r.r ⟨[(1, .one (.cell (tsGraph.leaves g_))), (4, .one (.ow tsI4 y503.1 (.v 4)))], [], [], 70⟩ k = k ⟨[(1, .one (.cell (tsGraph.leaves g_))), (4, .one (.ow tsI4 y503.1 (.v 4))), (6, ri (0 : Int))], [], [], 70⟩ := by kernel_rfl
theorem graph_Values_f6 {α : Type} (g_ : Graph) (y503 : ((List I4) × Int)) (k : St → Option α) : P54 1 C54.r.r.r.r.l ⟨[(1, .one (.cell (tsGraph.leaves g_))), (4, .one (.ow tsI4 y503.1 (.v 4))), (6, ri (0 : Int))], [], [], 70⟩ k = k ⟨[(1, .one (.cell (tsGraph.leaves g_))), (4, .one (.ow tsI4 y503.1 (.v 4))), (6, ri (0 : Int)), (24, rl tsNode g_.2.1), (25, ri (g_.2.1.length : Int)), (26, ri (0 : Int))], [], [], 70⟩ := by kernel_rfl
theorem graph_Values_fzx1 {α : Type} (g_ : Graph) (s574 : ((List I4) × Int × Int)) (k : St → Option α) : P54 1 (bodyOf (bodyOf C54.r.r.r.r.l.r)) ⟨[(1, .one (.cell (tsGraph.leaves g_))), (4, .one (.ow tsI4 s574.1 (.v 4))), (6, ri s574.2.1), (24, rl tsNode g_.2.1), (25, ri (g_.2.1.length : Int)), (26, ri s574.2.2)], [], [], 70⟩ k = k ⟨[(1, .one (.cell (tsGraph.leaves g_))), (4, .one (.ow tsI4 s574.1 (.v 4))), (6, ri s574.2.1), (24, rl tsNode g_.2.1), (25, ri (g_.2.1.length : Int)), (26, ri s574.2.2), (27, rb (decide (s574.2.2 < (g_.2.1.length : Int))))], [], [], 70⟩ := by kernel_rfl
def graph_Values_r7_q {β : Type} (g_ : Graph) (s574 : ((List I4) × Int × Int)) (K : Unit → Option β) : Option β := (bif (decide ((0 : Int) ≤ s574.2.2)) then (bif (decide (s574.2.2 < (g_.2.1.length : Int))) then (K ()) else none) else none)
def graph_Values_r7_p (g_ : Graph) (s574 : ((List I4) × Int × Int)) : Option (Unit) := graph_Values_r7_q g_ s574 some
theorem graph_Values_r7_n {β : Type} (g_ : Graph) (s574 : ((List I4) × Int × Int)) (K : Unit → Option β) : graph_Values_r7_q g_ s574 K = (graph_Values_r7_p g_ s574).bind K := (bif_b (bif_b some_b none_b) none_b)
theorem graph_Values_r7 {α : Type} (g_ : Graph) (s574 : ((List I4) × Int × Int)) (k : St → Option α) : P54 1 (bodyOf (bodyOf (bodyOf C54.r.r.r.r.l.r)).r.r.l) ⟨[(1, .one (.cell (tsGraph.leaves g_))), (4, .one (.ow tsI4 s574.1 (.v 4))), (6, ri s574.2.1), (24, rl tsNode g_.2.1), (25, ri (g_.2.1.length : Int)), (26, ri s574.2.2)], [], [], 70⟩ k = Option.bind (graph_Values_r7_p g_ s574) (fun y579 : Unit => k ⟨[(1, .one (.cell (tsGraph.leaves g_))), (4, .one (.ow tsI4 s574.1 (.v 4))), (6, ri s574.2.1), (8, .one (.ref 0 0)), (24, rl tsNode g_.2.1), (25, ri (g_.2.1.length : Int)), (26, ri s574.2.2)], [(tsNode.leaves (gt g_.2.1 s574.2.2 dNode))], [], 70⟩) := Eq.trans (by kernel_rfl) (graph_Values_r7_n g_ s574 _)
theorem graph_Values_r8 {α : Type} (g_ : Graph) (s574 : ((List I4) × Int × Int)) (k : St → Option α) : P54 1 (bodyOf (bodyOf (bodyOf C54.r.r.r.r.l.r)).r.r.l).r ⟨[(1, .one (.cell (tsGraph.leaves g_))), (4, .one (.ow tsI4 s574.1 (.v 4))), (6, ri s574.2.1), (8, .one (.ref 0 0)), (24, rl tsNode g_.2.1), (25, ri (g_.2.1.length : Int)), (26, ri s574.2.2)], [(tsNode.leaves (gt g_.2.1 s574.2.2 dNode))], [], 70⟩ k = Option.bind (graph_picked s574.1 ((gt g_.2.1 s574.2.2 dNode).2.1)) fun y580 : ((List I4) × Bool) => k ⟨[(1, .one (.cell (tsGraph.leaves g_))), (4, .one (.ow tsI4 s574.1 (.v 4))), (6, ri s574.2.1), (8, .one (.ref 0 0)), (9, .one (.ow tsI4 y580.1 (.v 9))), (10, rb y580.2), (24, rl tsNode g_.2.1), (25, ri (g_.2.1.length : Int)), (26, ri s574.2.2)], [(tsNode.leaves (gt g_.2.1 s574.2.2 dNode))], [], 70⟩ := by kernel_rfl
theorem graph_Values_f1000010 {α : Type} (g_ : Graph) (s574 : ((List I4) × Int × Int)) (y580 : ((List I4) × Bool)) (k : St → Option α) : P54 1 (bodyOf (bodyOf (bodyOf C54.r.r.r.r.l.r)).r.r.l).r.r.l ⟨[(1, .one (.cell (tsGraph.leaves g_))), (4, .one (.ow tsI4 s574.1 (.v 4))), (6, ri s574.2.1), (8, .one (.ref 0 0)), (9, .one (.ow tsI4 y580.1 (.v 9))), (10, rb y580.2), (24, rl tsNode g_.2.1), (25, ri (g_.2.1.length : Int)), (26, ri s574.2.2)], [(tsNode.leaves (gt g_.2.1 s574.2.2 dNode))], [], 70⟩ k = k ⟨[(1, .one (.cell (tsGraph.leaves g_))), (4, .one (.ow tsI4 s574.1 (.v 4))), (6, ri s574.2.1), (8, .one (.ref 0 0)), (9, .one (.ow tsI4 y580.1 (.v 9))), (24, rl tsNode g_.2.1), (25, ri (g_.2.1.length : Int)), (26, ri s574.2.2), (38, rb (!y580.2))], [(tsNode.leaves (gt g_.2.1 s574.2.2 dNode))], [], 70⟩ := by kernel_rfl
theorem graph_Values_fzx2 {α : Type} (g_ : Graph) (s574 : ((List I4) × Int × Int)) (y580 : ((List I4) × Bool)) (k : St → Option α) : P54 1 (bodyOf (bodyOf (bodyOf C54.r.r.r.r.l.r)).r.r.l).r.r.l.r.t ⟨[(1, .one (.cell (tsGraph.leaves g_))), (4, .one (.ow tsI4 s574.1 (.v 4))), (6, ri s574.2.1), (8, .one (.ref 0 0)), (9, .one (.ow tsI4 y580.1 (.v 9))), (24, rl tsNode g_.2.1), (25, ri (g_.2.1.length : Int)), (26, ri s574.2.2)], [(tsNode.leaves (gt g_.2.1 s574.2.2 dNode))], [], 70⟩ k = k ⟨[(2, .one (.ow tsI4 [] (.v 2))), (3, ri (13 : Int))], [[]], [], 70⟩ := by kernel_rfl
theorem graph_Values_r11 {α : Type} (g_ : Graph) (s574 : ((List I4) × Int × Int)) (y580 : ((List I4) × Bool)) (k : St → Option α) : P54 1 (bodyOf (bodyOf (bodyOf C54.r.r.r.r.l.r)).r.r.l).r.r.r ⟨[(1, .one (.cell (tsGraph.leaves g_))), (4, .one (.ow tsI4 s574.1 (.v 4))), (6, ri s574.2.1), (8, .one (.ref 0 0)), (9, .one (.ow tsI4 y580.1 (.v 9))), (24, rl tsNode g_.2.1), (25, ri (g_.2.1.length : Int)), (26, ri s574.2.2)], [(tsNode.leaves (gt g_.2.1 s574.2.2 dNode))], [], 70⟩ k = Option.bind (graph_Value (gt g_.2.1 s574.2.2 dNode) y580.1) fun y581 : (I4 × Int) => k ⟨[(1, .one (.cell (tsGraph.leaves g_))), (4, .one (.ow tsI4 s574.1 (.v 4))), (6, ri s574.2.1), (8, .one (.ref 0 0)), (11, .one (.ref 1 0)), (12, ri y581.2), (24, rl tsNode g_.2.1), (25, ri (g_.2.1.length : Int)), (26, ri s574.2.2)], [(tsNode.leaves (gt g_.2.1 s574.2.2 dNode)), (tsI4.leaves y581.1)], [], 70⟩ := by kernel_rfl
theorem graph_Values_f1000013 {α : Type} (g_ : Graph) (s574 : ((List I4) × Int × Int)) (y581 : (I4 × Int)) (k : St → Option α) : P54 1 (bodyOf (bodyOf (bodyOf C54.r.r.r.r.l.r)).r.r.l).r.r.r.r.l ⟨[(1, .one (.cell (tsGraph.leaves g_))), (4, .one (.ow tsI4 s574.1 (.v 4))), (6, ri s574.2.1), (8, .one (.ref 0 0)), (11, .one (.ref 1 0)), (12, ri y581.2), (24, rl tsNode g_.2.1), (25, ri (g_.2.1.length : Int)), (26, ri s574.2.2)], [(tsNode.leaves (gt g_.2.1 s574.2.2 dNode)), (tsI4.leaves y581.1)], [], 70⟩ k = k ⟨[(1, .one (.cell (tsGraph.leaves g_))), (4, .one (.ow tsI4 s574.1 (.v 4))), (6, ri s574.2.1), (8, .one (.ref 0 0)), (11, .one (.ref 1 0)), (12, ri y581.2), (24, rl tsNode g_.2.1), (25, ri (g_.2.1.length : Int)), (26, ri s574.2.2), (46, rb (y581.2 != (0 : Int)))], [(tsNode.leaves (gt g_.2.1 s574.2.2 dNode)), (tsI4.leaves y581.1)], [], 70⟩ := by kernel_rfl
theorem graph_Values_fzx3 {α : Type} (g_ : Graph) (s574 : ((List I4) × Int × Int)) (y581 : (I4 × Int)) (k : St → Option α) : P54 1 (bodyOf (bodyOf (bodyOf C54.r.r.r.r.l.r)).r.r.l).r.r.r.r.l.r.t ⟨[(1, .one (.cell (tsGraph.leaves g_))), (4, .one (.ow tsI4 s574.1 (.v 4))), (6, ri s574.2.1), (8, .one (.ref 0 0)), (11, .one (.ref 1 0)), (12, ri y581.2), (24, rl tsNode g_.2.1), (25, ri (g_.2.1.length : Int)), (26, ri s574.2.2)], [(tsNode.leaves (gt g_.2.1 s574.2.2 dNode)), (tsI4.leaves y581.1)], [], 70⟩ k = k ⟨[(2, .one (.ow tsI4 [] (.v 2))), (3, ri y581.2)], [[], []], [], 70⟩ := by kernel_rfl
def graph_Values_r14_q {β : Type} (g_ : Graph) (s574 : ((List I4) × Int × Int)) (y581 : (I4 × Int)) (K : Int → Option β) : Option β := (bif (decide (s574.1.length + ([y581.1] : List I4).length ≤ maxL)) then (K (IntKind.wrap .i64 (s574.2.1 + (((gt g_.2.1 s574.2.2 dNode).2.2.2.2.2.2.2.2.2.2.2.2.1).length : Int)))) else none)
def graph_Values_r14_p (g_ : Graph) (s574 : ((List I4) × Int × Int)) (y581 : (I4 × Int)) : Option (Int) := graph_Values_r14_q g_ s574 y581 some
theorem graph_Values_r14_n {β : Type} (g_ : Graph) (s574 : ((List I4) × Int × Int)) (y581 : (I4 × Int)) (K : Int → Option β) : graph_Values_r14_q g_ s574 y581 K = (graph_Values_r14_p g_ s574 y581).bind K := (bif_b some_b none_b)
theorem graph_Values_r14 {α : Type} (g_ : Graph) (s574 : ((List I4) × Int × Int)) (y581 : (I4 × Int)) (k : Kont α) : R54 (bodyOf (bodyOf (bodyOf C54.r.r.r.r.l.r)).r.r.l).r.r.r.r.r ⟨[(1, .one (.cell (tsGraph.leaves g_))), (4, .one (.ow tsI4 s574.1 (.v 4))), (6, ri s574.2.1), (8, .one (.ref 0 0)), (11, .one (.ref 1 0)), (24, rl tsNode g_.2.1), (25, ri (g_.2.1.length : Int)), (26, ri s574.2.2)], [(tsNode.leaves (gt g_.2.1 s574.2.2 dNode)), (tsI4.leaves y581.1)], [], 70⟩ k = Option.bind (graph_Values_r14_p g_ s574 y581) (fun y582 : Int => k .normal ⟨[(1, .one (.cell (tsGraph.leaves g_))), (4, .one (.ow tsI4 (s574.1 ++ [y581.1]) (.v 4))), (6, ri y582), (24, rl tsNode g_.2.1), (25, ri (g_.2.1.length : Int)), (26, ri s574.2.2)], [[], []], [], 70⟩) := Eq.trans (by kernel_rfl) (graph_Values_r14_n g_ s574 y581 _)
theorem graph_Values_r15 {α : Type} (g_ : Graph) (s574 : ((List I4) × Int × Int)) (y581 : (I4 × Int)) (y582 : Int) (k : Kont α) : R54 (bodyOf (bodyOf C54.r.r.r.r.l.r)).r.r.r ⟨[(1, .one (.cell (tsGraph.leaves g_))), (4, .one (.ow tsI4 (s574.1 ++ [y581.1]) (.v 4))), (6, ri y582), (24, rl tsNode g_.2.1), (25, ri (g_.2.1.length : Int)), (26, ri s574.2.2)], [[], []], [], 70⟩ k = k .normal ⟨[(1, .one (.cell (tsGraph.leaves g_))), (4, .one (.ow tsI4 (s574.1 ++ [y581.1]) (.v 4))), (6, ri y582), (24, rl tsNode g_.2.1), (25, ri (g_.2.1.length : Int)), (26, ri (IntKind.wrap .i64 (s574.2.2 + (1 : Int))))], [[], []], [], 70⟩ := by kernel_rfl
def graph_Values_l6_q {β : Type} (g_ : Graph) (s574 : ((List I4) × Int × Int)) (K0 : ((List I4) × Int × Int) → Option β) (K1 : ((List I4) × Int × Int) → Option β) (K2 : Unit → Option β) (K3 : Int → Option β) : Option β := (bif (decide (s574.2.2 < (g_.2.1.length : Int))) then (Option.bind (graph_Values_r7_p g_ s574) (fun y579 : Unit => (Option.bind (graph_picked s574.1 ((gt g_.2.1 s574.2.2 dNode).2.1)) (fun y580 : ((List I4) × Bool) => (bif (!y580.2) then (K2 ()) else (Option.bind (graph_Value (gt g_.2.1 s574.2.2 dNode) y580.1) (fun y581 : (I4 × Int) => (bif (y581.2 != (0 : Int)) then (K3 y581.2) else (Option.bind (graph_Values_r14_p g_ s574 y581) (fun y582 : Int => (K0 ((s574.1 ++ [y581.1]), y582, (IntKind.wrap .i64 (s574.2.2 + (1 : Int))))))))))))))) else (K1 s574))
def graph_Values_l6_p (g_ : Graph) (s574 : ((List I4) × Int × Int)) : Option (((List I4) × Int × Int) ⊕ (((List I4) × Int × Int) ⊕ (Unit ⊕ Int))) := graph_Values_l6_q g_ s574 (fun y => some (Sum.inl y)) (fun y => some (Sum.inr (Sum.inl y))) (fun y => some (Sum.inr (Sum.inr (Sum.inl y)))) (fun y => some (Sum.inr (Sum.inr (Sum.inr y))))
theorem graph_Values_l6_n {β : Type} (g_ : Graph) (s574 : ((List I4) × Int × Int)) (K0 : ((List I4) × Int × Int) → Option β) (K1 : ((List I4) × Int × Int) → Option β) (K2 : Unit → Option β) (K3 : Int → Option β) : graph_Values_l6_q g_ s574 K0 K1 K2 K3 = (graph_Values_l6_p g_ s574).bind (either K0 (either K1 (either K2 K3))) := (bif_b (bind_b fun y579 => (bind_b fun y580 => (bif_b e4_2 (bind_b fun y581 => (bif_b e4_3 (bind_b fun y582 => e4_0)))))) e4_1)
theorem graph_Values_l6_b {α : Type} (g_ : Graph) (s574 : ((List I4) × Int × Int)) (k : Kont α) : R54 (bodyOf (bodyOf C54.r.r.r.r.l.r)) ⟨[(1, .one (.cell (tsGraph.leaves g_))), (4, .one (.ow tsI4 s574.1 (.v 4))), (6, ri s574.2.1), (24, rl tsNode g_.2.1), (25, ri (g_.2.1.length : Int)), (26, ri s574.2.2)], [], [], 70⟩ (loopKont 0 k) = Option.bind (graph_Values_l6_p g_ s574) (either (fun y : ((List I4) × Int × Int) => k .normal ⟨[(1, .one (.cell (tsGraph.leaves g_))), (4, .one (.ow tsI4 y.1 (.v 4))), (6, ri y.2.1), (24, rl tsNode g_.2.1), (25, ri (g_.2.1.length : Int)), (26, ri y.2.2)], [], [], 70⟩) (either (fun y583 : ((List I4) × Int × Int) => k (.exit 0) ⟨[(1, .one (.cell (tsGraph.leaves g_))), (4, .one (.ow tsI4 y583.1 (.v 4))), (6, ri y583.2.1), (24, rl tsNode g_.2.1), (25, ri (g_.2.1.length : Int)), (26, ri y583.2.2)], [], [], 70⟩) (either (fun y584 : Unit => k .ret ⟨[(2, .one (.ow tsI4 [] (.v 2))), (3, ri (13 : Int))], [[]], [], 70⟩) (fun y585 : Int => k .ret ⟨[(2, .one (.ow tsI4 [] (.v 2))), (3, ri y585)], [[], []], [], 70⟩)))) := by
  refine Eq.trans ?_ (graph_Values_l6_n g_ s574 _ _ _ _)
  unfold graph_Values_l6_q
  refine (pre (n := 1) (c' := (bodyOf (bodyOf C54.r.r.r.r.l.r)).r) (by kernel_rfl) (by kernel_rfl) (graph_Values_fzx1 g_ s574 _)).trans ?_
  refine (seq_push (by kernel_rfl)).trans ?_
  refine (cond_eq (b := (decide (s574.2.2 < (g_.2.1.length : Int)))) (st' := ⟨[(1, .one (.cell (tsGraph.leaves g_))), (4, .one (.ow tsI4 s574.1 (.v 4))), (6, ri s574.2.1), (24, rl tsNode g_.2.1), (25, ri (g_.2.1.length : Int)), (26, ri s574.2.2)], [], [], 70⟩) (by kernel_rfl) (by kernel_rfl) (by kernel_rfl)).trans (bif_g ?_ ?_)
  · refine (skip_eq (by kernel_rfl)).trans ?_
    refine (seqC_normal (st' := ⟨[(1, .one (.cell (tsGraph.leaves g_))), (4, .one (.ow tsI4 s574.1 (.v 4))), (6, ri s574.2.1), (24, rl tsNode g_.2.1), (25, ri (g_.2.1.length : Int)), (26, ri s574.2.2)], [], [], 70⟩) (by kernel_rfl)).trans ?_
    refine (seq_push (by kernel_rfl)).trans ?_
    refine (block_push (id := 1) (by kernel_rfl)).trans ?_
    refine (pre (n := 1) (c' := (bodyOf (bodyOf (bodyOf C54.r.r.r.r.l.r)).r.r.l).r) (by kernel_rfl) (by kernel_rfl) (graph_Values_r7 g_ s574 _)).trans (bind_g fun y579 => ?_)
    refine (pre (n := 1) (c' := (bodyOf (bodyOf (bodyOf C54.r.r.r.r.l.r)).r.r.l).r.r) (by kernel_rfl) (by kernel_rfl) (graph_Values_r8 g_ s574 _)).trans (bind_g fun y580 => ?_)
    refine (seq_push (by kernel_rfl)).trans ?_
    refine (pre (n := 1) (c' := (bodyOf (bodyOf (bodyOf C54.r.r.r.r.l.r)).r.r.l).r.r.l.r) (by kernel_rfl) (by kernel_rfl) (graph_Values_f1000010 g_ s574 y580 _)).trans ?_
    refine (cond_eq (b := (!y580.2)) (st' := ⟨[(1, .one (.cell (tsGraph.leaves g_))), (4, .one (.ow tsI4 s574.1 (.v 4))), (6, ri s574.2.1), (8, .one (.ref 0 0)), (9, .one (.ow tsI4 y580.1 (.v 9))), (24, rl tsNode g_.2.1), (25, ri (g_.2.1.length : Int)), (26, ri s574.2.2)], [(tsNode.leaves (gt g_.2.1 s574.2.2 dNode))], [], 70⟩) (by kernel_rfl) (by kernel_rfl) (by kernel_rfl)).trans (bif_g ?_ ?_)
    · refine (pre (n := 1) (c' := (bodyOf (bodyOf (bodyOf C54.r.r.r.r.l.r)).r.r.l).r.r.l.r.t.r) (by kernel_rfl) (by kernel_rfl) (graph_Values_fzx2 g_ s574 y580 _)).trans ?_
      refine (ret_eq (by kernel_rfl)).trans ?_
      refine seqC_ret.trans ?_
      refine block_ret.trans ?_
      refine seqC_ret.trans ?_
      kernel_rfl
    · refine (skip_eq (by kernel_rfl)).trans ?_
      refine (seqC_normal (st' := ⟨[(1, .one (.cell (tsGraph.leaves g_))), (4, .one (.ow tsI4 s574.1 (.v 4))), (6, ri s574.2.1), (8, .one (.ref 0 0)), (9, .one (.ow tsI4 y580.1 (.v 9))), (24, rl tsNode g_.2.1), (25, ri (g_.2.1.length : Int)), (26, ri s574.2.2)], [(tsNode.leaves (gt g_.2.1 s574.2.2 dNode))], [], 70⟩) (by kernel_rfl)).trans ?_
      refine (pre (n := 1) (c' := (bodyOf (bodyOf (bodyOf C54.r.r.r.r.l.r)).r.r.l).r.r.r.r) (by kernel_rfl) (by kernel_rfl) (graph_Values_r11 g_ s574 y580 _)).trans (bind_g fun y581 => ?_)
      refine (seq_push (by kernel_rfl)).trans ?_
      refine (pre (n := 1) (c' := (bodyOf (bodyOf (bodyOf C54.r.r.r.r.l.r)).r.r.l).r.r.r.r.l.r) (by kernel_rfl) (by kernel_rfl) (graph_Values_f1000013 g_ s574 y581 _)).trans ?_
      refine (cond_eq (b := (y581.2 != (0 : Int))) (st' := ⟨[(1, .one (.cell (tsGraph.leaves g_))), (4, .one (.ow tsI4 s574.1 (.v 4))), (6, ri s574.2.1), (8, .one (.ref 0 0)), (11, .one (.ref 1 0)), (12, ri y581.2), (24, rl tsNode g_.2.1), (25, ri (g_.2.1.length : Int)), (26, ri s574.2.2)], [(tsNode.leaves (gt g_.2.1 s574.2.2 dNode)), (tsI4.leaves y581.1)], [], 70⟩) (by kernel_rfl) (by kernel_rfl) (by kernel_rfl)).trans (bif_g ?_ ?_)
      · refine (pre (n := 1) (c' := (bodyOf (bodyOf (bodyOf C54.r.r.r.r.l.r)).r.r.l).r.r.r.r.l.r.t.r) (by kernel_rfl) (by kernel_rfl) (graph_Values_fzx3 g_ s574 y581 _)).trans ?_
        refine (ret_eq (by kernel_rfl)).trans ?_
        refine seqC_ret.trans ?_
        refine block_ret.trans ?_
        refine seqC_ret.trans ?_
        kernel_rfl
      · refine (skip_eq (by kernel_rfl)).trans ?_
        refine (seqC_normal (st' := ⟨[(1, .one (.cell (tsGraph.leaves g_))), (4, .one (.ow tsI4 s574.1 (.v 4))), (6, ri s574.2.1), (8, .one (.ref 0 0)), (11, .one (.ref 1 0)), (24, rl tsNode g_.2.1), (25, ri (g_.2.1.length : Int)), (26, ri s574.2.2)], [(tsNode.leaves (gt g_.2.1 s574.2.2 dNode)), (tsI4.leaves y581.1)], [], 70⟩) (by kernel_rfl)).trans ?_
        refine (graph_Values_r14 g_ s574 y581 _).trans (bind_g fun y582 => ?_)
        refine block_normal.trans ?_
        refine (seqC_normal (st' := ⟨[(1, .one (.cell (tsGraph.leaves g_))), (4, .one (.ow tsI4 (s574.1 ++ [y581.1]) (.v 4))), (6, ri y582), (24, rl tsNode g_.2.1), (25, ri (g_.2.1.length : Int)), (26, ri s574.2.2)], [[], []], [], 70⟩) (by kernel_rfl)).trans ?_
        refine (graph_Values_r15 g_ s574 y581 y582 _).trans ?_
        kernel_rfl
  · refine (exit_eq (j := 0) (by kernel_rfl)).trans ?_
    refine seqC_exit.trans ?_
    kernel_rfl
theorem graph_Values_l6 {α : Type} (g_ : Graph) (y503 : ((List I4) × Int)) (k : Kont α) : R54 (bodyOf C54.r.r.r.r.l.r) ⟨[(1, .one (.cell (tsGraph.leaves g_))), (4, .one (.ow tsI4 y503.1 (.v 4))), (6, ri (0 : Int)), (24, rl tsNode g_.2.1), (25, ri (g_.2.1.length : Int)), (26, ri (0 : Int))], [], [], 70⟩ k = Option.bind (iterN (graph_Values_l6_p g_) LL (y503.1, (0 : Int), (0 : Int))) (either (fun y583 : ((List I4) × Int × Int) => k (.exit 0) ⟨[(1, .one (.cell (tsGraph.leaves g_))), (4, .one (.ow tsI4 y583.1 (.v 4))), (6, ri y583.2.1), (24, rl tsNode g_.2.1), (25, ri (g_.2.1.length : Int)), (26, ri y583.2.2)], [], [], 70⟩) (either (fun y584 : Unit => k .ret ⟨[(2, .one (.ow tsI4 [] (.v 2))), (3, ri (13 : Int))], [[]], [], 70⟩) (fun y585 : Int => k .ret ⟨[(2, .one (.ow tsI4 [] (.v 2))), (3, ri y585)], [[], []], [], 70⟩))) :=
  Eq.trans (by kernel_rfl) (loop_iter3 (S := fun s574 : ((List I4) × Int × Int) => ⟨[(1, .one (.cell (tsGraph.leaves g_))), (4, .one (.ow tsI4 s574.1 (.v 4))), (6, ri s574.2.1), (24, rl tsNode g_.2.1), (25, ri (g_.2.1.length : Int)), (26, ri s574.2.2)], [], [], 70⟩) (Y1 := fun y583 : ((List I4) × Int × Int) => ((.exit 0), ⟨[(1, .one (.cell (tsGraph.leaves g_))), (4, .one (.ow tsI4 y583.1 (.v 4))), (6, ri y583.2.1), (24, rl tsNode g_.2.1), (25, ri (g_.2.1.length : Int)), (26, ri y583.2.2)], [], [], 70⟩)) (Y2 := fun y584 : Unit => (.ret, ⟨[(2, .one (.ow tsI4 [] (.v 2))), (3, ri (13 : Int))], [[]], [], 70⟩)) (Y3 := fun y585 : Int => (.ret, ⟨[(2, .one (.ow tsI4 [] (.v 2))), (3, ri y585)], [[], []], [], 70⟩)) (fun s k => graph_Values_l6_b g_ s k) (fun z => rfl) (fun z => rfl) (fun z => rfl) LL (y503.1, (0 : Int), (0 : Int)))
theorem graph_Values_f1000017 {α : Type} (g_ : Graph) (y583 : ((List I4) × Int × Int)) (k : St → Option α) : P54 1 C54.r.r.r.r.r.l ⟨[(1, .one (.cell (tsGraph.leaves g_))), (4, .one (.ow tsI4 y583.1 (.v 4))), (6, ri y583.2.1)], [], [], 70⟩ k = k ⟨[(1, .one (.cell (tsGraph.leaves g_))), (4, .one (.ow tsI4 y583.1 (.v 4))), (59, rb (decide (y583.2.1 > (4096 : Int))))], [], [], 70⟩ := by kernel_rfl
theorem graph_Values_fzx4 {α : Type} (g_ : Graph) (y583 : ((List I4) × Int × Int)) (k : St → Option α) : P54 1 C54.r.r.r.r.r.l.r.t ⟨[(1, .one (.cell (tsGraph.leaves g_))), (4, .one (.ow tsI4 y583.1 (.v 4)))], [], [], 70⟩ k = k ⟨[(2, .one (.ow tsI4 [] (.v 2))), (3, ri (3 : Int))], [], [], 70⟩ := by kernel_rfl
theorem graph_Values_r18 {α : Type} (g_ : Graph) (y583 : ((List I4) × Int × Int)) (k : St → Option α) : P54 1 C54.r.r.r.r.r.r.l ⟨[(1, .one (.cell (tsGraph.leaves g_))), (4, .one (.ow tsI4 y583.1 (.v 4)))], [], [], 70⟩ k = Option.bind (graph_picked y583.1 g_.2.2) fun y587 : ((List I4) × Bool) => k ⟨[(4, .one (.ow tsI4 y583.1 (.v 4))), (14, rb y587.2)], [], [], 70⟩ := by kernel_rfl
theorem graph_Values_f1000020 {α : Type} (y583 : ((List I4) × Int × Int)) (y587 : ((List I4) × Bool)) (k : St → Option α) : P54 1 C54.r.r.r.r.r.r.l.r ⟨[(4, .one (.ow tsI4 y583.1 (.v 4))), (14, rb y587.2)], [], [], 70⟩ k = k ⟨[(4, .one (.ow tsI4 y583.1 (.v 4))), (68, rb (!y587.2))], [], [], 70⟩ := by kernel_rfl
theorem graph_Values_fzx5 {α : Type} (y583 : ((List I4) × Int × Int)) (k : St → Option α) : P54 1 C54.r.r.r.r.r.r.l.r.r.t ⟨[(4, .one (.ow tsI4 y583.1 (.v 4)))], [], [], 70⟩ k = k ⟨[(2, .one (.ow tsI4 [] (.v 2))), (3, ri (13 : Int))], [], [], 70⟩ := by kernel_rfl
theorem graph_Values_fzx6 {α : Type} (y583 : ((List I4) × Int × Int)) (k : St → Option α) : P54 1 C54.r.r.r.r.r.r.r ⟨[(4, .one (.ow tsI4 y583.1 (.v 4)))], [], [], 70⟩ k = k ⟨[(2, .one (.ow tsI4 y583.1 (.v 4))), (3, ri (0 : Int))], [], [], 70⟩ := by kernel_rfl
/-- quilt/graph.Values -/
def graph_Values_q {β : Type} (g_ : Graph) (K : ((List I4) × Int) → Option β) : Option β := (Option.bind (graph_goesIn g_) (fun y503 : ((List I4) × Int) => (bif (y503.2 != (0 : Int)) then (K ([], y503.2)) else (Option.bind (iterN (graph_Values_l6_p g_) LL (y503.1, (0 : Int), (0 : Int))) (either (fun y583 : ((List I4) × Int × Int) => (bif (decide (y583.2.1 > (4096 : Int))) then (K ([], (3 : Int))) else (Option.bind (graph_picked y583.1 g_.2.2) (fun y587 : ((List I4) × Bool) => (bif (!y587.2) then (K ([], (13 : Int))) else (K (y583.1, (0 : Int)))))))) (either (fun y584 : Unit => (K ([], (13 : Int)))) (fun y585 : Int => (K ([], y585)))))))))
def graph_Values (g_ : Graph) : Option ((List I4) × Int) := graph_Values_q g_ some
theorem graph_Values_n {β : Type} (g_ : Graph) (K : ((List I4) × Int) → Option β) : graph_Values_q g_ K = (graph_Values g_).bind K := (bind_b fun y503 => (bif_b some_b (bind_b (either_b (fun y583 => (bif_b some_b (bind_b fun y587 => (bif_b some_b some_b)))) (either_b (fun y584 => some_b) (fun y585 => some_b))))))
theorem graph_Values_is (g_ : Graph) : stepO E cp54 noE 19 [.agg (tsGraph.leaves g_)] = Option.bind (graph_Values g_) (fun y : ((List I4) × Int) => some (.tup [.one (.ow tsI4 y.1 (.s 0)), ri y.2] : R)) := by
  refine Eq.trans ?_ (graph_Values_n g_ (fun y : ((List I4) × Int) => some (.tup [.one (.ow tsI4 y.1 (.s 0)), ri y.2] : R)))
  refine (stepG_is (nt := 70) (regs := [(0, .agg (tsGraph.leaves g_))]) (by kernel_rfl) (by kernel_rfl)).trans ?_
  unfold graph_Values_q
  refine (pre (n := 2) (c' := C54.r.r) (by kernel_rfl) (by kernel_rfl) (graph_Values_r1 g_ _)).trans (bind_g fun y503 => ?_)
  refine (seq_push (by kernel_rfl)).trans ?_
  refine (pre (n := 1) (c' := C54.r.r.l.r) (by kernel_rfl) (by kernel_rfl) (graph_Values_f1000003 g_ y503 _)).trans ?_
  refine (cond_eq (b := (y503.2 != (0 : Int))) (st' := ⟨[(1, .one (.cell (tsGraph.leaves g_))), (4, .one (.ow tsI4 y503.1 (.v 4))), (5, ri y503.2)], [], [], 70⟩) (by kernel_rfl) (by kernel_rfl) (by kernel_rfl)).trans (bif_g ?_ ?_)
  · refine (pre (n := 1) (c' := C54.r.r.l.r.t.r) (by kernel_rfl) (by kernel_rfl) (graph_Values_fz g_ y503 _)).trans ?_
    refine (ret_eq (by kernel_rfl)).trans ?_
    refine seqC_ret.trans ?_
    kernel_rfl
  · refine (skip_eq (by kernel_rfl)).trans ?_
    refine (seqC_normal (st' := ⟨[(1, .one (.cell (tsGraph.leaves g_))), (4, .one (.ow tsI4 y503.1 (.v 4)))], [], [], 70⟩) (by kernel_rfl)).trans ?_
    refine (pre (n := 1) (c' := C54.r.r.r.r) (by kernel_rfl) (by kernel_rfl) (graph_Values_f5 g_ y503 _)).trans ?_
    refine (seq_push (by kernel_rfl)).trans ?_
    refine (pre (n := 1) (c' := C54.r.r.r.r.l.r) (by kernel_rfl) (by kernel_rfl) (graph_Values_f6 g_ y503 _)).trans ?_
    refine (block_push (id := 0) (by kernel_rfl)).trans ?_
    refine (graph_Values_l6 g_ y503 _).trans (bind_g (either_g (fun y583 => ?_) (either_g (fun y584 => ?_) (fun y585 => ?_))))
    · refine block_same.trans ?_
      refine (seqC_normal (st' := ⟨[(1, .one (.cell (tsGraph.leaves g_))), (4, .one (.ow tsI4 y583.1 (.v 4))), (6, ri y583.2.1)], [], [], 70⟩) (by kernel_rfl)).trans ?_
      refine (seq_push (by kernel_rfl)).trans ?_
      refine (pre (n := 1) (c' := C54.r.r.r.r.r.l.r) (by kernel_rfl) (by kernel_rfl) (graph_Values_f1000017 g_ y583 _)).trans ?_
      refine (cond_eq (b := (decide (y583.2.1 > (4096 : Int)))) (st' := ⟨[(1, .one (.cell (tsGraph.leaves g_))), (4, .one (.ow tsI4 y583.1 (.v 4)))], [], [], 70⟩) (by kernel_rfl) (by kernel_rfl) (by kernel_rfl)).trans (bif_g ?_ ?_)
      · refine (pre (n := 1) (c' := C54.r.r.r.r.r.l.r.t.r) (by kernel_rfl) (by kernel_rfl) (graph_Values_fzx4 g_ y583 _)).trans ?_
        refine (ret_eq (by kernel_rfl)).trans ?_
        refine seqC_ret.trans ?_
        kernel_rfl
      · refine (skip_eq (by kernel_rfl)).trans ?_
        refine (seqC_normal (st' := ⟨[(1, .one (.cell (tsGraph.leaves g_))), (4, .one (.ow tsI4 y583.1 (.v 4)))], [], [], 70⟩) (by kernel_rfl)).trans ?_
        refine (seq_push (by kernel_rfl)).trans ?_
        refine (pre (n := 1) (c' := C54.r.r.r.r.r.r.l.r) (by kernel_rfl) (by kernel_rfl) (graph_Values_r18 g_ y583 _)).trans (bind_g fun y587 => ?_)
        refine (pre (n := 1) (c' := C54.r.r.r.r.r.r.l.r.r) (by kernel_rfl) (by kernel_rfl) (graph_Values_f1000020 y583 y587 _)).trans ?_
        refine (cond_eq (b := (!y587.2)) (st' := ⟨[(4, .one (.ow tsI4 y583.1 (.v 4)))], [], [], 70⟩) (by kernel_rfl) (by kernel_rfl) (by kernel_rfl)).trans (bif_g ?_ ?_)
        · refine (pre (n := 1) (c' := C54.r.r.r.r.r.r.l.r.r.t.r) (by kernel_rfl) (by kernel_rfl) (graph_Values_fzx5 y583 _)).trans ?_
          refine (ret_eq (by kernel_rfl)).trans ?_
          refine seqC_ret.trans ?_
          kernel_rfl
        · refine (skip_eq (by kernel_rfl)).trans ?_
          refine (seqC_normal (st' := ⟨[(4, .one (.ow tsI4 y583.1 (.v 4)))], [], [], 70⟩) (by kernel_rfl)).trans ?_
          refine (pre (n := 1) (c' := C54.r.r.r.r.r.r.r.r) (by kernel_rfl) (by kernel_rfl) (graph_Values_fzx6 y583 _)).trans ?_
          refine (ret_eq (by kernel_rfl)).trans ?_
          kernel_rfl
    · refine block_ret.trans ?_
      refine seqC_ret.trans ?_
      kernel_rfl
    · refine block_ret.trans ?_
      refine seqC_ret.trans ?_
      kernel_rfl
theorem graph_Values_c (x : denL [(.agg tsGraph)]) : stepO E cp54 noE 19 (encL [(.agg tsGraph)] x) = ((fun x => graph_Values x.1) x).bind fun y => some (Po.enc (.tup [(.one (.ow tsI4)), (.one (.g (.int .i64)))]) ((fun y : ((List I4) × Int) => (y.1, y.2, ())) y)) := Eq.mp (by kernel_rfl) (graph_Values_is x.1)
noncomputable def cp55 : CallP := withC cp54 19 [(.agg tsGraph)] (.tup [(.one (.ow tsI4)), (.one (.g (.int .i64)))]) (fun y : ((List I4) × Int) => (y.1, y.2, ())) (fun x => graph_Values x.1)
theorem cp55_ok : PureOK E cp55 := withC_ok cp54_ok (stepO_ok eok cp54_ok noE_ok) fun x => con_of (enc := fun y => Po.enc (.tup [(.one (.ow tsI4)), (.one (.g (.int .i64)))]) ((fun y : ((List I4) × Int) => (y.1, y.2, ())) y)) (graph_Values_c x)
noncomputable abbrev C55 : Code := codeOf E.P 20
noncomputable abbrev P55 {α : Type} (n : Nat) (c : Code) (st : St) (k : St → Option α) : Option α := preK E 20 cp55 noE n c st k
noncomputable abbrev R55 {α : Type} (c : Code) (st : St) (k : Kont α) : Option α := runCode E 20 cp55 noE c st k
noncomputable abbrev Q55 {α : Type} (c : Code) (k : Kont α) : Kont α := seqC E 20 cp55 noE c k
theorem graph_Check_r1 {α : Type} (g_ : Graph) (k : St → Option α) : P55 2 C55 ⟨[(0, .agg (tsGraph.leaves g_))], [], [], 11⟩ k = Option.bind (graph_Values g_) fun y625 : ((List I4) × Int) => k ⟨[(4, ri y625.2)], [], [], 11⟩ := by kernel_rfl
theorem graph_Check_fz {α : Type} (y625 : ((List I4) × Int)) (k : St → Option α) : P55 1 C55.r.r ⟨[(4, ri y625.2)], [], [], 11⟩ k = k ⟨[(2, ri y625.2)], [], [], 11⟩ := by kernel_rfl
/-- quilt/graph.Check -/
def graph_Check_q {β : Type} (g_ : Graph) (K : Int → Option β) : Option β := (Option.bind (graph_Values g_) (fun y625 : ((List I4) × Int) => (K y625.2)))
def graph_Check (g_ : Graph) : Option Int := graph_Check_q g_ some
theorem graph_Check_n {β : Type} (g_ : Graph) (K : Int → Option β) : graph_Check_q g_ K = (graph_Check g_).bind K := (bind_b fun y625 => some_b)
theorem graph_Check_is (g_ : Graph) : stepS E cp55 noE 20 [.agg (tsGraph.leaves g_)] = Option.bind (graph_Check g_) (fun y : Int => some (ri y : R)) := by
  refine Eq.trans ?_ (graph_Check_n g_ (fun y : Int => some (ri y : R)))
  refine (stepG_is (nt := 11) (regs := [(0, .agg (tsGraph.leaves g_))]) (by kernel_rfl) (by kernel_rfl)).trans ?_
  unfold graph_Check_q
  refine (pre (n := 2) (c' := C55.r.r) (by kernel_rfl) (by kernel_rfl) (graph_Check_r1 g_ _)).trans (bind_g fun y625 => ?_)
  refine (pre (n := 1) (c' := C55.r.r.r) (by kernel_rfl) (by kernel_rfl) (graph_Check_fz y625 _)).trans ?_
  refine (ret_eq (by kernel_rfl)).trans ?_
  kernel_rfl
theorem graph_Check_c (x : denL [(.agg tsGraph)]) : stepS E cp55 noE 20 (encL [(.agg tsGraph)] x) = ((fun x => graph_Check x.1) x).bind fun y => some (Po.enc (.one (.one (.g (.int .i64)))) ((fun y : Int => y) y)) := Eq.mp (by kernel_rfl) (graph_Check_is x.1)
noncomputable def cp56 : CallP := withC cp55 20 [(.agg tsGraph)] (.one (.one (.g (.int .i64)))) (fun y : Int => y) (fun x => graph_Check x.1)
theorem cp56_ok : PureOK E cp56 := withC_ok cp55_ok (stepS_ok eok cp55_ok noE_ok) fun x => con_of (enc := fun y => Po.enc (.one (.one (.g (.int .i64)))) ((fun y : Int => y) y)) (graph_Check_c x)
end Go.V.P
