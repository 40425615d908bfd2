/- What functions compute. -/
import Derived.Test.YtcmckbcpeocokaaGs3
namespace Go.V.P
open Go.RowKit Go.V Go.Proofs
set_option linter.unusedVariables false
set_option maxRecDepth 100000
noncomputable abbrev C36 : Code := codeOf E.P 16
noncomputable abbrev P36 {α : Type} (n : Nat) (c : Code) (st : St) (k : St → Option α) : Option α := preK E 16 cp36 noE n c st k
noncomputable abbrev R36 {α : Type} (c : Code) (st : St) (k : Kont α) : Option α := runCode E 16 cp36 noE c st k
noncomputable abbrev Q36 {α : Type} (c : Code) (k : Kont α) : Kont α := seqC E 16 cp36 noE c k
theorem law03_less_f1 {α : Type} (g_ : Graph) (k : St → Option α) : P36 1 C36 ⟨[(0, .agg (tsGraph.leaves g_))], [], [], 45⟩ k = k ⟨[(1, .one (.ref 0 0)), (2, .one (.ref 1 0))], [(tsGraph.leaves g_), [dl tsI4 [], dl tsNode [], dl (.one (.int .i64)) []]], [], 45⟩ := by kernel_rfl
theorem law03_less_f1000002 {α : Type} (g_ : Graph) (k : St → Option α) : P36 1 C36.r.l ⟨[(1, .one (.ref 0 0)), (2, .one (.ref 1 0))], [(tsGraph.leaves g_), [dl tsI4 [], dl tsNode [], dl (.one (.int .i64)) []]], [], 45⟩ k = k ⟨[(1, .one (.ref 0 0)), (2, .one (.ref 1 0)), (8, rb (decide ((g_.1.length : Int) > (6 : Int))))], [(tsGraph.leaves g_), [dl tsI4 [], dl tsNode [], dl (.one (.int .i64)) []]], [], 45⟩ := by kernel_rfl
def law03_less_r2_q {β : Type} (g_ : Graph) (K : Unit → Option β) : Option β := (bif (decide ((6 : Int) ≤ (g_.1.length : Int))) then (K ()) else none)
def law03_less_r2_p (g_ : Graph) : Option (Unit) := law03_less_r2_q g_ some
theorem law03_less_r2_n {β : Type} (g_ : Graph) (K : Unit → Option β) : law03_less_r2_q g_ K = (law03_less_r2_p g_).bind K := (bif_b some_b none_b)
theorem law03_less_r2 {α : Type} (g_ : Graph) (k : Kont α) : R36 C36.r.l.r.t ⟨[(1, .one (.ref 0 0)), (2, .one (.ref 1 0))], [(tsGraph.leaves g_), [dl tsI4 [], dl tsNode [], dl (.one (.int .i64)) []]], [], 45⟩ k = Option.bind (law03_less_r2_p g_) (fun y250 : Unit => k .normal ⟨[(1, .one (.ref 0 0)), (2, .one (.ref 1 0))], [[dl tsI4 ((g_.1.take (Int.toNat (6 : Int))).drop (Int.toNat (0 : Int))), dl tsNode g_.2.1, dl (.one (.int .i64)) g_.2.2], [dl tsI4 [], dl tsNode [], dl (.one (.int .i64)) []]], [], 45⟩) := Eq.trans (by kernel_rfl) (law03_less_r2_n g_ _)
def law03_less_j1_q {β : Type} (g_ : Graph) (K : (List I4) → Option β) : Option β := (bif (decide ((g_.1.length : Int) > (6 : Int))) then (Option.bind (law03_less_r2_p g_) (fun y250 : Unit => (K ((g_.1.take (Int.toNat (6 : Int))).drop (Int.toNat (0 : Int)))))) else (K g_.1))
def law03_less_j1_p (g_ : Graph) : Option ((List I4)) := law03_less_j1_q g_ some
theorem law03_less_j1_n {β : Type} (g_ : Graph) (K : (List I4) → Option β) : law03_less_j1_q g_ K = (law03_less_j1_p g_).bind K := (bif_b (bind_b fun y250 => some_b) some_b)
theorem law03_less_j1 {α : Type} (g_ : Graph) (k : Kont α) : R36 C36.r.l ⟨[(1, .one (.ref 0 0)), (2, .one (.ref 1 0))], [(tsGraph.leaves g_), [dl tsI4 [], dl tsNode [], dl (.one (.int .i64)) []]], [], 45⟩ (Q36 C36.r.r k) = Option.bind (law03_less_j1_p g_) (fun y251 : (List I4) => R36 C36.r.r ⟨[(1, .one (.ref 0 0)), (2, .one (.ref 1 0))], [[dl tsI4 y251, dl tsNode g_.2.1, dl (.one (.int .i64)) g_.2.2], [dl tsI4 [], dl tsNode [], dl (.one (.int .i64)) []]], [], 45⟩ k) := by
  refine Eq.trans ?_ (law03_less_j1_n g_ _)
  unfold law03_less_j1_q
  refine (pre (n := 1) (c' := C36.r.l.r) (by kernel_rfl) (by kernel_rfl) (law03_less_f1000002 g_ _)).trans ?_
  refine (cond_eq (b := (decide ((g_.1.length : Int) > (6 : Int)))) (st' := ⟨[(1, .one (.ref 0 0)), (2, .one (.ref 1 0))], [(tsGraph.leaves g_), [dl tsI4 [], dl tsNode [], dl (.one (.int .i64)) []]], [], 45⟩) (by kernel_rfl) (by kernel_rfl) (by kernel_rfl)).trans (bif_g ?_ ?_)
  · refine (law03_less_r2 g_ _).trans (bind_g fun y250 => ?_)
    refine (seqC_normal (st' := ⟨[(1, .one (.ref 0 0)), (2, .one (.ref 1 0))], [[dl tsI4 ((g_.1.take (Int.toNat (6 : Int))).drop (Int.toNat (0 : Int))), dl tsNode g_.2.1, dl (.one (.int .i64)) g_.2.2], [dl tsI4 [], dl tsNode [], dl (.one (.int .i64)) []]], [], 45⟩) (by kernel_rfl)).trans ?_
    kernel_rfl
  · refine (skip_eq (by kernel_rfl)).trans ?_
    refine (seqC_normal (st' := ⟨[(1, .one (.ref 0 0)), (2, .one (.ref 1 0))], [(tsGraph.leaves g_), [dl tsI4 [], dl tsNode [], dl (.one (.int .i64)) []]], [], 45⟩) (by kernel_rfl)).trans ?_
    kernel_rfl
theorem law03_less_f1000004 {α : Type} (g_ : Graph) (y251 : (List I4)) (k : St → Option α) : P36 1 C36.r.r.l ⟨[(1, .one (.ref 0 0)), (2, .one (.ref 1 0))], [[dl tsI4 y251, dl tsNode g_.2.1, dl (.one (.int .i64)) g_.2.2], [dl tsI4 [], dl tsNode [], dl (.one (.int .i64)) []]], [], 45⟩ k = k ⟨[(1, .one (.ref 0 0)), (2, .one (.ref 1 0)), (16, rb (decide ((g_.2.2.length : Int) > (6 : Int))))], [[dl tsI4 y251, dl tsNode g_.2.1, dl (.one (.int .i64)) g_.2.2], [dl tsI4 [], dl tsNode [], dl (.one (.int .i64)) []]], [], 45⟩ := by kernel_rfl
def law03_less_r4_q {β : Type} (g_ : Graph) (K : Unit → Option β) : Option β := (bif (decide ((6 : Int) ≤ (g_.2.2.length : Int))) then (K ()) else none)
def law03_less_r4_p (g_ : Graph) : Option (Unit) := law03_less_r4_q g_ some
theorem law03_less_r4_n {β : Type} (g_ : Graph) (K : Unit → Option β) : law03_less_r4_q g_ K = (law03_less_r4_p g_).bind K := (bif_b some_b none_b)
theorem law03_less_r4 {α : Type} (g_ : Graph) (y251 : (List I4)) (k : Kont α) : R36 C36.r.r.l.r.t ⟨[(1, .one (.ref 0 0)), (2, .one (.ref 1 0))], [[dl tsI4 y251, dl tsNode g_.2.1, dl (.one (.int .i64)) g_.2.2], [dl tsI4 [], dl tsNode [], dl (.one (.int .i64)) []]], [], 45⟩ k = Option.bind (law03_less_r4_p g_) (fun y252 : Unit => k .normal ⟨[(1, .one (.ref 0 0)), (2, .one (.ref 1 0))], [[dl tsI4 y251, dl tsNode g_.2.1, dl (.one (.int .i64)) ((g_.2.2.take (Int.toNat (6 : Int))).drop (Int.toNat (0 : Int)))], [dl tsI4 [], dl tsNode [], dl (.one (.int .i64)) []]], [], 45⟩) := Eq.trans (by kernel_rfl) (law03_less_r4_n g_ _)
def law03_less_j3_q {β : Type} (g_ : Graph) (K : (List Int) → Option β) : Option β := (bif (decide ((g_.2.2.length : Int) > (6 : Int))) then (Option.bind (law03_less_r4_p g_) (fun y252 : Unit => (K ((g_.2.2.take (Int.toNat (6 : Int))).drop (Int.toNat (0 : Int)))))) else (K g_.2.2))
def law03_less_j3_p (g_ : Graph) : Option ((List Int)) := law03_less_j3_q g_ some
theorem law03_less_j3_n {β : Type} (g_ : Graph) (K : (List Int) → Option β) : law03_less_j3_q g_ K = (law03_less_j3_p g_).bind K := (bif_b (bind_b fun y252 => some_b) some_b)
theorem law03_less_j3 {α : Type} (g_ : Graph) (y251 : (List I4)) (k : Kont α) : R36 C36.r.r.l ⟨[(1, .one (.ref 0 0)), (2, .one (.ref 1 0))], [[dl tsI4 y251, dl tsNode g_.2.1, dl (.one (.int .i64)) g_.2.2], [dl tsI4 [], dl tsNode [], dl (.one (.int .i64)) []]], [], 45⟩ (Q36 C36.r.r.r k) = Option.bind (law03_less_j3_p g_) (fun y253 : (List Int) => R36 C36.r.r.r ⟨[(1, .one (.ref 0 0)), (2, .one (.ref 1 0))], [[dl tsI4 y251, dl tsNode g_.2.1, dl (.one (.int .i64)) y253], [dl tsI4 [], dl tsNode [], dl (.one (.int .i64)) []]], [], 45⟩ k) := by
  refine Eq.trans ?_ (law03_less_j3_n g_ _)
  unfold law03_less_j3_q
  refine (pre (n := 1) (c' := C36.r.r.l.r) (by kernel_rfl) (by kernel_rfl) (law03_less_f1000004 g_ y251 _)).trans ?_
  refine (cond_eq (b := (decide ((g_.2.2.length : Int) > (6 : Int)))) (st' := ⟨[(1, .one (.ref 0 0)), (2, .one (.ref 1 0))], [[dl tsI4 y251, dl tsNode g_.2.1, dl (.one (.int .i64)) g_.2.2], [dl tsI4 [], dl tsNode [], dl (.one (.int .i64)) []]], [], 45⟩) (by kernel_rfl) (by kernel_rfl) (by kernel_rfl)).trans (bif_g ?_ ?_)
  · refine (law03_less_r4 g_ y251 _).trans (bind_g fun y252 => ?_)
    refine (seqC_normal (st' := ⟨[(1, .one (.ref 0 0)), (2, .one (.ref 1 0))], [[dl tsI4 y251, dl tsNode g_.2.1, dl (.one (.int .i64)) ((g_.2.2.take (Int.toNat (6 : Int))).drop (Int.toNat (0 : Int)))], [dl tsI4 [], dl tsNode [], dl (.one (.int .i64)) []]], [], 45⟩) (by kernel_rfl)).trans ?_
    kernel_rfl
  · refine (skip_eq (by kernel_rfl)).trans ?_
    refine (seqC_normal (st' := ⟨[(1, .one (.ref 0 0)), (2, .one (.ref 1 0))], [[dl tsI4 y251, dl tsNode g_.2.1, dl (.one (.int .i64)) g_.2.2], [dl tsI4 [], dl tsNode [], dl (.one (.int .i64)) []]], [], 45⟩) (by kernel_rfl)).trans ?_
    kernel_rfl
theorem law03_less_f6 {α : Type} (g_ : Graph) (y251 : (List I4)) (y253 : (List Int)) (k : St → Option α) : P36 1 C36.r.r.r ⟨[(1, .one (.ref 0 0)), (2, .one (.ref 1 0))], [[dl tsI4 y251, dl tsNode g_.2.1, dl (.one (.int .i64)) y253], [dl tsI4 [], dl tsNode [], dl (.one (.int .i64)) []]], [], 45⟩ k = k ⟨[(1, .one (.ref 0 0)), (2, .one (.ref 1 0)), (3, .one (.ow tsNode [] (.v 3)))], [[dl tsI4 y251, dl tsNode g_.2.1, dl (.one (.int .i64)) y253], [dl tsI4 [], dl tsNode [], dl (.one (.int .i64)) []]], [], 45⟩ := by kernel_rfl
theorem law03_less_f7 {α : Type} (g_ : Graph) (y251 : (List I4)) (y253 : (List Int)) (k : St → Option α) : P36 1 C36.r.r.r.r.l ⟨[(1, .one (.ref 0 0)), (2, .one (.ref 1 0)), (3, .one (.ow tsNode [] (.v 3)))], [[dl tsI4 y251, dl tsNode g_.2.1, dl (.one (.int .i64)) y253], [dl tsI4 [], dl tsNode [], dl (.one (.int .i64)) []]], [], 45⟩ k = k ⟨[(1, .one (.ref 0 0)), (2, .one (.ref 1 0)), (3, .one (.ow tsNode [] (.v 3))), (4, ri (0 : Int))], [[dl tsI4 y251, dl tsNode g_.2.1, dl (.one (.int .i64)) y253], [dl tsI4 [], dl tsNode [], dl (.one (.int .i64)) []]], [], 45⟩ := by kernel_rfl
def law03_less_r7_q {β : Type} (g_ : Graph) (s282 : ((List Node) × Int)) (K : Bool → β) : β := (bif (decide (s282.2 < (g_.2.1.length : Int))) then (K (decide (s282.2 < (14 : Int)))) else (K false))
def law03_less_r7_p (g_ : Graph) (s282 : ((List Node) × Int)) : Bool := law03_less_r7_q g_ s282 (fun y => y)
theorem law03_less_r7_n {β : Type} (g_ : Graph) (s282 : ((List Node) × Int)) (K : Bool → β) : law03_less_r7_q g_ s282 K = K (law03_less_r7_p g_ s282) := (bif_k K rfl rfl)
theorem law03_less_r7 {α : Type} (g_ : Graph) (y251 : (List I4)) (y253 : (List Int)) (s282 : ((List Node) × Int)) (k : St → Option α) : P36 1 (bodyOf (bodyOf C36.r.r.r.r.l.r)).l ⟨[(1, .one (.ref 0 0)), (2, .one (.ref 1 0)), (3, .one (.ow tsNode s282.1 (.v 3))), (4, ri s282.2)], [[dl tsI4 y251, dl tsNode g_.2.1, dl (.one (.int .i64)) y253], [dl tsI4 [], dl tsNode [], dl (.one (.int .i64)) []]], [], 45⟩ k = k ⟨[(1, .one (.ref 0 0)), (2, .one (.ref 1 0)), (3, .one (.ow tsNode s282.1 (.v 3))), (4, ri s282.2), (30, rb (law03_less_r7_p g_ s282))], [[dl tsI4 y251, dl tsNode g_.2.1, dl (.one (.int .i64)) y253], [dl tsI4 [], dl tsNode [], dl (.one (.int .i64)) []]], [], 45⟩ := Eq.trans (by kernel_rfl) (law03_less_r7_n g_ s282 (fun y284 : Bool => k ⟨[(1, .one (.ref 0 0)), (2, .one (.ref 1 0)), (3, .one (.ow tsNode s282.1 (.v 3))), (4, ri s282.2), (30, rb y284)], [[dl tsI4 y251, dl tsNode g_.2.1, dl (.one (.int .i64)) y253], [dl tsI4 [], dl tsNode [], dl (.one (.int .i64)) []]], [], 45⟩))
def law03_less_r9_q {β : Type} (g_ : Graph) (s282 : ((List Node) × Int)) (K : (List Node) → Option β) : Option β := (bif (decide ((0 : Int) ≤ s282.2)) then (bif (decide (s282.2 < (g_.2.1.length : Int))) then (Option.bind (law03_few (gt g_.2.1 s282.2 dNode)) (fun y287 : Node => (bif (decide (s282.1.length + ([y287] : List Node).length ≤ maxL)) then (K (s282.1 ++ [y287])) else none))) else none) else none)
def law03_less_r9_p (g_ : Graph) (s282 : ((List Node) × Int)) : Option ((List Node)) := law03_less_r9_q g_ s282 some
theorem law03_less_r9_n {β : Type} (g_ : Graph) (s282 : ((List Node) × Int)) (K : (List Node) → Option β) : law03_less_r9_q g_ s282 K = (law03_less_r9_p g_ s282).bind K := (bif_b (bif_b (bind_b fun y287 => (bif_b some_b none_b)) none_b) none_b)
theorem law03_less_r9 {α : Type} (g_ : Graph) (y251 : (List I4)) (y253 : (List Int)) (s282 : ((List Node) × Int)) (k : Kont α) : R36 (bodyOf (bodyOf (bodyOf C36.r.r.r.r.l.r)).r.l) ⟨[(1, .one (.ref 0 0)), (2, .one (.ref 1 0)), (3, .one (.ow tsNode s282.1 (.v 3))), (4, ri s282.2)], [[dl tsI4 y251, dl tsNode g_.2.1, dl (.one (.int .i64)) y253], [dl tsI4 [], dl tsNode [], dl (.one (.int .i64)) []]], [], 45⟩ k = Option.bind (law03_less_r9_p g_ s282) (fun y288 : (List Node) => k .normal ⟨[(1, .one (.ref 0 0)), (2, .one (.ref 1 0)), (3, .one (.ow tsNode y288 (.v 3))), (4, ri s282.2)], [[dl tsI4 y251, dl tsNode g_.2.1, dl (.one (.int .i64)) y253], [dl tsI4 [], dl tsNode [], dl (.one (.int .i64)) []]], [], 45⟩) := Eq.trans (by kernel_rfl) (law03_less_r9_n g_ s282 _)
theorem law03_less_r8 {α : Type} (g_ : Graph) (y251 : (List I4)) (y253 : (List Int)) (s282 : ((List Node) × Int)) (y288 : (List Node)) (k : Kont α) : R36 (bodyOf (bodyOf C36.r.r.r.r.l.r)).r.r ⟨[(1, .one (.ref 0 0)), (2, .one (.ref 1 0)), (3, .one (.ow tsNode y288 (.v 3))), (4, ri s282.2)], [[dl tsI4 y251, dl tsNode g_.2.1, dl (.one (.int .i64)) y253], [dl tsI4 [], dl tsNode [], dl (.one (.int .i64)) []]], [], 45⟩ k = k .normal ⟨[(1, .one (.ref 0 0)), (2, .one (.ref 1 0)), (3, .one (.ow tsNode y288 (.v 3))), (4, ri (IntKind.wrap .i64 (s282.2 + (1 : Int))))], [[dl tsI4 y251, dl tsNode g_.2.1, dl (.one (.int .i64)) y253], [dl tsI4 [], dl tsNode [], dl (.one (.int .i64)) []]], [], 45⟩ := by kernel_rfl
def law03_less_l7_q {β : Type} (g_ : Graph) (s282 : ((List Node) × Int)) (K0 : ((List Node) × Int) → Option β) (K1 : ((List Node) × Int) → Option β) : Option β := (bif (law03_less_r7_p g_ s282) then (Option.bind (law03_less_r9_p g_ s282) (fun y288 : (List Node) => (K0 (y288, (IntKind.wrap .i64 (s282.2 + (1 : Int))))))) else (K1 s282))
def law03_less_l7_p (g_ : Graph) (s282 : ((List Node) × Int)) : Option (((List Node) × Int) ⊕ (((List Node) × Int))) := law03_less_l7_q g_ s282 (fun y => some (Sum.inl y)) (fun y => some (Sum.inr y))
theorem law03_less_l7_n {β : Type} (g_ : Graph) (s282 : ((List Node) × Int)) (K0 : ((List Node) × Int) → Option β) (K1 : ((List Node) × Int) → Option β) : law03_less_l7_q g_ s282 K0 K1 = (law03_less_l7_p g_ s282).bind (either K0 K1) := (bif_b (bind_b fun y288 => e2_0) e2_1)
theorem law03_less_l7_b {α : Type} (g_ : Graph) (y251 : (List I4)) (y253 : (List Int)) (s282 : ((List Node) × Int)) (k : Kont α) : R36 (bodyOf (bodyOf C36.r.r.r.r.l.r)) ⟨[(1, .one (.ref 0 0)), (2, .one (.ref 1 0)), (3, .one (.ow tsNode s282.1 (.v 3))), (4, ri s282.2)], [[dl tsI4 y251, dl tsNode g_.2.1, dl (.one (.int .i64)) y253], [dl tsI4 [], dl tsNode [], dl (.one (.int .i64)) []]], [], 45⟩ (loopKont 2 k) = Option.bind (law03_less_l7_p g_ s282) (either (fun y : ((List Node) × Int) => k .normal ⟨[(1, .one (.ref 0 0)), (2, .one (.ref 1 0)), (3, .one (.ow tsNode y.1 (.v 3))), (4, ri y.2)], [[dl tsI4 y251, dl tsNode g_.2.1, dl (.one (.int .i64)) y253], [dl tsI4 [], dl tsNode [], dl (.one (.int .i64)) []]], [], 45⟩) (fun y289 : ((List Node) × Int) => k (.exit 0) ⟨[(1, .one (.ref 0 0)), (2, .one (.ref 1 0)), (3, .one (.ow tsNode y289.1 (.v 3))), (4, ri y289.2)], [[dl tsI4 y251, dl tsNode g_.2.1, dl (.one (.int .i64)) y253], [dl tsI4 [], dl tsNode [], dl (.one (.int .i64)) []]], [], 45⟩)) := by
  refine Eq.trans ?_ (law03_less_l7_n g_ s282 _ _)
  unfold law03_less_l7_q
  refine (seq_push (by kernel_rfl)).trans ?_
  refine (pre (n := 1) (c' := (bodyOf (bodyOf C36.r.r.r.r.l.r)).l.r) (by kernel_rfl) (by kernel_rfl) (law03_less_r7 g_ y251 y253 s282 _)).trans ?_
  refine (cond_eq (b := (law03_less_r7_p g_ s282)) (st' := ⟨[(1, .one (.ref 0 0)), (2, .one (.ref 1 0)), (3, .one (.ow tsNode s282.1 (.v 3))), (4, ri s282.2)], [[dl tsI4 y251, dl tsNode g_.2.1, dl (.one (.int .i64)) y253], [dl tsI4 [], dl tsNode [], dl (.one (.int .i64)) []]], [], 45⟩) (by kernel_rfl) (by kernel_rfl) (by kernel_rfl)).trans (bif_g ?_ ?_)
  · refine (skip_eq (by kernel_rfl)).trans ?_
    refine (seqC_normal (st' := ⟨[(1, .one (.ref 0 0)), (2, .one (.ref 1 0)), (3, .one (.ow tsNode s282.1 (.v 3))), (4, ri s282.2)], [[dl tsI4 y251, dl tsNode g_.2.1, dl (.one (.int .i64)) y253], [dl tsI4 [], dl tsNode [], dl (.one (.int .i64)) []]], [], 45⟩) (by kernel_rfl)).trans ?_
    refine (seq_push (by kernel_rfl)).trans ?_
    refine (block_push (id := 1) (by kernel_rfl)).trans ?_
    refine (law03_less_r9 g_ y251 y253 s282 _).trans (bind_g fun y288 => ?_)
    refine block_normal.trans ?_
    refine (seqC_normal (st' := ⟨[(1, .one (.ref 0 0)), (2, .one (.ref 1 0)), (3, .one (.ow tsNode y288 (.v 3))), (4, ri s282.2)], [[dl tsI4 y251, dl tsNode g_.2.1, dl (.one (.int .i64)) y253], [dl tsI4 [], dl tsNode [], dl (.one (.int .i64)) []]], [], 45⟩) (by kernel_rfl)).trans ?_
    refine (law03_less_r8 g_ y251 y253 s282 y288 _).trans ?_
    kernel_rfl
  · refine (exit_eq (j := 0) (by kernel_rfl)).trans ?_
    refine seqC_exit.trans ?_
    kernel_rfl
theorem law03_less_l7 {α : Type} (g_ : Graph) (y251 : (List I4)) (y253 : (List Int)) (k : Kont α) : R36 (bodyOf C36.r.r.r.r.l.r) ⟨[(1, .one (.ref 0 0)), (2, .one (.ref 1 0)), (3, .one (.ow tsNode [] (.v 3))), (4, ri (0 : Int))], [[dl tsI4 y251, dl tsNode g_.2.1, dl (.one (.int .i64)) y253], [dl tsI4 [], dl tsNode [], dl (.one (.int .i64)) []]], [], 45⟩ k = Option.bind (iterN (law03_less_l7_p g_) LL ([], (0 : Int))) (fun y289 : ((List Node) × Int) => k (.exit 0) ⟨[(1, .one (.ref 0 0)), (2, .one (.ref 1 0)), (3, .one (.ow tsNode y289.1 (.v 3))), (4, ri y289.2)], [[dl tsI4 y251, dl tsNode g_.2.1, dl (.one (.int .i64)) y253], [dl tsI4 [], dl tsNode [], dl (.one (.int .i64)) []]], [], 45⟩) :=
  Eq.trans (by kernel_rfl) (loop_iter1 (S := fun s282 : ((List Node) × Int) => ⟨[(1, .one (.ref 0 0)), (2, .one (.ref 1 0)), (3, .one (.ow tsNode s282.1 (.v 3))), (4, ri s282.2)], [[dl tsI4 y251, dl tsNode g_.2.1, dl (.one (.int .i64)) y253], [dl tsI4 [], dl tsNode [], dl (.one (.int .i64)) []]], [], 45⟩) (Y1 := fun y289 : ((List Node) × Int) => ((.exit 0), ⟨[(1, .one (.ref 0 0)), (2, .one (.ref 1 0)), (3, .one (.ow tsNode y289.1 (.v 3))), (4, ri y289.2)], [[dl tsI4 y251, dl tsNode g_.2.1, dl (.one (.int .i64)) y253], [dl tsI4 [], dl tsNode [], dl (.one (.int .i64)) []]], [], 45⟩)) (fun s k => law03_less_l7_b g_ y251 y253 s k) (fun z => rfl) LL ([], (0 : Int)))
theorem law03_less_fz {α : Type} (g_ : Graph) (y251 : (List I4)) (y253 : (List Int)) (y289 : ((List Node) × Int)) (k : St → Option α) : P36 2 C36.r.r.r.r.r ⟨[(1, .one (.ref 0 0)), (2, .one (.ref 1 0)), (3, .one (.ow tsNode y289.1 (.v 3)))], [[dl tsI4 y251, dl tsNode g_.2.1, dl (.one (.int .i64)) y253], [dl tsI4 [], dl tsNode [], dl (.one (.int .i64)) []]], [], 45⟩ k = k ⟨[(2, .one (.ref 1 0))], [[], [dl tsI4 y251, dl tsNode y289.1, dl (.one (.int .i64)) y253]], [], 45⟩ := by kernel_rfl
/-- quilt/quiltlaw03.less -/
def law03_less_q {β : Type} (g_ : Graph) (K : Graph → Option β) : Option β := (Option.bind (law03_less_j1_p g_) (fun y251 : (List I4) => (Option.bind (law03_less_j3_p g_) (fun y253 : (List Int) => (Option.bind (iterN (law03_less_l7_p g_) LL ([], (0 : Int))) (fun y289 : ((List Node) × Int) => (K (y251, y289.1, y253))))))))
def law03_less (g_ : Graph) : Option Graph := law03_less_q g_ some
theorem law03_less_n {β : Type} (g_ : Graph) (K : Graph → Option β) : law03_less_q g_ K = (law03_less g_).bind K := (bind_b fun y251 => (bind_b fun y253 => (bind_b fun y289 => some_b)))
theorem law03_less_is (g_ : Graph) : stepS E cp36 noE 16 [.agg (tsGraph.leaves g_)] = Option.bind (law03_less g_) (fun y : Graph => some (.agg (tsGraph.leaves y) : R)) := by
  refine Eq.trans ?_ (law03_less_n g_ (fun y : Graph => some (.agg (tsGraph.leaves y) : R)))
  refine (stepG_is (nt := 45) (regs := [(0, .agg (tsGraph.leaves g_))]) (by kernel_rfl) (by kernel_rfl)).trans ?_
  unfold law03_less_q
  refine (pre (n := 1) (c' := C36.r) (by kernel_rfl) (by kernel_rfl) (law03_less_f1 g_ _)).trans ?_
  refine (seq_push (by kernel_rfl)).trans ?_
  refine (law03_less_j1 g_ _).trans (bind_g fun y251 => ?_)
  refine (seq_push (by kernel_rfl)).trans ?_
  refine (law03_less_j3 g_ y251 _).trans (bind_g fun y253 => ?_)
  refine (pre (n := 1) (c' := C36.r.r.r.r) (by kernel_rfl) (by kernel_rfl) (law03_less_f6 g_ y251 y253 _)).trans ?_
  refine (seq_push (by kernel_rfl)).trans ?_
  refine (pre (n := 1) (c' := C36.r.r.r.r.l.r) (by kernel_rfl) (by kernel_rfl) (law03_less_f7 g_ y251 y253 _)).trans ?_
  refine (block_push (id := 0) (by kernel_rfl)).trans ?_
  refine (law03_less_l7 g_ y251 y253 _).trans (bind_g fun y289 => ?_)
  refine block_same.trans ?_
  refine (seqC_normal (st' := ⟨[(1, .one (.ref 0 0)), (2, .one (.ref 1 0)), (3, .one (.ow tsNode y289.1 (.v 3)))], [[dl tsI4 y251, dl tsNode g_.2.1, dl (.one (.int .i64)) y253], [dl tsI4 [], dl tsNode [], dl (.one (.int .i64)) []]], [], 45⟩) (by kernel_rfl)).trans ?_
  refine (pre (n := 2) (c' := C36.r.r.r.r.r.r.r) (by kernel_rfl) (by kernel_rfl) (law03_less_fz g_ y251 y253 y289 _)).trans ?_
  refine (ret_eq (by kernel_rfl)).trans ?_
  kernel_rfl
theorem law03_less_c (x : denL [(.agg tsGraph)]) : stepS E cp36 noE 16 (encL [(.agg tsGraph)] x) = ((fun x => law03_less x.1) x).bind fun y => some (Po.enc (.one (.agg tsGraph)) ((fun y : Graph => y) y)) := Eq.mp (by kernel_rfl) (law03_less_is x.1)
noncomputable def cp37 : CallP := withC cp36 16 [(.agg tsGraph)] (.one (.agg tsGraph)) (fun y : Graph => y) (fun x => law03_less x.1)
theorem cp37_ok : PureOK E cp37 := withC_ok cp36_ok (stepS_ok eok cp36_ok noE_ok) fun x => con_of (enc := fun y => Po.enc (.one (.agg tsGraph)) ((fun y : Graph => y) y)) (law03_less_c x)
noncomputable abbrev C37 : Code := codeOf E.P 38
noncomputable abbrev P37 {α : Type} (n : Nat) (c : Code) (st : St) (k : St → Option α) : Option α := preK E 38 cp37 noE n c st k
noncomputable abbrev R37 {α : Type} (c : Code) (st : St) (k : Kont α) : Option α := runCode E 38 cp37 noE c st k
noncomputable abbrev Q37 {α : Type} (c : Code) (k : Kont α) : Kont α := seqC E 38 cp37 noE c k
theorem slices_Equalint_int_f1 {α : Type} (s1_ : (List Int)) (s2_ : (List Int)) (k : St → Option α) : P37 1 C37 ⟨[(0, rl (.one (.int .i64)) s1_), (1, rl (.one (.int .i64)) s2_)], [], [], 26⟩ k = k ⟨[(0, rl (.one (.int .i64)) s1_), (1, rl (.one (.int .i64)) s2_)], [], [], 26⟩ := by kernel_rfl
theorem slices_Equalint_int_f1000002 {α : Type} (s1_ : (List Int)) (s2_ : (List Int)) (k : St → Option α) : P37 1 C37.r.l ⟨[(0, rl (.one (.int .i64)) s1_), (1, rl (.one (.int .i64)) s2_)], [], [], 26⟩ k = k ⟨[(0, rl (.one (.int .i64)) s1_), (1, rl (.one (.int .i64)) s2_), (10, rb ((s1_.length : Int) != (s2_.length : Int)))], [], [], 26⟩ := by kernel_rfl
theorem slices_Equalint_int_fz {α : Type} (s1_ : (List Int)) (s2_ : (List Int)) (k : St → Option α) : P37 1 C37.r.l.r.t ⟨[(0, rl (.one (.int .i64)) s1_), (1, rl (.one (.int .i64)) s2_)], [], [], 26⟩ k = k ⟨[(4, rb false)], [], [], 26⟩ := by kernel_rfl
theorem slices_Equalint_int_f4 {α : Type} (s1_ : (List Int)) (s2_ : (List Int)) (k : St → Option α) : P37 1 C37.r.r.l ⟨[(0, rl (.one (.int .i64)) s1_), (1, rl (.one (.int .i64)) s2_)], [], [], 26⟩ k = k ⟨[(0, rl (.one (.int .i64)) s1_), (1, rl (.one (.int .i64)) s2_), (12, ri (s1_.length : Int)), (13, ri (0 : Int))], [], [], 26⟩ := by kernel_rfl
theorem slices_Equalint_int_fzx1 {α : Type} (s1_ : (List Int)) (s2_ : (List Int)) (s306 : Int) (k : St → Option α) : P37 1 (bodyOf (bodyOf C37.r.r.l.r)) ⟨[(0, rl (.one (.int .i64)) s1_), (1, rl (.one (.int .i64)) s2_), (12, ri (s1_.length : Int)), (13, ri s306)], [], [], 26⟩ k = k ⟨[(0, rl (.one (.int .i64)) s1_), (1, rl (.one (.int .i64)) s2_), (12, ri (s1_.length : Int)), (13, ri s306), (14, rb (decide (s306 < (s1_.length : Int))))], [], [], 26⟩ := by kernel_rfl
def slices_Equalint_int_r6_q {β : Type} (s1_ : (List Int)) (s2_ : (List Int)) (s306 : Int) (K : Unit → Option β) : Option β := (bif (decide ((0 : Int) ≤ s306)) then (bif (decide (s306 < (s1_.length : Int))) then (bif (decide ((0 : Int) ≤ s306)) then (bif (decide (s306 < (s2_.length : Int))) then (K ()) else none) else none) else none) else none)
def slices_Equalint_int_r6_p (s1_ : (List Int)) (s2_ : (List Int)) (s306 : Int) : Option (Unit) := slices_Equalint_int_r6_q s1_ s2_ s306 some
theorem slices_Equalint_int_r6_n {β : Type} (s1_ : (List Int)) (s2_ : (List Int)) (s306 : Int) (K : Unit → Option β) : slices_Equalint_int_r6_q s1_ s2_ s306 K = (slices_Equalint_int_r6_p s1_ s2_ s306).bind K := (bif_b (bif_b (bif_b (bif_b some_b none_b) none_b) none_b) none_b)
theorem slices_Equalint_int_r6 {α : Type} (s1_ : (List Int)) (s2_ : (List Int)) (s306 : Int) (k : St → Option α) : P37 2 (bodyOf (bodyOf (bodyOf C37.r.r.l.r)).r.r.l) ⟨[(0, rl (.one (.int .i64)) s1_), (1, rl (.one (.int .i64)) s2_), (12, ri (s1_.length : Int)), (13, ri s306)], [], [], 26⟩ k = Option.bind (slices_Equalint_int_r6_p s1_ s2_ s306) (fun y308 : Unit => k ⟨[(0, rl (.one (.int .i64)) s1_), (1, rl (.one (.int .i64)) s2_), (12, ri (s1_.length : Int)), (13, ri s306), (24, rb ((gt s1_ s306 (0 : Int)) != (gt s2_ s306 (0 : Int))))], [], [], 26⟩) := Eq.trans (by kernel_rfl) (slices_Equalint_int_r6_n s1_ s2_ s306 _)
theorem slices_Equalint_int_fzx2 {α : Type} (s1_ : (List Int)) (s2_ : (List Int)) (s306 : Int) (k : St → Option α) : P37 1 (bodyOf (bodyOf (bodyOf C37.r.r.l.r)).r.r.l).r.r.t ⟨[(0, rl (.one (.int .i64)) s1_), (1, rl (.one (.int .i64)) s2_), (12, ri (s1_.length : Int)), (13, ri s306)], [], [], 26⟩ k = k ⟨[(4, rb false)], [], [], 26⟩ := by kernel_rfl
theorem slices_Equalint_int_r8 {α : Type} (s1_ : (List Int)) (s2_ : (List Int)) (s306 : Int) (k : Kont α) : R37 (bodyOf (bodyOf C37.r.r.l.r)).r.r.r ⟨[(0, rl (.one (.int .i64)) s1_), (1, rl (.one (.int .i64)) s2_), (12, ri (s1_.length : Int)), (13, ri s306)], [], [], 26⟩ k = k .normal ⟨[(0, rl (.one (.int .i64)) s1_), (1, rl (.one (.int .i64)) s2_), (12, ri (s1_.length : Int)), (13, ri (IntKind.wrap .i64 (s306 + (1 : Int))))], [], [], 26⟩ := by kernel_rfl
def slices_Equalint_int_l4_q {β : Type} (s1_ : (List Int)) (s2_ : (List Int)) (s306 : Int) (K0 : Int → Option β) (K1 : Int → Option β) (K2 : Unit → Option β) : Option β := (bif (decide (s306 < (s1_.length : Int))) then (Option.bind (slices_Equalint_int_r6_p s1_ s2_ s306) (fun y308 : Unit => (bif ((gt s1_ s306 (0 : Int)) != (gt s2_ s306 (0 : Int))) then (K2 ()) else (K0 (IntKind.wrap .i64 (s306 + (1 : Int))))))) else (K1 s306))
def slices_Equalint_int_l4_p (s1_ : (List Int)) (s2_ : (List Int)) (s306 : Int) : Option (Int ⊕ (Int ⊕ Unit)) := slices_Equalint_int_l4_q s1_ s2_ s306 (fun y => some (Sum.inl y)) (fun y => some (Sum.inr (Sum.inl y))) (fun y => some (Sum.inr (Sum.inr y)))
theorem slices_Equalint_int_l4_n {β : Type} (s1_ : (List Int)) (s2_ : (List Int)) (s306 : Int) (K0 : Int → Option β) (K1 : Int → Option β) (K2 : Unit → Option β) : slices_Equalint_int_l4_q s1_ s2_ s306 K0 K1 K2 = (slices_Equalint_int_l4_p s1_ s2_ s306).bind (either K0 (either K1 K2)) := (bif_b (bind_b fun y308 => (bif_b e3_2 e3_0)) e3_1)
theorem slices_Equalint_int_l4_b {α : Type} (s1_ : (List Int)) (s2_ : (List Int)) (s306 : Int) (k : Kont α) : R37 (bodyOf (bodyOf C37.r.r.l.r)) ⟨[(0, rl (.one (.int .i64)) s1_), (1, rl (.one (.int .i64)) s2_), (12, ri (s1_.length : Int)), (13, ri s306)], [], [], 26⟩ (loopKont 0 k) = Option.bind (slices_Equalint_int_l4_p s1_ s2_ s306) (either (fun y : Int => k .normal ⟨[(0, rl (.one (.int .i64)) s1_), (1, rl (.one (.int .i64)) s2_), (12, ri (s1_.length : Int)), (13, ri y)], [], [], 26⟩) (either (fun y309 : Int => k (.exit 0) ⟨[(0, rl (.one (.int .i64)) s1_), (1, rl (.one (.int .i64)) s2_), (12, ri (s1_.length : Int)), (13, ri y309)], [], [], 26⟩) (fun y310 : Unit => k .ret ⟨[(4, rb false)], [], [], 26⟩))) := by
  refine Eq.trans ?_ (slices_Equalint_int_l4_n s1_ s2_ s306 _ _ _)
  unfold slices_Equalint_int_l4_q
  refine (pre (n := 1) (c' := (bodyOf (bodyOf C37.r.r.l.r)).r) (by kernel_rfl) (by kernel_rfl) (slices_Equalint_int_fzx1 s1_ s2_ s306 _)).trans ?_
  refine (seq_push (by kernel_rfl)).trans ?_
  refine (cond_eq (b := (decide (s306 < (s1_.length : Int)))) (st' := ⟨[(0, rl (.one (.int .i64)) s1_), (1, rl (.one (.int .i64)) s2_), (12, ri (s1_.length : Int)), (13, ri s306)], [], [], 26⟩) (by kernel_rfl) (by kernel_rfl) (by kernel_rfl)).trans (bif_g ?_ ?_)
  · refine (skip_eq (by kernel_rfl)).trans ?_
    refine (seqC_normal (st' := ⟨[(0, rl (.one (.int .i64)) s1_), (1, rl (.one (.int .i64)) s2_), (12, ri (s1_.length : Int)), (13, ri s306)], [], [], 26⟩) (by kernel_rfl)).trans ?_
    refine (seq_push (by kernel_rfl)).trans ?_
    refine (block_push (id := 1) (by kernel_rfl)).trans ?_
    refine (pre (n := 2) (c' := (bodyOf (bodyOf (bodyOf C37.r.r.l.r)).r.r.l).r.r) (by kernel_rfl) (by kernel_rfl) (slices_Equalint_int_r6 s1_ s2_ s306 _)).trans (bind_g fun y308 => ?_)
    refine (cond_eq (b := ((gt s1_ s306 (0 : Int)) != (gt s2_ s306 (0 : Int)))) (st' := ⟨[(0, rl (.one (.int .i64)) s1_), (1, rl (.one (.int .i64)) s2_), (12, ri (s1_.length : Int)), (13, ri s306)], [], [], 26⟩) (by kernel_rfl) (by kernel_rfl) (by kernel_rfl)).trans (bif_g ?_ ?_)
    · refine (pre (n := 1) (c' := (bodyOf (bodyOf (bodyOf C37.r.r.l.r)).r.r.l).r.r.t.r) (by kernel_rfl) (by kernel_rfl) (slices_Equalint_int_fzx2 s1_ s2_ s306 _)).trans ?_
      refine (ret_eq (by kernel_rfl)).trans ?_
      refine block_ret.trans ?_
      refine seqC_ret.trans ?_
      kernel_rfl
    · refine (skip_eq (by kernel_rfl)).trans ?_
      refine block_normal.trans ?_
      refine (seqC_normal (st' := ⟨[(0, rl (.one (.int .i64)) s1_), (1, rl (.one (.int .i64)) s2_), (12, ri (s1_.length : Int)), (13, ri s306)], [], [], 26⟩) (by kernel_rfl)).trans ?_
      refine (slices_Equalint_int_r8 s1_ s2_ s306 _).trans ?_
      kernel_rfl
  · refine (exit_eq (j := 0) (by kernel_rfl)).trans ?_
    refine seqC_exit.trans ?_
    kernel_rfl
theorem slices_Equalint_int_l4 {α : Type} (s1_ : (List Int)) (s2_ : (List Int)) (k : Kont α) : R37 (bodyOf C37.r.r.l.r) ⟨[(0, rl (.one (.int .i64)) s1_), (1, rl (.one (.int .i64)) s2_), (12, ri (s1_.length : Int)), (13, ri (0 : Int))], [], [], 26⟩ k = Option.bind (iterN (slices_Equalint_int_l4_p s1_ s2_) LL (0 : Int)) (either (fun y309 : Int => k (.exit 0) ⟨[(0, rl (.one (.int .i64)) s1_), (1, rl (.one (.int .i64)) s2_), (12, ri (s1_.length : Int)), (13, ri y309)], [], [], 26⟩) (fun y310 : Unit => k .ret ⟨[(4, rb false)], [], [], 26⟩)) :=
  Eq.trans (by kernel_rfl) (loop_iter2 (S := fun s306 : Int => ⟨[(0, rl (.one (.int .i64)) s1_), (1, rl (.one (.int .i64)) s2_), (12, ri (s1_.length : Int)), (13, ri s306)], [], [], 26⟩) (Y1 := fun y309 : Int => ((.exit 0), ⟨[(0, rl (.one (.int .i64)) s1_), (1, rl (.one (.int .i64)) s2_), (12, ri (s1_.length : Int)), (13, ri y309)], [], [], 26⟩)) (Y2 := fun y310 : Unit => (.ret, ⟨[(4, rb false)], [], [], 26⟩)) (fun s k => slices_Equalint_int_l4_b s1_ s2_ s k) (fun z => rfl) (fun z => rfl) LL (0 : Int))
theorem slices_Equalint_int_fzx3 {α : Type} (k : St → Option α) : P37 1 C37.r.r.r ⟨[], [], [], 26⟩ k = k ⟨[(4, rb true)], [], [], 26⟩ := by kernel_rfl
/-- slices.Equal[[]int,int] -/
def slices_Equalint_int_q {β : Type} (s1_ : (List Int)) (s2_ : (List Int)) (K : Bool → Option β) : Option β := (bif ((s1_.length : Int) != (s2_.length : Int)) then (K false) else (Option.bind (iterN (slices_Equalint_int_l4_p s1_ s2_) LL (0 : Int)) (either (fun y309 : Int => (K true)) (fun y310 : Unit => (K false)))))
def slices_Equalint_int (s1_ : (List Int)) (s2_ : (List Int)) : Option Bool := slices_Equalint_int_q s1_ s2_ some
theorem slices_Equalint_int_n {β : Type} (s1_ : (List Int)) (s2_ : (List Int)) (K : Bool → Option β) : slices_Equalint_int_q s1_ s2_ K = (slices_Equalint_int s1_ s2_).bind K := (bif_b some_b (bind_b (either_b (fun y309 => some_b) (fun y310 => some_b))))
theorem slices_Equalint_int_is (s1_ : (List Int)) (s2_ : (List Int)) : stepS E cp37 noE 38 [rl (.one (.int .i64)) s1_, rl (.one (.int .i64)) s2_] = Option.bind (slices_Equalint_int s1_ s2_) (fun y : Bool => some (rb y : R)) := by
  refine Eq.trans ?_ (slices_Equalint_int_n s1_ s2_ (fun y : Bool => some (rb y : R)))
  refine (stepG_is (nt := 26) (regs := [(0, rl (.one (.int .i64)) s1_), (1, rl (.one (.int .i64)) s2_)]) (by kernel_rfl) (by kernel_rfl)).trans ?_
  unfold slices_Equalint_int_q
  refine (pre (n := 1) (c' := C37.r) (by kernel_rfl) (by kernel_rfl) (slices_Equalint_int_f1 s1_ s2_ _)).trans ?_
  refine (seq_push (by kernel_rfl)).trans ?_
  refine (pre (n := 1) (c' := C37.r.l.r) (by kernel_rfl) (by kernel_rfl) (slices_Equalint_int_f1000002 s1_ s2_ _)).trans ?_
  refine (cond_eq (b := ((s1_.length : Int) != (s2_.length : Int))) (st' := ⟨[(0, rl (.one (.int .i64)) s1_), (1, rl (.one (.int .i64)) s2_)], [], [], 26⟩) (by kernel_rfl) (by kernel_rfl) (by kernel_rfl)).trans (bif_g ?_ ?_)
  · refine (pre (n := 1) (c' := C37.r.l.r.t.r) (by kernel_rfl) (by kernel_rfl) (slices_Equalint_int_fz s1_ s2_ _)).trans ?_
    refine (ret_eq (by kernel_rfl)).trans ?_
    refine seqC_ret.trans ?_
    kernel_rfl
  · refine (skip_eq (by kernel_rfl)).trans ?_
    refine (seqC_normal (st' := ⟨[(0, rl (.one (.int .i64)) s1_), (1, rl (.one (.int .i64)) s2_)], [], [], 26⟩) (by kernel_rfl)).trans ?_
    refine (seq_push (by kernel_rfl)).trans ?_
    refine (pre (n := 1) (c' := C37.r.r.l.r) (by kernel_rfl) (by kernel_rfl) (slices_Equalint_int_f4 s1_ s2_ _)).trans ?_
    refine (block_push (id := 0) (by kernel_rfl)).trans ?_
    refine (slices_Equalint_int_l4 s1_ s2_ _).trans (bind_g (either_g (fun y309 => ?_) (fun y310 => ?_)))
    · refine block_same.trans ?_
      refine (seqC_normal (st' := ⟨[], [], [], 26⟩) (by kernel_rfl)).trans ?_
      refine (pre (n := 1) (c' := C37.r.r.r.r) (by kernel_rfl) (by kernel_rfl) (slices_Equalint_int_fzx3 _)).trans ?_
      refine (ret_eq (by kernel_rfl)).trans ?_
      kernel_rfl
    · refine block_ret.trans ?_
      refine seqC_ret.trans ?_
      kernel_rfl
theorem slices_Equalint_int_c (x : denL [(.one (.g (.sl (.one (.int .i64))))), (.one (.g (.sl (.one (.int .i64)))))]) : stepS E cp37 noE 38 (encL [(.one (.g (.sl (.one (.int .i64))))), (.one (.g (.sl (.one (.int .i64)))))] x) = ((fun x => slices_Equalint_int x.1 x.2.1) x).bind fun y => some (Po.enc (.one (.one (.g .bool))) ((fun y : Bool => y) y)) := Eq.mp (by kernel_rfl) (slices_Equalint_int_is x.1 x.2.1)
noncomputable def cp38 : CallP := withC cp37 38 [(.one (.g (.sl (.one (.int .i64))))), (.one (.g (.sl (.one (.int .i64)))))] (.one (.one (.g .bool))) (fun y : Bool => y) (fun x => slices_Equalint_int x.1 x.2.1)
theorem cp38_ok : PureOK E cp38 := withC_ok cp37_ok (stepS_ok eok cp37_ok noE_ok) fun x => con_of (enc := fun y => Po.enc (.one (.one (.g .bool))) ((fun y : Bool => y) y)) (slices_Equalint_int_c x)
noncomputable abbrev C38 : Code := codeOf E.P 39
noncomputable abbrev P38 {α : Type} (n : Nat) (c : Code) (st : St) (k : St → Option α) : Option α := preK E 39 cp38 noE n c st k
noncomputable abbrev R38 {α : Type} (c : Code) (st : St) (k : Kont α) : Option α := runCode E 39 cp38 noE c st k
noncomputable abbrev Q38 {α : Type} (c : Code) (k : Kont α) : Kont α := seqC E 39 cp38 noE c k
theorem slices_Equalint8_int8_f1 {α : Type} (s1_ : (List Int)) (s2_ : (List Int)) (k : St → Option α) : P38 1 C38 ⟨[(0, rl (.one (.int .i8)) s1_), (1, rl (.one (.int .i8)) s2_)], [], [], 26⟩ k = k ⟨[(0, rl (.one (.int .i8)) s1_), (1, rl (.one (.int .i8)) s2_)], [], [], 26⟩ := by kernel_rfl
theorem slices_Equalint8_int8_f1000002 {α : Type} (s1_ : (List Int)) (s2_ : (List Int)) (k : St → Option α) : P38 1 C38.r.l ⟨[(0, rl (.one (.int .i8)) s1_), (1, rl (.one (.int .i8)) s2_)], [], [], 26⟩ k = k ⟨[(0, rl (.one (.int .i8)) s1_), (1, rl (.one (.int .i8)) s2_), (10, rb ((s1_.length : Int) != (s2_.length : Int)))], [], [], 26⟩ := by kernel_rfl
theorem slices_Equalint8_int8_fz {α : Type} (s1_ : (List Int)) (s2_ : (List Int)) (k : St → Option α) : P38 1 C38.r.l.r.t ⟨[(0, rl (.one (.int .i8)) s1_), (1, rl (.one (.int .i8)) s2_)], [], [], 26⟩ k = k ⟨[(4, rb false)], [], [], 26⟩ := by kernel_rfl
theorem slices_Equalint8_int8_f4 {α : Type} (s1_ : (List Int)) (s2_ : (List Int)) (k : St → Option α) : P38 1 C38.r.r.l ⟨[(0, rl (.one (.int .i8)) s1_), (1, rl (.one (.int .i8)) s2_)], [], [], 26⟩ k = k ⟨[(0, rl (.one (.int .i8)) s1_), (1, rl (.one (.int .i8)) s2_), (12, ri (s1_.length : Int)), (13, ri (0 : Int))], [], [], 26⟩ := by kernel_rfl
theorem slices_Equalint8_int8_fzx1 {α : Type} (s1_ : (List Int)) (s2_ : (List Int)) (s323 : Int) (k : St → Option α) : P38 1 (bodyOf (bodyOf C38.r.r.l.r)) ⟨[(0, rl (.one (.int .i8)) s1_), (1, rl (.one (.int .i8)) s2_), (12, ri (s1_.length : Int)), (13, ri s323)], [], [], 26⟩ k = k ⟨[(0, rl (.one (.int .i8)) s1_), (1, rl (.one (.int .i8)) s2_), (12, ri (s1_.length : Int)), (13, ri s323), (14, rb (decide (s323 < (s1_.length : Int))))], [], [], 26⟩ := by kernel_rfl
def slices_Equalint8_int8_r6_q {β : Type} (s1_ : (List Int)) (s2_ : (List Int)) (s323 : Int) (K : Unit → Option β) : Option β := (bif (decide ((0 : Int) ≤ s323)) then (bif (decide (s323 < (s1_.length : Int))) then (bif (decide ((0 : Int) ≤ s323)) then (bif (decide (s323 < (s2_.length : Int))) then (K ()) else none) else none) else none) else none)
def slices_Equalint8_int8_r6_p (s1_ : (List Int)) (s2_ : (List Int)) (s323 : Int) : Option (Unit) := slices_Equalint8_int8_r6_q s1_ s2_ s323 some
theorem slices_Equalint8_int8_r6_n {β : Type} (s1_ : (List Int)) (s2_ : (List Int)) (s323 : Int) (K : Unit → Option β) : slices_Equalint8_int8_r6_q s1_ s2_ s323 K = (slices_Equalint8_int8_r6_p s1_ s2_ s323).bind K := (bif_b (bif_b (bif_b (bif_b some_b none_b) none_b) none_b) none_b)
theorem slices_Equalint8_int8_r6 {α : Type} (s1_ : (List Int)) (s2_ : (List Int)) (s323 : Int) (k : St → Option α) : P38 2 (bodyOf (bodyOf (bodyOf C38.r.r.l.r)).r.r.l) ⟨[(0, rl (.one (.int .i8)) s1_), (1, rl (.one (.int .i8)) s2_), (12, ri (s1_.length : Int)), (13, ri s323)], [], [], 26⟩ k = Option.bind (slices_Equalint8_int8_r6_p s1_ s2_ s323) (fun y325 : Unit => k ⟨[(0, rl (.one (.int .i8)) s1_), (1, rl (.one (.int .i8)) s2_), (12, ri (s1_.length : Int)), (13, ri s323), (24, rb ((gt s1_ s323 (0 : Int)) != (gt s2_ s323 (0 : Int))))], [], [], 26⟩) := Eq.trans (by kernel_rfl) (slices_Equalint8_int8_r6_n s1_ s2_ s323 _)
theorem slices_Equalint8_int8_fzx2 {α : Type} (s1_ : (List Int)) (s2_ : (List Int)) (s323 : Int) (k : St → Option α) : P38 1 (bodyOf (bodyOf (bodyOf C38.r.r.l.r)).r.r.l).r.r.t ⟨[(0, rl (.one (.int .i8)) s1_), (1, rl (.one (.int .i8)) s2_), (12, ri (s1_.length : Int)), (13, ri s323)], [], [], 26⟩ k = k ⟨[(4, rb false)], [], [], 26⟩ := by kernel_rfl
theorem slices_Equalint8_int8_r8 {α : Type} (s1_ : (List Int)) (s2_ : (List Int)) (s323 : Int) (k : Kont α) : R38 (bodyOf (bodyOf C38.r.r.l.r)).r.r.r ⟨[(0, rl (.one (.int .i8)) s1_), (1, rl (.one (.int .i8)) s2_), (12, ri (s1_.length : Int)), (13, ri s323)], [], [], 26⟩ k = k .normal ⟨[(0, rl (.one (.int .i8)) s1_), (1, rl (.one (.int .i8)) s2_), (12, ri (s1_.length : Int)), (13, ri (IntKind.wrap .i64 (s323 + (1 : Int))))], [], [], 26⟩ := by kernel_rfl
def slices_Equalint8_int8_l4_q {β : Type} (s1_ : (List Int)) (s2_ : (List Int)) (s323 : Int) (K0 : Int → Option β) (K1 : Int → Option β) (K2 : Unit → Option β) : Option β := (bif (decide (s323 < (s1_.length : Int))) then (Option.bind (slices_Equalint8_int8_r6_p s1_ s2_ s323) (fun y325 : Unit => (bif ((gt s1_ s323 (0 : Int)) != (gt s2_ s323 (0 : Int))) then (K2 ()) else (K0 (IntKind.wrap .i64 (s323 + (1 : Int))))))) else (K1 s323))
def slices_Equalint8_int8_l4_p (s1_ : (List Int)) (s2_ : (List Int)) (s323 : Int) : Option (Int ⊕ (Int ⊕ Unit)) := slices_Equalint8_int8_l4_q s1_ s2_ s323 (fun y => some (Sum.inl y)) (fun y => some (Sum.inr (Sum.inl y))) (fun y => some (Sum.inr (Sum.inr y)))
theorem slices_Equalint8_int8_l4_n {β : Type} (s1_ : (List Int)) (s2_ : (List Int)) (s323 : Int) (K0 : Int → Option β) (K1 : Int → Option β) (K2 : Unit → Option β) : slices_Equalint8_int8_l4_q s1_ s2_ s323 K0 K1 K2 = (slices_Equalint8_int8_l4_p s1_ s2_ s323).bind (either K0 (either K1 K2)) := (bif_b (bind_b fun y325 => (bif_b e3_2 e3_0)) e3_1)
theorem slices_Equalint8_int8_l4_b {α : Type} (s1_ : (List Int)) (s2_ : (List Int)) (s323 : Int) (k : Kont α) : R38 (bodyOf (bodyOf C38.r.r.l.r)) ⟨[(0, rl (.one (.int .i8)) s1_), (1, rl (.one (.int .i8)) s2_), (12, ri (s1_.length : Int)), (13, ri s323)], [], [], 26⟩ (loopKont 0 k) = Option.bind (slices_Equalint8_int8_l4_p s1_ s2_ s323) (either (fun y : Int => k .normal ⟨[(0, rl (.one (.int .i8)) s1_), (1, rl (.one (.int .i8)) s2_), (12, ri (s1_.length : Int)), (13, ri y)], [], [], 26⟩) (either (fun y326 : Int => k (.exit 0) ⟨[(0, rl (.one (.int .i8)) s1_), (1, rl (.one (.int .i8)) s2_), (12, ri (s1_.length : Int)), (13, ri y326)], [], [], 26⟩) (fun y327 : Unit => k .ret ⟨[(4, rb false)], [], [], 26⟩))) := by
  refine Eq.trans ?_ (slices_Equalint8_int8_l4_n s1_ s2_ s323 _ _ _)
  unfold slices_Equalint8_int8_l4_q
  refine (pre (n := 1) (c' := (bodyOf (bodyOf C38.r.r.l.r)).r) (by kernel_rfl) (by kernel_rfl) (slices_Equalint8_int8_fzx1 s1_ s2_ s323 _)).trans ?_
  refine (seq_push (by kernel_rfl)).trans ?_
  refine (cond_eq (b := (decide (s323 < (s1_.length : Int)))) (st' := ⟨[(0, rl (.one (.int .i8)) s1_), (1, rl (.one (.int .i8)) s2_), (12, ri (s1_.length : Int)), (13, ri s323)], [], [], 26⟩) (by kernel_rfl) (by kernel_rfl) (by kernel_rfl)).trans (bif_g ?_ ?_)
  · refine (skip_eq (by kernel_rfl)).trans ?_
    refine (seqC_normal (st' := ⟨[(0, rl (.one (.int .i8)) s1_), (1, rl (.one (.int .i8)) s2_), (12, ri (s1_.length : Int)), (13, ri s323)], [], [], 26⟩) (by kernel_rfl)).trans ?_
    refine (seq_push (by kernel_rfl)).trans ?_
    refine (block_push (id := 1) (by kernel_rfl)).trans ?_
    refine (pre (n := 2) (c' := (bodyOf (bodyOf (bodyOf C38.r.r.l.r)).r.r.l).r.r) (by kernel_rfl) (by kernel_rfl) (slices_Equalint8_int8_r6 s1_ s2_ s323 _)).trans (bind_g fun y325 => ?_)
    refine (cond_eq (b := ((gt s1_ s323 (0 : Int)) != (gt s2_ s323 (0 : Int)))) (st' := ⟨[(0, rl (.one (.int .i8)) s1_), (1, rl (.one (.int .i8)) s2_), (12, ri (s1_.length : Int)), (13, ri s323)], [], [], 26⟩) (by kernel_rfl) (by kernel_rfl) (by kernel_rfl)).trans (bif_g ?_ ?_)
    · refine (pre (n := 1) (c' := (bodyOf (bodyOf (bodyOf C38.r.r.l.r)).r.r.l).r.r.t.r) (by kernel_rfl) (by kernel_rfl) (slices_Equalint8_int8_fzx2 s1_ s2_ s323 _)).trans ?_
      refine (ret_eq (by kernel_rfl)).trans ?_
      refine block_ret.trans ?_
      refine seqC_ret.trans ?_
      kernel_rfl
    · refine (skip_eq (by kernel_rfl)).trans ?_
      refine block_normal.trans ?_
      refine (seqC_normal (st' := ⟨[(0, rl (.one (.int .i8)) s1_), (1, rl (.one (.int .i8)) s2_), (12, ri (s1_.length : Int)), (13, ri s323)], [], [], 26⟩) (by kernel_rfl)).trans ?_
      refine (slices_Equalint8_int8_r8 s1_ s2_ s323 _).trans ?_
      kernel_rfl
  · refine (exit_eq (j := 0) (by kernel_rfl)).trans ?_
    refine seqC_exit.trans ?_
    kernel_rfl
theorem slices_Equalint8_int8_l4 {α : Type} (s1_ : (List Int)) (s2_ : (List Int)) (k : Kont α) : R38 (bodyOf C38.r.r.l.r) ⟨[(0, rl (.one (.int .i8)) s1_), (1, rl (.one (.int .i8)) s2_), (12, ri (s1_.length : Int)), (13, ri (0 : Int))], [], [], 26⟩ k = Option.bind (iterN (slices_Equalint8_int8_l4_p s1_ s2_) LL (0 : Int)) (either (fun y326 : Int => k (.exit 0) ⟨[(0, rl (.one (.int .i8)) s1_), (1, rl (.one (.int .i8)) s2_), (12, ri (s1_.length : Int)), (13, ri y326)], [], [], 26⟩) (fun y327 : Unit => k .ret ⟨[(4, rb false)], [], [], 26⟩)) :=
  Eq.trans (by kernel_rfl) (loop_iter2 (S := fun s323 : Int => ⟨[(0, rl (.one (.int .i8)) s1_), (1, rl (.one (.int .i8)) s2_), (12, ri (s1_.length : Int)), (13, ri s323)], [], [], 26⟩) (Y1 := fun y326 : Int => ((.exit 0), ⟨[(0, rl (.one (.int .i8)) s1_), (1, rl (.one (.int .i8)) s2_), (12, ri (s1_.length : Int)), (13, ri y326)], [], [], 26⟩)) (Y2 := fun y327 : Unit => (.ret, ⟨[(4, rb false)], [], [], 26⟩)) (fun s k => slices_Equalint8_int8_l4_b s1_ s2_ s k) (fun z => rfl) (fun z => rfl) LL (0 : Int))
theorem slices_Equalint8_int8_fzx3 {α : Type} (k : St → Option α) : P38 1 C38.r.r.r ⟨[], [], [], 26⟩ k = k ⟨[(4, rb true)], [], [], 26⟩ := by kernel_rfl
/-- slices.Equal[[]int8,int8] -/
def slices_Equalint8_int8_q {β : Type} (s1_ : (List Int)) (s2_ : (List Int)) (K : Bool → Option β) : Option β := (bif ((s1_.length : Int) != (s2_.length : Int)) then (K false) else (Option.bind (iterN (slices_Equalint8_int8_l4_p s1_ s2_) LL (0 : Int)) (either (fun y326 : Int => (K true)) (fun y327 : Unit => (K false)))))
def slices_Equalint8_int8 (s1_ : (List Int)) (s2_ : (List Int)) : Option Bool := slices_Equalint8_int8_q s1_ s2_ some
theorem slices_Equalint8_int8_n {β : Type} (s1_ : (List Int)) (s2_ : (List Int)) (K : Bool → Option β) : slices_Equalint8_int8_q s1_ s2_ K = (slices_Equalint8_int8 s1_ s2_).bind K := (bif_b some_b (bind_b (either_b (fun y326 => some_b) (fun y327 => some_b))))
theorem slices_Equalint8_int8_is (s1_ : (List Int)) (s2_ : (List Int)) : stepS E cp38 noE 39 [rl (.one (.int .i8)) s1_, rl (.one (.int .i8)) s2_] = Option.bind (slices_Equalint8_int8 s1_ s2_) (fun y : Bool => some (rb y : R)) := by
  refine Eq.trans ?_ (slices_Equalint8_int8_n s1_ s2_ (fun y : Bool => some (rb y : R)))
  refine (stepG_is (nt := 26) (regs := [(0, rl (.one (.int .i8)) s1_), (1, rl (.one (.int .i8)) s2_)]) (by kernel_rfl) (by kernel_rfl)).trans ?_
  unfold slices_Equalint8_int8_q
  refine (pre (n := 1) (c' := C38.r) (by kernel_rfl) (by kernel_rfl) (slices_Equalint8_int8_f1 s1_ s2_ _)).trans ?_
  refine (seq_push (by kernel_rfl)).trans ?_
  refine (pre (n := 1) (c' := C38.r.l.r) (by kernel_rfl) (by kernel_rfl) (slices_Equalint8_int8_f1000002 s1_ s2_ _)).trans ?_
  refine (cond_eq (b := ((s1_.length : Int) != (s2_.length : Int))) (st' := ⟨[(0, rl (.one (.int .i8)) s1_), (1, rl (.one (.int .i8)) s2_)], [], [], 26⟩) (by kernel_rfl) (by kernel_rfl) (by kernel_rfl)).trans (bif_g ?_ ?_)
  · refine (pre (n := 1) (c' := C38.r.l.r.t.r) (by kernel_rfl) (by kernel_rfl) (slices_Equalint8_int8_fz s1_ s2_ _)).trans ?_
    refine (ret_eq (by kernel_rfl)).trans ?_
    refine seqC_ret.trans ?_
    kernel_rfl
  · refine (skip_eq (by kernel_rfl)).trans ?_
    refine (seqC_normal (st' := ⟨[(0, rl (.one (.int .i8)) s1_), (1, rl (.one (.int .i8)) s2_)], [], [], 26⟩) (by kernel_rfl)).trans ?_
    refine (seq_push (by kernel_rfl)).trans ?_
    refine (pre (n := 1) (c' := C38.r.r.l.r) (by kernel_rfl) (by kernel_rfl) (slices_Equalint8_int8_f4 s1_ s2_ _)).trans ?_
    refine (block_push (id := 0) (by kernel_rfl)).trans ?_
    refine (slices_Equalint8_int8_l4 s1_ s2_ _).trans (bind_g (either_g (fun y326 => ?_) (fun y327 => ?_)))
    · refine block_same.trans ?_
      refine (seqC_normal (st' := ⟨[], [], [], 26⟩) (by kernel_rfl)).trans ?_
      refine (pre (n := 1) (c' := C38.r.r.r.r) (by kernel_rfl) (by kernel_rfl) (slices_Equalint8_int8_fzx3 _)).trans ?_
      refine (ret_eq (by kernel_rfl)).trans ?_
      kernel_rfl
    · refine block_ret.trans ?_
      refine seqC_ret.trans ?_
      kernel_rfl
theorem slices_Equalint8_int8_c (x : denL [(.one (.g (.sl (.one (.int .i8))))), (.one (.g (.sl (.one (.int .i8)))))]) : stepS E cp38 noE 39 (encL [(.one (.g (.sl (.one (.int .i8))))), (.one (.g (.sl (.one (.int .i8)))))] x) = ((fun x => slices_Equalint8_int8 x.1 x.2.1) x).bind fun y => some (Po.enc (.one (.one (.g .bool))) ((fun y : Bool => y) y)) := Eq.mp (by kernel_rfl) (slices_Equalint8_int8_is x.1 x.2.1)
noncomputable def cp39 : CallP := withC cp38 39 [(.one (.g (.sl (.one (.int .i8))))), (.one (.g (.sl (.one (.int .i8)))))] (.one (.one (.g .bool))) (fun y : Bool => y) (fun x => slices_Equalint8_int8 x.1 x.2.1)
theorem cp39_ok : PureOK E cp39 := withC_ok cp38_ok (stepS_ok eok cp38_ok noE_ok) fun x => con_of (enc := fun y => Po.enc (.one (.one (.g .bool))) ((fun y : Bool => y) y)) (slices_Equalint8_int8_c x)
noncomputable abbrev C39 : Code := codeOf E.P 40
noncomputable abbrev P39 {α : Type} (n : Nat) (c : Code) (st : St) (k : St → Option α) : Option α := preK E 40 cp39 noE n c st k
noncomputable abbrev R39 {α : Type} (c : Code) (st : St) (k : Kont α) : Option α := runCode E 40 cp39 noE c st k
noncomputable abbrev Q39 {α : Type} (c : Code) (k : Kont α) : Kont α := seqC E 40 cp39 noE c k
theorem slices_Equalint32_int32_f1 {α : Type} (s1_ : (List Int)) (s2_ : (List Int)) (k : St → Option α) : P39 1 C39 ⟨[(0, rl (.one (.int .i32)) s1_), (1, rl (.one (.int .i32)) s2_)], [], [], 26⟩ k = k ⟨[(0, rl (.one (.int .i32)) s1_), (1, rl (.one (.int .i32)) s2_)], [], [], 26⟩ := by kernel_rfl
theorem slices_Equalint32_int32_f1000002 {α : Type} (s1_ : (List Int)) (s2_ : (List Int)) (k : St → Option α) : P39 1 C39.r.l ⟨[(0, rl (.one (.int .i32)) s1_), (1, rl (.one (.int .i32)) s2_)], [], [], 26⟩ k = k ⟨[(0, rl (.one (.int .i32)) s1_), (1, rl (.one (.int .i32)) s2_), (10, rb ((s1_.length : Int) != (s2_.length : Int)))], [], [], 26⟩ := by kernel_rfl
theorem slices_Equalint32_int32_fz {α : Type} (s1_ : (List Int)) (s2_ : (List Int)) (k : St → Option α) : P39 1 C39.r.l.r.t ⟨[(0, rl (.one (.int .i32)) s1_), (1, rl (.one (.int .i32)) s2_)], [], [], 26⟩ k = k ⟨[(4, rb false)], [], [], 26⟩ := by kernel_rfl
theorem slices_Equalint32_int32_f4 {α : Type} (s1_ : (List Int)) (s2_ : (List Int)) (k : St → Option α) : P39 1 C39.r.r.l ⟨[(0, rl (.one (.int .i32)) s1_), (1, rl (.one (.int .i32)) s2_)], [], [], 26⟩ k = k ⟨[(0, rl (.one (.int .i32)) s1_), (1, rl (.one (.int .i32)) s2_), (12, ri (s1_.length : Int)), (13, ri (0 : Int))], [], [], 26⟩ := by kernel_rfl
theorem slices_Equalint32_int32_fzx1 {α : Type} (s1_ : (List Int)) (s2_ : (List Int)) (s340 : Int) (k : St → Option α) : P39 1 (bodyOf (bodyOf C39.r.r.l.r)) ⟨[(0, rl (.one (.int .i32)) s1_), (1, rl (.one (.int .i32)) s2_), (12, ri (s1_.length : Int)), (13, ri s340)], [], [], 26⟩ k = k ⟨[(0, rl (.one (.int .i32)) s1_), (1, rl (.one (.int .i32)) s2_), (12, ri (s1_.length : Int)), (13, ri s340), (14, rb (decide (s340 < (s1_.length : Int))))], [], [], 26⟩ := by kernel_rfl
def slices_Equalint32_int32_r6_q {β : Type} (s1_ : (List Int)) (s2_ : (List Int)) (s340 : Int) (K : Unit → Option β) : Option β := (bif (decide ((0 : Int) ≤ s340)) then (bif (decide (s340 < (s1_.length : Int))) then (bif (decide ((0 : Int) ≤ s340)) then (bif (decide (s340 < (s2_.length : Int))) then (K ()) else none) else none) else none) else none)
def slices_Equalint32_int32_r6_p (s1_ : (List Int)) (s2_ : (List Int)) (s340 : Int) : Option (Unit) := slices_Equalint32_int32_r6_q s1_ s2_ s340 some
theorem slices_Equalint32_int32_r6_n {β : Type} (s1_ : (List Int)) (s2_ : (List Int)) (s340 : Int) (K : Unit → Option β) : slices_Equalint32_int32_r6_q s1_ s2_ s340 K = (slices_Equalint32_int32_r6_p s1_ s2_ s340).bind K := (bif_b (bif_b (bif_b (bif_b some_b none_b) none_b) none_b) none_b)
theorem slices_Equalint32_int32_r6 {α : Type} (s1_ : (List Int)) (s2_ : (List Int)) (s340 : Int) (k : St → Option α) : P39 2 (bodyOf (bodyOf (bodyOf C39.r.r.l.r)).r.r.l) ⟨[(0, rl (.one (.int .i32)) s1_), (1, rl (.one (.int .i32)) s2_), (12, ri (s1_.length : Int)), (13, ri s340)], [], [], 26⟩ k = Option.bind (slices_Equalint32_int32_r6_p s1_ s2_ s340) (fun y342 : Unit => k ⟨[(0, rl (.one (.int .i32)) s1_), (1, rl (.one (.int .i32)) s2_), (12, ri (s1_.length : Int)), (13, ri s340), (24, rb ((gt s1_ s340 (0 : Int)) != (gt s2_ s340 (0 : Int))))], [], [], 26⟩) := Eq.trans (by kernel_rfl) (slices_Equalint32_int32_r6_n s1_ s2_ s340 _)
theorem slices_Equalint32_int32_fzx2 {α : Type} (s1_ : (List Int)) (s2_ : (List Int)) (s340 : Int) (k : St → Option α) : P39 1 (bodyOf (bodyOf (bodyOf C39.r.r.l.r)).r.r.l).r.r.t ⟨[(0, rl (.one (.int .i32)) s1_), (1, rl (.one (.int .i32)) s2_), (12, ri (s1_.length : Int)), (13, ri s340)], [], [], 26⟩ k = k ⟨[(4, rb false)], [], [], 26⟩ := by kernel_rfl
theorem slices_Equalint32_int32_r8 {α : Type} (s1_ : (List Int)) (s2_ : (List Int)) (s340 : Int) (k : Kont α) : R39 (bodyOf (bodyOf C39.r.r.l.r)).r.r.r ⟨[(0, rl (.one (.int .i32)) s1_), (1, rl (.one (.int .i32)) s2_), (12, ri (s1_.length : Int)), (13, ri s340)], [], [], 26⟩ k = k .normal ⟨[(0, rl (.one (.int .i32)) s1_), (1, rl (.one (.int .i32)) s2_), (12, ri (s1_.length : Int)), (13, ri (IntKind.wrap .i64 (s340 + (1 : Int))))], [], [], 26⟩ := by kernel_rfl
def slices_Equalint32_int32_l4_q {β : Type} (s1_ : (List Int)) (s2_ : (List Int)) (s340 : Int) (K0 : Int → Option β) (K1 : Int → Option β) (K2 : Unit → Option β) : Option β := (bif (decide (s340 < (s1_.length : Int))) then (Option.bind (slices_Equalint32_int32_r6_p s1_ s2_ s340) (fun y342 : Unit => (bif ((gt s1_ s340 (0 : Int)) != (gt s2_ s340 (0 : Int))) then (K2 ()) else (K0 (IntKind.wrap .i64 (s340 + (1 : Int))))))) else (K1 s340))
def slices_Equalint32_int32_l4_p (s1_ : (List Int)) (s2_ : (List Int)) (s340 : Int) : Option (Int ⊕ (Int ⊕ Unit)) := slices_Equalint32_int32_l4_q s1_ s2_ s340 (fun y => some (Sum.inl y)) (fun y => some (Sum.inr (Sum.inl y))) (fun y => some (Sum.inr (Sum.inr y)))
theorem slices_Equalint32_int32_l4_n {β : Type} (s1_ : (List Int)) (s2_ : (List Int)) (s340 : Int) (K0 : Int → Option β) (K1 : Int → Option β) (K2 : Unit → Option β) : slices_Equalint32_int32_l4_q s1_ s2_ s340 K0 K1 K2 = (slices_Equalint32_int32_l4_p s1_ s2_ s340).bind (either K0 (either K1 K2)) := (bif_b (bind_b fun y342 => (bif_b e3_2 e3_0)) e3_1)
theorem slices_Equalint32_int32_l4_b {α : Type} (s1_ : (List Int)) (s2_ : (List Int)) (s340 : Int) (k : Kont α) : R39 (bodyOf (bodyOf C39.r.r.l.r)) ⟨[(0, rl (.one (.int .i32)) s1_), (1, rl (.one (.int .i32)) s2_), (12, ri (s1_.length : Int)), (13, ri s340)], [], [], 26⟩ (loopKont 0 k) = Option.bind (slices_Equalint32_int32_l4_p s1_ s2_ s340) (either (fun y : Int => k .normal ⟨[(0, rl (.one (.int .i32)) s1_), (1, rl (.one (.int .i32)) s2_), (12, ri (s1_.length : Int)), (13, ri y)], [], [], 26⟩) (either (fun y343 : Int => k (.exit 0) ⟨[(0, rl (.one (.int .i32)) s1_), (1, rl (.one (.int .i32)) s2_), (12, ri (s1_.length : Int)), (13, ri y343)], [], [], 26⟩) (fun y344 : Unit => k .ret ⟨[(4, rb false)], [], [], 26⟩))) := by
  refine Eq.trans ?_ (slices_Equalint32_int32_l4_n s1_ s2_ s340 _ _ _)
  unfold slices_Equalint32_int32_l4_q
  refine (pre (n := 1) (c' := (bodyOf (bodyOf C39.r.r.l.r)).r) (by kernel_rfl) (by kernel_rfl) (slices_Equalint32_int32_fzx1 s1_ s2_ s340 _)).trans ?_
  refine (seq_push (by kernel_rfl)).trans ?_
  refine (cond_eq (b := (decide (s340 < (s1_.length : Int)))) (st' := ⟨[(0, rl (.one (.int .i32)) s1_), (1, rl (.one (.int .i32)) s2_), (12, ri (s1_.length : Int)), (13, ri s340)], [], [], 26⟩) (by kernel_rfl) (by kernel_rfl) (by kernel_rfl)).trans (bif_g ?_ ?_)
  · refine (skip_eq (by kernel_rfl)).trans ?_
    refine (seqC_normal (st' := ⟨[(0, rl (.one (.int .i32)) s1_), (1, rl (.one (.int .i32)) s2_), (12, ri (s1_.length : Int)), (13, ri s340)], [], [], 26⟩) (by kernel_rfl)).trans ?_
    refine (seq_push (by kernel_rfl)).trans ?_
    refine (block_push (id := 1) (by kernel_rfl)).trans ?_
    refine (pre (n := 2) (c' := (bodyOf (bodyOf (bodyOf C39.r.r.l.r)).r.r.l).r.r) (by kernel_rfl) (by kernel_rfl) (slices_Equalint32_int32_r6 s1_ s2_ s340 _)).trans (bind_g fun y342 => ?_)
    refine (cond_eq (b := ((gt s1_ s340 (0 : Int)) != (gt s2_ s340 (0 : Int)))) (st' := ⟨[(0, rl (.one (.int .i32)) s1_), (1, rl (.one (.int .i32)) s2_), (12, ri (s1_.length : Int)), (13, ri s340)], [], [], 26⟩) (by kernel_rfl) (by kernel_rfl) (by kernel_rfl)).trans (bif_g ?_ ?_)
    · refine (pre (n := 1) (c' := (bodyOf (bodyOf (bodyOf C39.r.r.l.r)).r.r.l).r.r.t.r) (by kernel_rfl) (by kernel_rfl) (slices_Equalint32_int32_fzx2 s1_ s2_ s340 _)).trans ?_
      refine (ret_eq (by kernel_rfl)).trans ?_
      refine block_ret.trans ?_
      refine seqC_ret.trans ?_
      kernel_rfl
    · refine (skip_eq (by kernel_rfl)).trans ?_
      refine block_normal.trans ?_
      refine (seqC_normal (st' := ⟨[(0, rl (.one (.int .i32)) s1_), (1, rl (.one (.int .i32)) s2_), (12, ri (s1_.length : Int)), (13, ri s340)], [], [], 26⟩) (by kernel_rfl)).trans ?_
      refine (slices_Equalint32_int32_r8 s1_ s2_ s340 _).trans ?_
      kernel_rfl
  · refine (exit_eq (j := 0) (by kernel_rfl)).trans ?_
    refine seqC_exit.trans ?_
    kernel_rfl
theorem slices_Equalint32_int32_l4 {α : Type} (s1_ : (List Int)) (s2_ : (List Int)) (k : Kont α) : R39 (bodyOf C39.r.r.l.r) ⟨[(0, rl (.one (.int .i32)) s1_), (1, rl (.one (.int .i32)) s2_), (12, ri (s1_.length : Int)), (13, ri (0 : Int))], [], [], 26⟩ k = Option.bind (iterN (slices_Equalint32_int32_l4_p s1_ s2_) LL (0 : Int)) (either (fun y343 : Int => k (.exit 0) ⟨[(0, rl (.one (.int .i32)) s1_), (1, rl (.one (.int .i32)) s2_), (12, ri (s1_.length : Int)), (13, ri y343)], [], [], 26⟩) (fun y344 : Unit => k .ret ⟨[(4, rb false)], [], [], 26⟩)) :=
  Eq.trans (by kernel_rfl) (loop_iter2 (S := fun s340 : Int => ⟨[(0, rl (.one (.int .i32)) s1_), (1, rl (.one (.int .i32)) s2_), (12, ri (s1_.length : Int)), (13, ri s340)], [], [], 26⟩) (Y1 := fun y343 : Int => ((.exit 0), ⟨[(0, rl (.one (.int .i32)) s1_), (1, rl (.one (.int .i32)) s2_), (12, ri (s1_.length : Int)), (13, ri y343)], [], [], 26⟩)) (Y2 := fun y344 : Unit => (.ret, ⟨[(4, rb false)], [], [], 26⟩)) (fun s k => slices_Equalint32_int32_l4_b s1_ s2_ s k) (fun z => rfl) (fun z => rfl) LL (0 : Int))
theorem slices_Equalint32_int32_fzx3 {α : Type} (k : St → Option α) : P39 1 C39.r.r.r ⟨[], [], [], 26⟩ k = k ⟨[(4, rb true)], [], [], 26⟩ := by kernel_rfl
/-- slices.Equal[[]int32,int32] -/
def slices_Equalint32_int32_q {β : Type} (s1_ : (List Int)) (s2_ : (List Int)) (K : Bool → Option β) : Option β := (bif ((s1_.length : Int) != (s2_.length : Int)) then (K false) else (Option.bind (iterN (slices_Equalint32_int32_l4_p s1_ s2_) LL (0 : Int)) (either (fun y343 : Int => (K true)) (fun y344 : Unit => (K false)))))
def slices_Equalint32_int32 (s1_ : (List Int)) (s2_ : (List Int)) : Option Bool := slices_Equalint32_int32_q s1_ s2_ some
theorem slices_Equalint32_int32_n {β : Type} (s1_ : (List Int)) (s2_ : (List Int)) (K : Bool → Option β) : slices_Equalint32_int32_q s1_ s2_ K = (slices_Equalint32_int32 s1_ s2_).bind K := (bif_b some_b (bind_b (either_b (fun y343 => some_b) (fun y344 => some_b))))
theorem slices_Equalint32_int32_is (s1_ : (List Int)) (s2_ : (List Int)) : stepS E cp39 noE 40 [rl (.one (.int .i32)) s1_, rl (.one (.int .i32)) s2_] = Option.bind (slices_Equalint32_int32 s1_ s2_) (fun y : Bool => some (rb y : R)) := by
  refine Eq.trans ?_ (slices_Equalint32_int32_n s1_ s2_ (fun y : Bool => some (rb y : R)))
  refine (stepG_is (nt := 26) (regs := [(0, rl (.one (.int .i32)) s1_), (1, rl (.one (.int .i32)) s2_)]) (by kernel_rfl) (by kernel_rfl)).trans ?_
  unfold slices_Equalint32_int32_q
  refine (pre (n := 1) (c' := C39.r) (by kernel_rfl) (by kernel_rfl) (slices_Equalint32_int32_f1 s1_ s2_ _)).trans ?_
  refine (seq_push (by kernel_rfl)).trans ?_
  refine (pre (n := 1) (c' := C39.r.l.r) (by kernel_rfl) (by kernel_rfl) (slices_Equalint32_int32_f1000002 s1_ s2_ _)).trans ?_
  refine (cond_eq (b := ((s1_.length : Int) != (s2_.length : Int))) (st' := ⟨[(0, rl (.one (.int .i32)) s1_), (1, rl (.one (.int .i32)) s2_)], [], [], 26⟩) (by kernel_rfl) (by kernel_rfl) (by kernel_rfl)).trans (bif_g ?_ ?_)
  · refine (pre (n := 1) (c' := C39.r.l.r.t.r) (by kernel_rfl) (by kernel_rfl) (slices_Equalint32_int32_fz s1_ s2_ _)).trans ?_
    refine (ret_eq (by kernel_rfl)).trans ?_
    refine seqC_ret.trans ?_
    kernel_rfl
  · refine (skip_eq (by kernel_rfl)).trans ?_
    refine (seqC_normal (st' := ⟨[(0, rl (.one (.int .i32)) s1_), (1, rl (.one (.int .i32)) s2_)], [], [], 26⟩) (by kernel_rfl)).trans ?_
    refine (seq_push (by kernel_rfl)).trans ?_
    refine (pre (n := 1) (c' := C39.r.r.l.r) (by kernel_rfl) (by kernel_rfl) (slices_Equalint32_int32_f4 s1_ s2_ _)).trans ?_
    refine (block_push (id := 0) (by kernel_rfl)).trans ?_
    refine (slices_Equalint32_int32_l4 s1_ s2_ _).trans (bind_g (either_g (fun y343 => ?_) (fun y344 => ?_)))
    · refine block_same.trans ?_
      refine (seqC_normal (st' := ⟨[], [], [], 26⟩) (by kernel_rfl)).trans ?_
      refine (pre (n := 1) (c' := C39.r.r.r.r) (by kernel_rfl) (by kernel_rfl) (slices_Equalint32_int32_fzx3 _)).trans ?_
      refine (ret_eq (by kernel_rfl)).trans ?_
      kernel_rfl
    · refine block_ret.trans ?_
      refine seqC_ret.trans ?_
      kernel_rfl
theorem slices_Equalint32_int32_c (x : denL [(.one (.g (.sl (.one (.int .i32))))), (.one (.g (.sl (.one (.int .i32)))))]) : stepS E cp39 noE 40 (encL [(.one (.g (.sl (.one (.int .i32))))), (.one (.g (.sl (.one (.int .i32)))))] x) = ((fun x => slices_Equalint32_int32 x.1 x.2.1) x).bind fun y => some (Po.enc (.one (.one (.g .bool))) ((fun y : Bool => y) y)) := Eq.mp (by kernel_rfl) (slices_Equalint32_int32_is x.1 x.2.1)
noncomputable def cp40 : CallP := withC cp39 40 [(.one (.g (.sl (.one (.int .i32))))), (.one (.g (.sl (.one (.int .i32)))))] (.one (.one (.g .bool))) (fun y : Bool => y) (fun x => slices_Equalint32_int32 x.1 x.2.1)
theorem cp40_ok : PureOK E cp40 := withC_ok cp39_ok (stepS_ok eok cp39_ok noE_ok) fun x => con_of (enc := fun y => Po.enc (.one (.one (.g .bool))) ((fun y : Bool => y) y)) (slices_Equalint32_int32_c x)
noncomputable abbrev C40 : Code := codeOf E.P 37
noncomputable abbrev P40 {α : Type} (n : Nat) (c : Code) (st : St) (k : St → Option α) : Option α := preK E 37 cp40 noE n c st k
noncomputable abbrev R40 {α : Type} (c : Code) (st : St) (k : Kont α) : Option α := runCode E 37 cp40 noE c st k
noncomputable abbrev Q40 {α : Type} (c : Code) (k : Kont α) : Kont α := seqC E 37 cp40 noE c k
def graph_Same_1_r1_q {β : Type} (x_ : Node) (y_ : Node) (K : Bool → Option β) : Option β := (Option.bind (slices_Equalint_int x_.2.1 y_.2.1) (fun y311 : Bool => (bif y311 then (Option.bind (slices_Equalint8_int8 x_.2.2.2.2.2.2.2.2.2.2.2.2.1 y_.2.2.2.2.2.2.2.2.2.2.2.2.1) (fun y328 : Bool => (bif y328 then (Option.bind (slices_Equalint32_int32 x_.2.2.2.2.2.2.2.2.2.2.2.2.2 y_.2.2.2.2.2.2.2.2.2.2.2.2.2) (fun y345 : Bool => (K y345))) else (K false)))) else (K false))))
def graph_Same_1_r1_p (x_ : Node) (y_ : Node) : Option (Bool) := graph_Same_1_r1_q x_ y_ some
theorem graph_Same_1_r1_n {β : Type} (x_ : Node) (y_ : Node) (K : Bool → Option β) : graph_Same_1_r1_q x_ y_ K = (graph_Same_1_r1_p x_ y_).bind K := (bind_b fun y311 => (bif_b (bind_b fun y328 => (bif_b (bind_b fun y345 => some_b) some_b)) some_b))
theorem graph_Same_1_r1 {α : Type} (x_ : Node) (y_ : Node) (k : St → Option α) : P40 2 C40 ⟨[(0, .agg (tsNode.leaves x_)), (1, .agg (tsNode.leaves y_))], [], [], 91⟩ k = Option.bind (graph_Same_1_r1_p x_ y_) (fun y346 : Bool => k ⟨[(2, .one (.cell (tsNode.leaves x_))), (3, .one (.cell (tsNode.leaves y_))), (5, rb y346)], [], [], 91⟩) := Eq.trans (by kernel_rfl) (graph_Same_1_r1_n x_ y_ _)
def graph_Same_1_r2_q {β : Type} (x_ : Node) (y_ : Node) (K : Bool → β) : β := (bif (x_.1 == y_.1) then (bif (x_.2.2.1 == y_.2.2.1) then (bif (x_.2.2.2.1 == y_.2.2.2.1) then (bif (x_.2.2.2.2.1 == y_.2.2.2.2.1) then (bif (x_.2.2.2.2.2.1 == y_.2.2.2.2.2.1) then (K ((x_.2.2.2.2.2.2.2.2.2.1 == y_.2.2.2.2.2.2.2.2.2.1) && ((x_.2.2.2.2.2.2.2.2.2.2.1 == y_.2.2.2.2.2.2.2.2.2.2.1) && ((x_.2.2.2.2.2.2.2.2.2.2.2.1 == y_.2.2.2.2.2.2.2.2.2.2.2.1) && true)))) else (K false)) else (K false)) else (K false)) else (K false)) else (K false))
def graph_Same_1_r2_p (x_ : Node) (y_ : Node) : Bool := graph_Same_1_r2_q x_ y_ (fun y => y)
theorem graph_Same_1_r2_n {β : Type} (x_ : Node) (y_ : Node) (K : Bool → β) : graph_Same_1_r2_q x_ y_ K = K (graph_Same_1_r2_p x_ y_) := (bif_k K (bif_k K (bif_k K (bif_k K (bif_k K rfl rfl) rfl) rfl) rfl) rfl)
theorem graph_Same_1_r2 {α : Type} (x_ : Node) (y_ : Node) (y346 : Bool) (k : St → Option α) : P40 1 C40.r.r ⟨[(2, .one (.cell (tsNode.leaves x_))), (3, .one (.cell (tsNode.leaves y_))), (5, rb y346)], [], [], 91⟩ k = k ⟨[(2, .one (.cell (tsNode.leaves x_))), (3, .one (.cell (tsNode.leaves y_))), (5, rb y346), (6, rb (graph_Same_1_r2_p x_ y_))], [], [], 91⟩ := Eq.trans (by kernel_rfl) (graph_Same_1_r2_n x_ y_ (fun y347 : Bool => k ⟨[(2, .one (.cell (tsNode.leaves x_))), (3, .one (.cell (tsNode.leaves y_))), (5, rb y346), (6, rb y347)], [], [], 91⟩))
def graph_Same_1_r3_q {β : Type} (x_ : Node) (y_ : Node) (y346 : Bool) (K : Bool → β) : β := (bif y346 then (bif (graph_Same_1_r2_p x_ y_) then (bif (x_.2.2.2.2.2.2.1 == y_.2.2.2.2.2.2.1) then (bif (x_.2.2.2.2.2.2.2.1 == y_.2.2.2.2.2.2.2.1) then (K (x_.2.2.2.2.2.2.2.2.1 == y_.2.2.2.2.2.2.2.2.1)) else (K false)) else (K false)) else (K false)) else (K false))
def graph_Same_1_r3_p (x_ : Node) (y_ : Node) (y346 : Bool) : Bool := graph_Same_1_r3_q x_ y_ y346 (fun y => y)
theorem graph_Same_1_r3_n {β : Type} (x_ : Node) (y_ : Node) (y346 : Bool) (K : Bool → β) : graph_Same_1_r3_q x_ y_ y346 K = K (graph_Same_1_r3_p x_ y_ y346) := (bif_k K (bif_k K (bif_k K (bif_k K rfl rfl) rfl) rfl) rfl)
theorem graph_Same_1_r3 {α : Type} (x_ : Node) (y_ : Node) (y346 : Bool) (k : St → Option α) : P40 1 C40.r.r.r ⟨[(2, .one (.cell (tsNode.leaves x_))), (3, .one (.cell (tsNode.leaves y_))), (5, rb y346), (6, rb (graph_Same_1_r2_p x_ y_))], [], [], 91⟩ k = k ⟨[(4, rb (graph_Same_1_r3_p x_ y_ y346))], [], [], 91⟩ := Eq.trans (by kernel_rfl) (graph_Same_1_r3_n x_ y_ y346 (fun y348 : Bool => k ⟨[(4, rb y348)], [], [], 91⟩))
/-- quilt/graph.Same$1 -/
def graph_Same_1_q {β : Type} (x_ : Node) (y_ : Node) (K : Bool → Option β) : Option β := (Option.bind (graph_Same_1_r1_p x_ y_) (fun y346 : Bool => (K (graph_Same_1_r3_p x_ y_ y346))))
def graph_Same_1 (x_ : Node) (y_ : Node) : Option Bool := graph_Same_1_q x_ y_ some
theorem graph_Same_1_n {β : Type} (x_ : Node) (y_ : Node) (K : Bool → Option β) : graph_Same_1_q x_ y_ K = (graph_Same_1 x_ y_).bind K := (bind_b fun y346 => some_b)
theorem graph_Same_1_is (x_ : Node) (y_ : Node) : stepS E cp40 noE 37 [.agg (tsNode.leaves x_), .agg (tsNode.leaves y_)] = Option.bind (graph_Same_1 x_ y_) (fun y : Bool => some (rb y : R)) := by
  refine Eq.trans ?_ (graph_Same_1_n x_ y_ (fun y : Bool => some (rb y : R)))
  refine (stepG_is (nt := 91) (regs := [(0, .agg (tsNode.leaves x_)), (1, .agg (tsNode.leaves y_))]) (by kernel_rfl) (by kernel_rfl)).trans ?_
  unfold graph_Same_1_q
  refine (pre (n := 2) (c' := C40.r.r) (by kernel_rfl) (by kernel_rfl) (graph_Same_1_r1 x_ y_ _)).trans (bind_g fun y346 => ?_)
  refine (pre (n := 1) (c' := C40.r.r.r) (by kernel_rfl) (by kernel_rfl) (graph_Same_1_r2 x_ y_ y346 _)).trans ?_
  refine (pre (n := 1) (c' := C40.r.r.r.r) (by kernel_rfl) (by kernel_rfl) (graph_Same_1_r3 x_ y_ y346 _)).trans ?_
  refine (ret_eq (by kernel_rfl)).trans ?_
  kernel_rfl
theorem graph_Same_1_c (x : denL [(.agg tsNode), (.agg tsNode)]) : stepS E cp40 noE 37 (encL [(.agg tsNode), (.agg tsNode)] x) = ((fun x => graph_Same_1 x.1 x.2.1) x).bind fun y => some (Po.enc (.one (.one (.g .bool))) ((fun y : Bool => y) y)) := Eq.mp (by kernel_rfl) (graph_Same_1_is x.1 x.2.1)
noncomputable def cp41 : CallP := withC cp40 37 [(.agg tsNode), (.agg tsNode)] (.one (.one (.g .bool))) (fun y : Bool => y) (fun x => graph_Same_1 x.1 x.2.1)
theorem cp41_ok : PureOK E cp41 := withC_ok cp40_ok (stepS_ok eok cp40_ok noE_ok) fun x => con_of (enc := fun y => Po.enc (.one (.one (.g .bool))) ((fun y : Bool => y) y)) (graph_Same_1_c x)
noncomputable abbrev C41 : Code := codeOf E.P 36
noncomputable abbrev P41 {α : Type} (n : Nat) (c : Code) (st : St) (k : St → Option α) : Option α := preK E 36 cp41 noE n c st k
noncomputable abbrev R41 {α : Type} (c : Code) (st : St) (k : Kont α) : Option α := runCode E 36 cp41 noE c st k
noncomputable abbrev Q41 {α : Type} (c : Code) (k : Kont α) : Kont α := seqC E 36 cp41 noE c k
theorem slices_EqualFuncapi_Node_api_Node_api_Node_api_Node_f1 {α : Type} (s1_ : (List Node)) (s2_ : (List Node)) (k : St → Option α) : P41 1 C41 ⟨[(0, rl tsNode s1_), (1, rl tsNode s2_), (2, .one (.fn 37 []))], [], [], 32⟩ k = k ⟨[(0, rl tsNode s1_), (1, rl tsNode s2_), (2, .one (.fn 37 []))], [], [], 32⟩ := by kernel_rfl
theorem slices_EqualFuncapi_Node_api_Node_api_Node_api_Node_f1000002 {α : Type} (s1_ : (List Node)) (s2_ : (List Node)) (k : St → Option α) : P41 1 C41.r.l ⟨[(0, rl tsNode s1_), (1, rl tsNode s2_), (2, .one (.fn 37 []))], [], [], 32⟩ k = k ⟨[(0, rl tsNode s1_), (1, rl tsNode s2_), (2, .one (.fn 37 [])), (14, rb ((s1_.length : Int) != (s2_.length : Int)))], [], [], 32⟩ := by kernel_rfl
theorem slices_EqualFuncapi_Node_api_Node_api_Node_api_Node_fz {α : Type} (s1_ : (List Node)) (s2_ : (List Node)) (k : St → Option α) : P41 1 C41.r.l.r.t ⟨[(0, rl tsNode s1_), (1, rl tsNode s2_), (2, .one (.fn 37 []))], [], [], 32⟩ k = k ⟨[(6, rb false)], [], [], 32⟩ := by kernel_rfl
theorem slices_EqualFuncapi_Node_api_Node_api_Node_api_Node_f4 {α : Type} (s1_ : (List Node)) (s2_ : (List Node)) (k : St → Option α) : P41 1 C41.r.r.l ⟨[(0, rl tsNode s1_), (1, rl tsNode s2_), (2, .one (.fn 37 []))], [], [], 32⟩ k = k ⟨[(1, rl tsNode s2_), (2, .one (.fn 37 [])), (15, rl tsNode s1_), (16, ri (s1_.length : Int)), (17, ri (0 : Int))], [], [], 32⟩ := by kernel_rfl
theorem slices_EqualFuncapi_Node_api_Node_api_Node_api_Node_fzx1 {α : Type} (s1_ : (List Node)) (s2_ : (List Node)) (s369 : Int) (k : St → Option α) : P41 1 (bodyOf (bodyOf C41.r.r.l.r)) ⟨[(1, rl tsNode s2_), (2, .one (.fn 37 [])), (15, rl tsNode s1_), (16, ri (s1_.length : Int)), (17, ri s369)], [], [], 32⟩ k = k ⟨[(1, rl tsNode s2_), (2, .one (.fn 37 [])), (15, rl tsNode s1_), (16, ri (s1_.length : Int)), (17, ri s369), (18, rb (decide (s369 < (s1_.length : Int))))], [], [], 32⟩ := by kernel_rfl
def slices_EqualFuncapi_Node_api_Node_api_Node_api_Node_r5_q {β : Type} (s1_ : (List Node)) (s369 : Int) (K : Unit → Option β) : Option β := (bif (decide ((0 : Int) ≤ s369)) then (bif (decide (s369 < (s1_.length : Int))) then (K ()) else none) else none)
def slices_EqualFuncapi_Node_api_Node_api_Node_api_Node_r5_p (s1_ : (List Node)) (s369 : Int) : Option (Unit) := slices_EqualFuncapi_Node_api_Node_api_Node_api_Node_r5_q s1_ s369 some
theorem slices_EqualFuncapi_Node_api_Node_api_Node_api_Node_r5_n {β : Type} (s1_ : (List Node)) (s369 : Int) (K : Unit → Option β) : slices_EqualFuncapi_Node_api_Node_api_Node_api_Node_r5_q s1_ s369 K = (slices_EqualFuncapi_Node_api_Node_api_Node_api_Node_r5_p s1_ s369).bind K := (bif_b (bif_b some_b none_b) none_b)
theorem slices_EqualFuncapi_Node_api_Node_api_Node_api_Node_r5 {α : Type} (s1_ : (List Node)) (s2_ : (List Node)) (s369 : Int) (k : St → Option α) : P41 1 (bodyOf (bodyOf (bodyOf C41.r.r.l.r)).r.r.l) ⟨[(1, rl tsNode s2_), (2, .one (.fn 37 [])), (15, rl tsNode s1_), (16, ri (s1_.length : Int)), (17, ri s369)], [], [], 32⟩ k = Option.bind (slices_EqualFuncapi_Node_api_Node_api_Node_api_Node_r5_p s1_ s369) (fun y373 : Unit => k ⟨[(1, rl tsNode s2_), (2, .one (.fn 37 [])), (7, ri s369), (8, .one (.ref 0 0)), (15, rl tsNode s1_), (16, ri (s1_.length : Int)), (17, ri s369)], [(tsNode.leaves (gt s1_ s369 dNode))], [], 32⟩) := Eq.trans (by kernel_rfl) (slices_EqualFuncapi_Node_api_Node_api_Node_api_Node_r5_n s1_ s369 _)
def slices_EqualFuncapi_Node_api_Node_api_Node_api_Node_r6_q {β : Type} (s2_ : (List Node)) (s369 : Int) (K : Unit → Option β) : Option β := (bif (decide ((0 : Int) ≤ s369)) then (bif (decide (s369 < (s2_.length : Int))) then (K ()) else none) else none)
def slices_EqualFuncapi_Node_api_Node_api_Node_api_Node_r6_p (s2_ : (List Node)) (s369 : Int) : Option (Unit) := slices_EqualFuncapi_Node_api_Node_api_Node_api_Node_r6_q s2_ s369 some
theorem slices_EqualFuncapi_Node_api_Node_api_Node_api_Node_r6_n {β : Type} (s2_ : (List Node)) (s369 : Int) (K : Unit → Option β) : slices_EqualFuncapi_Node_api_Node_api_Node_api_Node_r6_q s2_ s369 K = (slices_EqualFuncapi_Node_api_Node_api_Node_api_Node_r6_p s2_ s369).bind K := (bif_b (bif_b some_b none_b) none_b)
theorem slices_EqualFuncapi_Node_api_Node_api_Node_api_Node_r6 {α : Type} (s1_ : (List Node)) (s2_ : (List Node)) (s369 : Int) (k : St → Option α) : P41 1 (bodyOf (bodyOf (bodyOf C41.r.r.l.r)).r.r.l).r ⟨[(1, rl tsNode s2_), (2, .one (.fn 37 [])), (7, ri s369), (8, .one (.ref 0 0)), (15, rl tsNode s1_), (16, ri (s1_.length : Int)), (17, ri s369)], [(tsNode.leaves (gt s1_ s369 dNode))], [], 32⟩ k = Option.bind (slices_EqualFuncapi_Node_api_Node_api_Node_api_Node_r6_p s2_ s369) (fun y374 : Unit => k ⟨[(1, rl tsNode s2_), (2, .one (.fn 37 [])), (8, .one (.ref 0 0)), (9, .one (.ref 1 0)), (15, rl tsNode s1_), (16, ri (s1_.length : Int)), (17, ri s369)], [(tsNode.leaves (gt s1_ s369 dNode)), (tsNode.leaves (gt s2_ s369 dNode))], [], 32⟩) := Eq.trans (by kernel_rfl) (slices_EqualFuncapi_Node_api_Node_api_Node_api_Node_r6_n s2_ s369 _)
theorem slices_EqualFuncapi_Node_api_Node_api_Node_api_Node_r7 {α : Type} (s1_ : (List Node)) (s2_ : (List Node)) (s369 : Int) (k : St → Option α) : P41 1 (bodyOf (bodyOf (bodyOf C41.r.r.l.r)).r.r.l).r.r ⟨[(1, rl tsNode s2_), (2, .one (.fn 37 [])), (8, .one (.ref 0 0)), (9, .one (.ref 1 0)), (15, rl tsNode s1_), (16, ri (s1_.length : Int)), (17, ri s369)], [(tsNode.leaves (gt s1_ s369 dNode)), (tsNode.leaves (gt s2_ s369 dNode))], [], 32⟩ k = Option.bind (graph_Same_1 (gt s1_ s369 dNode) (gt s2_ s369 dNode)) fun y375 : Bool => k ⟨[(1, rl tsNode s2_), (2, .one (.fn 37 [])), (15, rl tsNode s1_), (16, ri (s1_.length : Int)), (17, ri s369), (30, rb (!y375))], [[], []], [], 32⟩ := by kernel_rfl
theorem slices_EqualFuncapi_Node_api_Node_api_Node_api_Node_fzx2 {α : Type} (s1_ : (List Node)) (s2_ : (List Node)) (s369 : Int) (k : St → Option α) : P41 1 (bodyOf (bodyOf (bodyOf C41.r.r.l.r)).r.r.l).r.r.r.t ⟨[(1, rl tsNode s2_), (2, .one (.fn 37 [])), (15, rl tsNode s1_), (16, ri (s1_.length : Int)), (17, ri s369)], [[], []], [], 32⟩ k = k ⟨[(6, rb false)], [[], []], [], 32⟩ := by kernel_rfl
theorem slices_EqualFuncapi_Node_api_Node_api_Node_api_Node_r9 {α : Type} (s1_ : (List Node)) (s2_ : (List Node)) (s369 : Int) (k : Kont α) : R41 (bodyOf (bodyOf C41.r.r.l.r)).r.r.r ⟨[(1, rl tsNode s2_), (2, .one (.fn 37 [])), (15, rl tsNode s1_), (16, ri (s1_.length : Int)), (17, ri s369)], [[], []], [], 32⟩ k = k .normal ⟨[(1, rl tsNode s2_), (2, .one (.fn 37 [])), (15, rl tsNode s1_), (16, ri (s1_.length : Int)), (17, ri (IntKind.wrap .i64 (s369 + (1 : Int))))], [[], []], [], 32⟩ := by kernel_rfl
def slices_EqualFuncapi_Node_api_Node_api_Node_api_Node_l4_q {β : Type} (s1_ : (List Node)) (s2_ : (List Node)) (s369 : Int) (K0 : Int → Option β) (K1 : Int → Option β) (K2 : Unit → Option β) : Option β := (bif (decide (s369 < (s1_.length : Int))) then (Option.bind (slices_EqualFuncapi_Node_api_Node_api_Node_api_Node_r5_p s1_ s369) (fun y373 : Unit => (Option.bind (slices_EqualFuncapi_Node_api_Node_api_Node_api_Node_r6_p s2_ s369) (fun y374 : Unit => (Option.bind (graph_Same_1 (gt s1_ s369 dNode) (gt s2_ s369 dNode)) (fun y375 : Bool => (bif (!y375) then (K2 ()) else (K0 (IntKind.wrap .i64 (s369 + (1 : Int))))))))))) else (K1 s369))
def slices_EqualFuncapi_Node_api_Node_api_Node_api_Node_l4_p (s1_ : (List Node)) (s2_ : (List Node)) (s369 : Int) : Option (Int ⊕ (Int ⊕ Unit)) := slices_EqualFuncapi_Node_api_Node_api_Node_api_Node_l4_q s1_ s2_ s369 (fun y => some (Sum.inl y)) (fun y => some (Sum.inr (Sum.inl y))) (fun y => some (Sum.inr (Sum.inr y)))
theorem slices_EqualFuncapi_Node_api_Node_api_Node_api_Node_l4_n {β : Type} (s1_ : (List Node)) (s2_ : (List Node)) (s369 : Int) (K0 : Int → Option β) (K1 : Int → Option β) (K2 : Unit → Option β) : slices_EqualFuncapi_Node_api_Node_api_Node_api_Node_l4_q s1_ s2_ s369 K0 K1 K2 = (slices_EqualFuncapi_Node_api_Node_api_Node_api_Node_l4_p s1_ s2_ s369).bind (either K0 (either K1 K2)) := (bif_b (bind_b fun y373 => (bind_b fun y374 => (bind_b fun y375 => (bif_b e3_2 e3_0)))) e3_1)
theorem slices_EqualFuncapi_Node_api_Node_api_Node_api_Node_l4_b {α : Type} (s1_ : (List Node)) (s2_ : (List Node)) (s369 : Int) (k : Kont α) : R41 (bodyOf (bodyOf C41.r.r.l.r)) ⟨[(1, rl tsNode s2_), (2, .one (.fn 37 [])), (15, rl tsNode s1_), (16, ri (s1_.length : Int)), (17, ri s369)], [], [], 32⟩ (loopKont 0 k) = Option.bind (slices_EqualFuncapi_Node_api_Node_api_Node_api_Node_l4_p s1_ s2_ s369) (either (fun y : Int => k .normal ⟨[(1, rl tsNode s2_), (2, .one (.fn 37 [])), (15, rl tsNode s1_), (16, ri (s1_.length : Int)), (17, ri y)], [], [], 32⟩) (either (fun y376 : Int => k (.exit 0) ⟨[(1, rl tsNode s2_), (2, .one (.fn 37 [])), (15, rl tsNode s1_), (16, ri (s1_.length : Int)), (17, ri y376)], [], [], 32⟩) (fun y377 : Unit => k .ret ⟨[(6, rb false)], [[], []], [], 32⟩))) := by
  refine Eq.trans ?_ (slices_EqualFuncapi_Node_api_Node_api_Node_api_Node_l4_n s1_ s2_ s369 _ _ _)
  unfold slices_EqualFuncapi_Node_api_Node_api_Node_api_Node_l4_q
  refine (pre (n := 1) (c' := (bodyOf (bodyOf C41.r.r.l.r)).r) (by kernel_rfl) (by kernel_rfl) (slices_EqualFuncapi_Node_api_Node_api_Node_api_Node_fzx1 s1_ s2_ s369 _)).trans ?_
  refine (seq_push (by kernel_rfl)).trans ?_
  refine (cond_eq (b := (decide (s369 < (s1_.length : Int)))) (st' := ⟨[(1, rl tsNode s2_), (2, .one (.fn 37 [])), (15, rl tsNode s1_), (16, ri (s1_.length : Int)), (17, ri s369)], [], [], 32⟩) (by kernel_rfl) (by kernel_rfl) (by kernel_rfl)).trans (bif_g ?_ ?_)
  · refine (skip_eq (by kernel_rfl)).trans ?_
    refine (seqC_normal (st' := ⟨[(1, rl tsNode s2_), (2, .one (.fn 37 [])), (15, rl tsNode s1_), (16, ri (s1_.length : Int)), (17, ri s369)], [], [], 32⟩) (by kernel_rfl)).trans ?_
    refine (seq_push (by kernel_rfl)).trans ?_
    refine (block_push (id := 1) (by kernel_rfl)).trans ?_
    refine (pre (n := 1) (c' := (bodyOf (bodyOf (bodyOf C41.r.r.l.r)).r.r.l).r) (by kernel_rfl) (by kernel_rfl) (slices_EqualFuncapi_Node_api_Node_api_Node_api_Node_r5 s1_ s2_ s369 _)).trans (bind_g fun y373 => ?_)
    refine (pre (n := 1) (c' := (bodyOf (bodyOf (bodyOf C41.r.r.l.r)).r.r.l).r.r) (by kernel_rfl) (by kernel_rfl) (slices_EqualFuncapi_Node_api_Node_api_Node_api_Node_r6 s1_ s2_ s369 _)).trans (bind_g fun y374 => ?_)
    refine (pre (n := 1) (c' := (bodyOf (bodyOf (bodyOf C41.r.r.l.r)).r.r.l).r.r.r) (by kernel_rfl) (by kernel_rfl) (slices_EqualFuncapi_Node_api_Node_api_Node_api_Node_r7 s1_ s2_ s369 _)).trans (bind_g fun y375 => ?_)
    refine (cond_eq (b := (!y375)) (st' := ⟨[(1, rl tsNode s2_), (2, .one (.fn 37 [])), (15, rl tsNode s1_), (16, ri (s1_.length : Int)), (17, ri s369)], [[], []], [], 32⟩) (by kernel_rfl) (by kernel_rfl) (by kernel_rfl)).trans (bif_g ?_ ?_)
    · refine (pre (n := 1) (c' := (bodyOf (bodyOf (bodyOf C41.r.r.l.r)).r.r.l).r.r.r.t.r) (by kernel_rfl) (by kernel_rfl) (slices_EqualFuncapi_Node_api_Node_api_Node_api_Node_fzx2 s1_ s2_ s369 _)).trans ?_
      refine (ret_eq (by kernel_rfl)).trans ?_
      refine block_ret.trans ?_
      refine seqC_ret.trans ?_
      kernel_rfl
    · refine (skip_eq (by kernel_rfl)).trans ?_
      refine block_normal.trans ?_
      refine (seqC_normal (st' := ⟨[(1, rl tsNode s2_), (2, .one (.fn 37 [])), (15, rl tsNode s1_), (16, ri (s1_.length : Int)), (17, ri s369)], [[], []], [], 32⟩) (by kernel_rfl)).trans ?_
      refine (slices_EqualFuncapi_Node_api_Node_api_Node_api_Node_r9 s1_ s2_ s369 _).trans ?_
      kernel_rfl
  · refine (exit_eq (j := 0) (by kernel_rfl)).trans ?_
    refine seqC_exit.trans ?_
    kernel_rfl
theorem slices_EqualFuncapi_Node_api_Node_api_Node_api_Node_l4 {α : Type} (s1_ : (List Node)) (s2_ : (List Node)) (k : Kont α) : R41 (bodyOf C41.r.r.l.r) ⟨[(1, rl tsNode s2_), (2, .one (.fn 37 [])), (15, rl tsNode s1_), (16, ri (s1_.length : Int)), (17, ri (0 : Int))], [], [], 32⟩ k = Option.bind (iterN (slices_EqualFuncapi_Node_api_Node_api_Node_api_Node_l4_p s1_ s2_) LL (0 : Int)) (either (fun y376 : Int => k (.exit 0) ⟨[(1, rl tsNode s2_), (2, .one (.fn 37 [])), (15, rl tsNode s1_), (16, ri (s1_.length : Int)), (17, ri y376)], [], [], 32⟩) (fun y377 : Unit => k .ret ⟨[(6, rb false)], [[], []], [], 32⟩)) :=
  Eq.trans (by kernel_rfl) (loop_iter2 (S := fun s369 : Int => ⟨[(1, rl tsNode s2_), (2, .one (.fn 37 [])), (15, rl tsNode s1_), (16, ri (s1_.length : Int)), (17, ri s369)], [], [], 32⟩) (Y1 := fun y376 : Int => ((.exit 0), ⟨[(1, rl tsNode s2_), (2, .one (.fn 37 [])), (15, rl tsNode s1_), (16, ri (s1_.length : Int)), (17, ri y376)], [], [], 32⟩)) (Y2 := fun y377 : Unit => (.ret, ⟨[(6, rb false)], [[], []], [], 32⟩)) (fun s k => slices_EqualFuncapi_Node_api_Node_api_Node_api_Node_l4_b s1_ s2_ s k) (fun z => rfl) (fun z => rfl) LL (0 : Int))
theorem slices_EqualFuncapi_Node_api_Node_api_Node_api_Node_fzx3 {α : Type} (k : St → Option α) : P41 1 C41.r.r.r ⟨[], [], [], 32⟩ k = k ⟨[(6, rb true)], [], [], 32⟩ := by kernel_rfl
/-- slices.EqualFunc[[]quilt/api.Node,[]quilt/api.Node,quilt/api.Node,quilt/api.Node] -/
def slices_EqualFuncapi_Node_api_Node_api_Node_api_Node_q {β : Type} (s1_ : (List Node)) (s2_ : (List Node)) (K : Bool → Option β) : Option β := (bif ((s1_.length : Int) != (s2_.length : Int)) then (K false) else (Option.bind (iterN (slices_EqualFuncapi_Node_api_Node_api_Node_api_Node_l4_p s1_ s2_) LL (0 : Int)) (either (fun y376 : Int => (K true)) (fun y377 : Unit => (K false)))))
def slices_EqualFuncapi_Node_api_Node_api_Node_api_Node (s1_ : (List Node)) (s2_ : (List Node)) : Option Bool := slices_EqualFuncapi_Node_api_Node_api_Node_api_Node_q s1_ s2_ some
theorem slices_EqualFuncapi_Node_api_Node_api_Node_api_Node_n {β : Type} (s1_ : (List Node)) (s2_ : (List Node)) (K : Bool → Option β) : slices_EqualFuncapi_Node_api_Node_api_Node_api_Node_q s1_ s2_ K = (slices_EqualFuncapi_Node_api_Node_api_Node_api_Node s1_ s2_).bind K := (bif_b some_b (bind_b (either_b (fun y376 => some_b) (fun y377 => some_b))))
theorem slices_EqualFuncapi_Node_api_Node_api_Node_api_Node_is (s1_ : (List Node)) (s2_ : (List Node)) : stepS E cp41 noE 36 [rl tsNode s1_, rl tsNode s2_, .one (.fn 37 [])] = Option.bind (slices_EqualFuncapi_Node_api_Node_api_Node_api_Node s1_ s2_) (fun y : Bool => some (rb y : R)) := by
  refine Eq.trans ?_ (slices_EqualFuncapi_Node_api_Node_api_Node_api_Node_n s1_ s2_ (fun y : Bool => some (rb y : R)))
  refine (stepG_is (nt := 32) (regs := [(0, rl tsNode s1_), (1, rl tsNode s2_), (2, .one (.fn 37 []))]) (by kernel_rfl) (by kernel_rfl)).trans ?_
  unfold slices_EqualFuncapi_Node_api_Node_api_Node_api_Node_q
  refine (pre (n := 1) (c' := C41.r) (by kernel_rfl) (by kernel_rfl) (slices_EqualFuncapi_Node_api_Node_api_Node_api_Node_f1 s1_ s2_ _)).trans ?_
  refine (seq_push (by kernel_rfl)).trans ?_
  refine (pre (n := 1) (c' := C41.r.l.r) (by kernel_rfl) (by kernel_rfl) (slices_EqualFuncapi_Node_api_Node_api_Node_api_Node_f1000002 s1_ s2_ _)).trans ?_
  refine (cond_eq (b := ((s1_.length : Int) != (s2_.length : Int))) (st' := ⟨[(0, rl tsNode s1_), (1, rl tsNode s2_), (2, .one (.fn 37 []))], [], [], 32⟩) (by kernel_rfl) (by kernel_rfl) (by kernel_rfl)).trans (bif_g ?_ ?_)
  · refine (pre (n := 1) (c' := C41.r.l.r.t.r) (by kernel_rfl) (by kernel_rfl) (slices_EqualFuncapi_Node_api_Node_api_Node_api_Node_fz s1_ s2_ _)).trans ?_
    refine (ret_eq (by kernel_rfl)).trans ?_
    refine seqC_ret.trans ?_
    kernel_rfl
  · refine (skip_eq (by kernel_rfl)).trans ?_
    refine (seqC_normal (st' := ⟨[(0, rl tsNode s1_), (1, rl tsNode s2_), (2, .one (.fn 37 []))], [], [], 32⟩) (by kernel_rfl)).trans ?_
    refine (seq_push (by kernel_rfl)).trans ?_
    refine (pre (n := 1) (c' := C41.r.r.l.r) (by kernel_rfl) (by kernel_rfl) (slices_EqualFuncapi_Node_api_Node_api_Node_api_Node_f4 s1_ s2_ _)).trans ?_
    refine (block_push (id := 0) (by kernel_rfl)).trans ?_
    refine (slices_EqualFuncapi_Node_api_Node_api_Node_api_Node_l4 s1_ s2_ _).trans (bind_g (either_g (fun y376 => ?_) (fun y377 => ?_)))
    · refine block_same.trans ?_
      refine (seqC_normal (st' := ⟨[], [], [], 32⟩) (by kernel_rfl)).trans ?_
      refine (pre (n := 1) (c' := C41.r.r.r.r) (by kernel_rfl) (by kernel_rfl) (slices_EqualFuncapi_Node_api_Node_api_Node_api_Node_fzx3 _)).trans ?_
      refine (ret_eq (by kernel_rfl)).trans ?_
      kernel_rfl
    · refine block_ret.trans ?_
      refine seqC_ret.trans ?_
      kernel_rfl
theorem slices_EqualFuncapi_Node_api_Node_api_Node_api_Node_c (x : denL [(.one (.g (.sl tsNode))), (.one (.g (.sl tsNode))), (.one (.fn 37 .nil))]) : stepS E cp41 noE 36 (encL [(.one (.g (.sl tsNode))), (.one (.g (.sl tsNode))), (.one (.fn 37 .nil))] x) = ((fun x => slices_EqualFuncapi_Node_api_Node_api_Node_api_Node x.1 x.2.1) x).bind fun y => some (Po.enc (.one (.one (.g .bool))) ((fun y : Bool => y) y)) := Eq.mp (by kernel_rfl) (slices_EqualFuncapi_Node_api_Node_api_Node_api_Node_is x.1 x.2.1)
noncomputable def cp42 : CallP := withC cp41 36 [(.one (.g (.sl tsNode))), (.one (.g (.sl tsNode))), (.one (.fn 37 .nil))] (.one (.one (.g .bool))) (fun y : Bool => y) (fun x => slices_EqualFuncapi_Node_api_Node_api_Node_api_Node x.1 x.2.1)
theorem cp42_ok : PureOK E cp42 := withC_ok cp41_ok (stepS_ok eok cp41_ok noE_ok) fun x => con_of (enc := fun y => Po.enc (.one (.one (.g .bool))) ((fun y : Bool => y) y)) (slices_EqualFuncapi_Node_api_Node_api_Node_api_Node_c x)
end Go.V.P
