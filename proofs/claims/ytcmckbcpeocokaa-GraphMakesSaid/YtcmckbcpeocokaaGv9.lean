/- What functions compute. -/
import Derived.Test.YtcmckbcpeocokaaGv8
namespace Go.V.P
open Go.RowKit Go.V Go.Proofs
set_option linter.unusedVariables false
set_option maxRecDepth 100000
noncomputable abbrev C56 : Code := codeOf E.P 8
noncomputable abbrev P56 {α : Type} (n : Nat) (c : Code) (st : St) (k : St → Option α) : Option α := preK E 8 cp56 noE n c st k
noncomputable abbrev R56 {α : Type} (c : Code) (st : St) (k : Kont α) : Option α := runCode E 8 cp56 noE c st k
noncomputable abbrev Q56 {α : Type} (c : Code) (k : Kont α) : Kont α := seqC E 8 cp56 noE c k
theorem law03_GraphMakes_r1 {α : Type} (g_ : Graph) (k : St → Option α) : P56 2 C56 ⟨[(0, .agg (tsGraph.leaves g_))], [], [], 129⟩ k = Option.bind law03_shown fun y438 : Bool => k ⟨[(1, .one (.ref 0 0)), (3, rb y438)], [(tsGraph.leaves g_)], [], 129⟩ := by kernel_rfl
theorem law03_GraphMakes_r2 {α : Type} (g_ : Graph) (y438 : Bool) (k : St → Option α) : P56 1 C56.r.r ⟨[(1, .one (.ref 0 0)), (3, rb y438)], [(tsGraph.leaves g_)], [], 129⟩ k = Option.bind (law03_less g_) fun y473 : Graph => k ⟨[(1, .one (.ref 0 0)), (3, rb y438)], [(tsGraph.leaves y473)], [], 129⟩ := by kernel_rfl
theorem law03_GraphMakes_r3 {α : Type} (y438 : Bool) (y473 : Graph) (k : St → Option α) : P56 1 C56.r.r.r ⟨[(1, .one (.ref 0 0)), (3, rb y438)], [(tsGraph.leaves y473)], [], 129⟩ k = Option.bind (graph_Values y473) fun y588 : ((List I4) × Int) => k ⟨[(1, .one (.ref 0 0)), (3, rb y438), (4, .one (.ow tsI4 y588.1 (.v 4))), (5, ri y588.2)], [(tsGraph.leaves y473)], [], 129⟩ := by kernel_rfl
theorem law03_GraphMakes_f1000005 {α : Type} (y438 : Bool) (y473 : Graph) (y588 : ((List I4) × Int)) (k : St → Option α) : P56 1 C56.r.r.r.r.l ⟨[(1, .one (.ref 0 0)), (3, rb y438), (4, .one (.ow tsI4 y588.1 (.v 4))), (5, ri y588.2)], [(tsGraph.leaves y473)], [], 129⟩ k = k ⟨[(1, .one (.ref 0 0)), (3, rb y438), (4, .one (.ow tsI4 y588.1 (.v 4))), (20, rb (y588.2 != (0 : Int)))], [(tsGraph.leaves y473)], [], 129⟩ := by kernel_rfl
def law03_GraphMakes_r5_q {β : Type} (y438 : Bool) (y588 : ((List I4) × Int)) (K : Bool → β) : β := (bif y438 then (K ((y588.1.length : Int) == (0 : Int))) else (K false))
def law03_GraphMakes_r5_p (y438 : Bool) (y588 : ((List I4) × Int)) : Bool := law03_GraphMakes_r5_q y438 y588 (fun y => y)
theorem law03_GraphMakes_r5_n {β : Type} (y438 : Bool) (y588 : ((List I4) × Int)) (K : Bool → β) : law03_GraphMakes_r5_q y438 y588 K = K (law03_GraphMakes_r5_p y438 y588) := (bif_k K rfl rfl)
theorem law03_GraphMakes_r5 {α : Type} (y438 : Bool) (y473 : Graph) (y588 : ((List I4) × Int)) (k : St → Option α) : P56 1 C56.r.r.r.r.l.r.t ⟨[(1, .one (.ref 0 0)), (3, rb y438), (4, .one (.ow tsI4 y588.1 (.v 4)))], [(tsGraph.leaves y473)], [], 129⟩ k = k ⟨[(2, rb (law03_GraphMakes_r5_p y438 y588))], [[]], [], 129⟩ := Eq.trans (by kernel_rfl) (law03_GraphMakes_r5_n y438 y588 (fun y590 : Bool => k ⟨[(2, rb y590)], [[]], [], 129⟩))
def law03_GraphMakes_r6_q {β : Type} (y473 : Graph) (y588 : ((List I4) × Int)) (K : Bool → β) : β := (K ((y588.1.length : Int) != (IntKind.wrap .i64 ((y473.1.length : Int) + (y473.2.1.length : Int)))))
def law03_GraphMakes_r6_p (y473 : Graph) (y588 : ((List I4) × Int)) : Bool := law03_GraphMakes_r6_q y473 y588 (fun y => y)
theorem law03_GraphMakes_r6_n {β : Type} (y473 : Graph) (y588 : ((List I4) × Int)) (K : Bool → β) : law03_GraphMakes_r6_q y473 y588 K = K (law03_GraphMakes_r6_p y473 y588) := rfl
theorem law03_GraphMakes_r6 {α : Type} (y438 : Bool) (y473 : Graph) (y588 : ((List I4) × Int)) (k : St → Option α) : P56 1 C56.r.r.r.r.r.l ⟨[(1, .one (.ref 0 0)), (3, rb y438), (4, .one (.ow tsI4 y588.1 (.v 4)))], [(tsGraph.leaves y473)], [], 129⟩ k = k ⟨[(1, .one (.ref 0 0)), (3, rb y438), (4, .one (.ow tsI4 y588.1 (.v 4))), (36, rb (law03_GraphMakes_r6_p y473 y588))], [(tsGraph.leaves y473)], [], 129⟩ := Eq.trans (by kernel_rfl) (law03_GraphMakes_r6_n y473 y588 (fun y592 : Bool => k ⟨[(1, .one (.ref 0 0)), (3, rb y438), (4, .one (.ow tsI4 y588.1 (.v 4))), (36, rb y592)], [(tsGraph.leaves y473)], [], 129⟩))
theorem law03_GraphMakes_fz {α : Type} (y438 : Bool) (y473 : Graph) (y588 : ((List I4) × Int)) (k : St → Option α) : P56 1 C56.r.r.r.r.r.l.r.t ⟨[(1, .one (.ref 0 0)), (3, rb y438), (4, .one (.ow tsI4 y588.1 (.v 4)))], [(tsGraph.leaves y473)], [], 129⟩ k = k ⟨[(2, rb false)], [[]], [], 129⟩ := by kernel_rfl
theorem law03_GraphMakes_f9 {α : Type} (y438 : Bool) (y473 : Graph) (y588 : ((List I4) × Int)) (k : St → Option α) : P56 1 C56.r.r.r.r.r.r.l ⟨[(1, .one (.ref 0 0)), (3, rb y438), (4, .one (.ow tsI4 y588.1 (.v 4)))], [(tsGraph.leaves y473)], [], 129⟩ k = k ⟨[(1, .one (.ref 0 0)), (3, rb y438), (4, .one (.ow tsI4 y588.1 (.v 4))), (6, ri (0 : Int))], [(tsGraph.leaves y473)], [], 129⟩ := by kernel_rfl
theorem law03_GraphMakes_fzx1 {α : Type} (y438 : Bool) (y473 : Graph) (y588 : ((List I4) × Int)) (s604 : Int) (k : St → Option α) : P56 1 (bodyOf (bodyOf C56.r.r.r.r.r.r.l.r)).l ⟨[(1, .one (.ref 0 0)), (3, rb y438), (4, .one (.ow tsI4 y588.1 (.v 4))), (6, ri s604)], [(tsGraph.leaves y473)], [], 129⟩ k = k ⟨[(1, .one (.ref 0 0)), (3, rb y438), (4, .one (.ow tsI4 y588.1 (.v 4))), (6, ri s604), (40, rb (decide (s604 < (y588.1.length : Int))))], [(tsGraph.leaves y473)], [], 129⟩ := by kernel_rfl
def law03_GraphMakes_r11_q {β : Type} (y473 : Graph) (y588 : ((List I4) × Int)) (s604 : Int) (K : Bool → Option β) : Option β := (bif (decide ((0 : Int) ≤ s604)) then (bif (decide (s604 < (y588.1.length : Int))) then (bif ((ref02_May ((gt y588.1 s604 dI4).1, (gt y588.1 s604 dI4).2.1, (gt y588.1 s604 dI4).2.2.1)) != (0 : Int)) then (K true) else (bif (decide (s604 ≥ (y473.1.length : Int))) then (bif (decide ((0 : Int) ≤ s604)) then (bif (decide (s604 < (y588.1.length : Int))) then (bif (decide ((0 : Int) ≤ (IntKind.wrap .i64 (s604 - (y473.1.length : Int))))) then (bif (decide ((IntKind.wrap .i64 (s604 - (y473.1.length : Int))) < (y473.2.1.length : Int))) then (K (((gt y588.1 s604 dI4).2.2.2) != ((gt y473.2.1 (IntKind.wrap .i64 (s604 - (y473.1.length : Int))) dNode).2.2.2.2.2.2.2.2.1))) else none) else none) else none) else none) else (K false))) else none) else none)
def law03_GraphMakes_r11_p (y473 : Graph) (y588 : ((List I4) × Int)) (s604 : Int) : Option (Bool) := law03_GraphMakes_r11_q y473 y588 s604 some
theorem law03_GraphMakes_r11_n {β : Type} (y473 : Graph) (y588 : ((List I4) × Int)) (s604 : Int) (K : Bool → Option β) : law03_GraphMakes_r11_q y473 y588 s604 K = (law03_GraphMakes_r11_p y473 y588 s604).bind K := (bif_b (bif_b (bif_b some_b (bif_b (bif_b (bif_b (bif_b (bif_b some_b none_b) none_b) none_b) none_b) some_b)) none_b) none_b)
theorem law03_GraphMakes_r11 {α : Type} (y438 : Bool) (y473 : Graph) (y588 : ((List I4) × Int)) (s604 : Int) (k : St → Option α) : P56 1 (bodyOf (bodyOf (bodyOf C56.r.r.r.r.r.r.l.r)).r.l) ⟨[(1, .one (.ref 0 0)), (3, rb y438), (4, .one (.ow tsI4 y588.1 (.v 4))), (6, ri s604)], [(tsGraph.leaves y473)], [], 129⟩ k = Option.bind (law03_GraphMakes_r11_p y473 y588 s604) (fun y606 : Bool => k ⟨[(1, .one (.ref 0 0)), (3, rb y438), (4, .one (.ow tsI4 y588.1 (.v 4))), (6, ri s604), (74, rb y606)], [(tsGraph.leaves y473)], [], 129⟩) := Eq.trans (by kernel_rfl) (law03_GraphMakes_r11_n y473 y588 s604 _)
theorem law03_GraphMakes_fzx2 {α : Type} (y438 : Bool) (y473 : Graph) (y588 : ((List I4) × Int)) (s604 : Int) (k : St → Option α) : P56 1 (bodyOf (bodyOf (bodyOf C56.r.r.r.r.r.r.l.r)).r.l).r.t ⟨[(1, .one (.ref 0 0)), (3, rb y438), (4, .one (.ow tsI4 y588.1 (.v 4))), (6, ri s604)], [(tsGraph.leaves y473)], [], 129⟩ k = k ⟨[(2, rb false)], [[]], [], 129⟩ := by kernel_rfl
theorem law03_GraphMakes_r10 {α : Type} (y438 : Bool) (y473 : Graph) (y588 : ((List I4) × Int)) (s604 : Int) (k : Kont α) : R56 (bodyOf (bodyOf C56.r.r.r.r.r.r.l.r)).r.r ⟨[(1, .one (.ref 0 0)), (3, rb y438), (4, .one (.ow tsI4 y588.1 (.v 4))), (6, ri s604)], [(tsGraph.leaves y473)], [], 129⟩ k = k .normal ⟨[(1, .one (.ref 0 0)), (3, rb y438), (4, .one (.ow tsI4 y588.1 (.v 4))), (6, ri (IntKind.wrap .i64 (s604 + (1 : Int))))], [(tsGraph.leaves y473)], [], 129⟩ := by kernel_rfl
def law03_GraphMakes_l9_q {β : Type} (y473 : Graph) (y588 : ((List I4) × Int)) (s604 : Int) (K0 : Int → Option β) (K1 : Int → Option β) (K2 : Unit → Option β) : Option β := (bif (decide (s604 < (y588.1.length : Int))) then (Option.bind (law03_GraphMakes_r11_p y473 y588 s604) (fun y606 : Bool => (bif y606 then (K2 ()) else (K0 (IntKind.wrap .i64 (s604 + (1 : Int))))))) else (K1 s604))
def law03_GraphMakes_l9_p (y473 : Graph) (y588 : ((List I4) × Int)) (s604 : Int) : Option (Int ⊕ (Int ⊕ Unit)) := law03_GraphMakes_l9_q y473 y588 s604 (fun y => some (Sum.inl y)) (fun y => some (Sum.inr (Sum.inl y))) (fun y => some (Sum.inr (Sum.inr y)))
theorem law03_GraphMakes_l9_n {β : Type} (y473 : Graph) (y588 : ((List I4) × Int)) (s604 : Int) (K0 : Int → Option β) (K1 : Int → Option β) (K2 : Unit → Option β) : law03_GraphMakes_l9_q y473 y588 s604 K0 K1 K2 = (law03_GraphMakes_l9_p y473 y588 s604).bind (either K0 (either K1 K2)) := (bif_b (bind_b fun y606 => (bif_b e3_2 e3_0)) e3_1)
theorem law03_GraphMakes_l9_b {α : Type} (y438 : Bool) (y473 : Graph) (y588 : ((List I4) × Int)) (s604 : Int) (k : Kont α) : R56 (bodyOf (bodyOf C56.r.r.r.r.r.r.l.r)) ⟨[(1, .one (.ref 0 0)), (3, rb y438), (4, .one (.ow tsI4 y588.1 (.v 4))), (6, ri s604)], [(tsGraph.leaves y473)], [], 129⟩ (loopKont 1 k) = Option.bind (law03_GraphMakes_l9_p y473 y588 s604) (either (fun y : Int => k .normal ⟨[(1, .one (.ref 0 0)), (3, rb y438), (4, .one (.ow tsI4 y588.1 (.v 4))), (6, ri y)], [(tsGraph.leaves y473)], [], 129⟩) (either (fun y607 : Int => k (.exit 0) ⟨[(1, .one (.ref 0 0)), (3, rb y438), (4, .one (.ow tsI4 y588.1 (.v 4))), (6, ri y607)], [(tsGraph.leaves y473)], [], 129⟩) (fun y608 : Unit => k .ret ⟨[(2, rb false)], [[]], [], 129⟩))) := by
  refine Eq.trans ?_ (law03_GraphMakes_l9_n y473 y588 s604 _ _ _)
  unfold law03_GraphMakes_l9_q
  refine (seq_push (by kernel_rfl)).trans ?_
  refine (pre (n := 1) (c' := (bodyOf (bodyOf C56.r.r.r.r.r.r.l.r)).l.r) (by kernel_rfl) (by kernel_rfl) (law03_GraphMakes_fzx1 y438 y473 y588 s604 _)).trans ?_
  refine (cond_eq (b := (decide (s604 < (y588.1.length : Int)))) (st' := ⟨[(1, .one (.ref 0 0)), (3, rb y438), (4, .one (.ow tsI4 y588.1 (.v 4))), (6, ri s604)], [(tsGraph.leaves y473)], [], 129⟩) (by kernel_rfl) (by kernel_rfl) (by kernel_rfl)).trans (bif_g ?_ ?_)
  · refine (skip_eq (by kernel_rfl)).trans ?_
    refine (seqC_normal (st' := ⟨[(1, .one (.ref 0 0)), (3, rb y438), (4, .one (.ow tsI4 y588.1 (.v 4))), (6, ri s604)], [(tsGraph.leaves y473)], [], 129⟩) (by kernel_rfl)).trans ?_
    refine (seq_push (by kernel_rfl)).trans ?_
    refine (block_push (id := 1) (by kernel_rfl)).trans ?_
    refine (pre (n := 1) (c' := (bodyOf (bodyOf (bodyOf C56.r.r.r.r.r.r.l.r)).r.l).r) (by kernel_rfl) (by kernel_rfl) (law03_GraphMakes_r11 y438 y473 y588 s604 _)).trans (bind_g fun y606 => ?_)
    refine (cond_eq (b := y606) (st' := ⟨[(1, .one (.ref 0 0)), (3, rb y438), (4, .one (.ow tsI4 y588.1 (.v 4))), (6, ri s604)], [(tsGraph.leaves y473)], [], 129⟩) (by kernel_rfl) (by kernel_rfl) (by kernel_rfl)).trans (bif_g ?_ ?_)
    · refine (pre (n := 1) (c' := (bodyOf (bodyOf (bodyOf C56.r.r.r.r.r.r.l.r)).r.l).r.t.r) (by kernel_rfl) (by kernel_rfl) (law03_GraphMakes_fzx2 y438 y473 y588 s604 _)).trans ?_
      refine (ret_eq (by kernel_rfl)).trans ?_
      refine block_ret.trans ?_
      refine seqC_ret.trans ?_
      kernel_rfl
    · refine (skip_eq (by kernel_rfl)).trans ?_
      refine block_normal.trans ?_
      refine (seqC_normal (st' := ⟨[(1, .one (.ref 0 0)), (3, rb y438), (4, .one (.ow tsI4 y588.1 (.v 4))), (6, ri s604)], [(tsGraph.leaves y473)], [], 129⟩) (by kernel_rfl)).trans ?_
      refine (law03_GraphMakes_r10 y438 y473 y588 s604 _).trans ?_
      kernel_rfl
  · refine (exit_eq (j := 0) (by kernel_rfl)).trans ?_
    refine seqC_exit.trans ?_
    kernel_rfl
theorem law03_GraphMakes_l9 {α : Type} (y438 : Bool) (y473 : Graph) (y588 : ((List I4) × Int)) (k : Kont α) : R56 (bodyOf C56.r.r.r.r.r.r.l.r) ⟨[(1, .one (.ref 0 0)), (3, rb y438), (4, .one (.ow tsI4 y588.1 (.v 4))), (6, ri (0 : Int))], [(tsGraph.leaves y473)], [], 129⟩ k = Option.bind (iterN (law03_GraphMakes_l9_p y473 y588) LL (0 : Int)) (either (fun y607 : Int => k (.exit 0) ⟨[(1, .one (.ref 0 0)), (3, rb y438), (4, .one (.ow tsI4 y588.1 (.v 4))), (6, ri y607)], [(tsGraph.leaves y473)], [], 129⟩) (fun y608 : Unit => k .ret ⟨[(2, rb false)], [[]], [], 129⟩)) :=
  Eq.trans (by kernel_rfl) (loop_iter2 (S := fun s604 : Int => ⟨[(1, .one (.ref 0 0)), (3, rb y438), (4, .one (.ow tsI4 y588.1 (.v 4))), (6, ri s604)], [(tsGraph.leaves y473)], [], 129⟩) (Y1 := fun y607 : Int => ((.exit 0), ⟨[(1, .one (.ref 0 0)), (3, rb y438), (4, .one (.ow tsI4 y588.1 (.v 4))), (6, ri y607)], [(tsGraph.leaves y473)], [], 129⟩)) (Y2 := fun y608 : Unit => (.ret, ⟨[(2, rb false)], [[]], [], 129⟩)) (fun s k => law03_GraphMakes_l9_b y438 y473 y588 s k) (fun z => rfl) (fun z => rfl) LL (0 : Int))
theorem law03_GraphMakes_f14 {α : Type} (y438 : Bool) (y473 : Graph) (k : St → Option α) : P56 1 C56.r.r.r.r.r.r.r ⟨[(1, .one (.ref 0 0)), (3, rb y438)], [(tsGraph.leaves y473)], [], 129⟩ k = k ⟨[(1, .one (.ref 0 0)), (3, rb y438), (7, .one (.ref 1 0))], [(tsGraph.leaves y473), (tsGraph.leaves y473)], [], 129⟩ := by kernel_rfl
theorem law03_GraphMakes_f1000015 {α : Type} (y438 : Bool) (y473 : Graph) (k : St → Option α) : P56 1 C56.r.r.r.r.r.r.r.r.l ⟨[(1, .one (.ref 0 0)), (3, rb y438), (7, .one (.ref 1 0))], [(tsGraph.leaves y473), (tsGraph.leaves y473)], [], 129⟩ k = k ⟨[(1, .one (.ref 0 0)), (3, rb y438), (7, .one (.ref 1 0)), (79, rb (decide ((y473.2.1.length : Int) > (0 : Int))))], [(tsGraph.leaves y473), (tsGraph.leaves y473)], [], 129⟩ := by kernel_rfl
def law03_GraphMakes_r15_q {β : Type} (y473 : Graph) (K : (List Node) → Option β) : Option β := (bif (decide ((0 : Int) ≤ (IntKind.wrap .i64 ((y473.2.1.length : Int) - (1 : Int))))) then (bif (decide ((IntKind.wrap .i64 ((y473.2.1.length : Int) - (1 : Int))) ≤ (y473.2.1.length : Int))) then (K ((y473.2.1.take (Int.toNat (IntKind.wrap .i64 ((y473.2.1.length : Int) - (1 : Int))))).drop (Int.toNat (0 : Int)))) else none) else none)
def law03_GraphMakes_r15_p (y473 : Graph) : Option ((List Node)) := law03_GraphMakes_r15_q y473 some
theorem law03_GraphMakes_r15_n {β : Type} (y473 : Graph) (K : (List Node) → Option β) : law03_GraphMakes_r15_q y473 K = (law03_GraphMakes_r15_p y473).bind K := (bif_b (bif_b some_b none_b) none_b)
theorem law03_GraphMakes_r15 {α : Type} (y438 : Bool) (y473 : Graph) (k : Kont α) : R56 C56.r.r.r.r.r.r.r.r.l.r.t ⟨[(1, .one (.ref 0 0)), (3, rb y438), (7, .one (.ref 1 0))], [(tsGraph.leaves y473), (tsGraph.leaves y473)], [], 129⟩ k = Option.bind (law03_GraphMakes_r15_p y473) (fun y609 : (List Node) => k .normal ⟨[(1, .one (.ref 0 0)), (3, rb y438), (7, .one (.ref 1 0))], [(tsGraph.leaves y473), [dl tsI4 y473.1, dl tsNode y609, dl (.one (.int .i64)) y473.2.2]], [], 129⟩) := Eq.trans (by kernel_rfl) (law03_GraphMakes_r15_n y473 _)
def law03_GraphMakes_j14_q {β : Type} (y473 : Graph) (K : (List Node) → Option β) : Option β := (bif (decide ((y473.2.1.length : Int) > (0 : Int))) then (Option.bind (law03_GraphMakes_r15_p y473) (fun y609 : (List Node) => (K y609))) else (K y473.2.1))
def law03_GraphMakes_j14_p (y473 : Graph) : Option ((List Node)) := law03_GraphMakes_j14_q y473 some
theorem law03_GraphMakes_j14_n {β : Type} (y473 : Graph) (K : (List Node) → Option β) : law03_GraphMakes_j14_q y473 K = (law03_GraphMakes_j14_p y473).bind K := (bif_b (bind_b fun y609 => some_b) some_b)
theorem law03_GraphMakes_j14 {α : Type} (y438 : Bool) (y473 : Graph) (k : Kont α) : R56 C56.r.r.r.r.r.r.r.r.l ⟨[(1, .one (.ref 0 0)), (3, rb y438), (7, .one (.ref 1 0))], [(tsGraph.leaves y473), (tsGraph.leaves y473)], [], 129⟩ (Q56 C56.r.r.r.r.r.r.r.r.r k) = Option.bind (law03_GraphMakes_j14_p y473) (fun y610 : (List Node) => R56 C56.r.r.r.r.r.r.r.r.r ⟨[(1, .one (.ref 0 0)), (3, rb y438), (7, .one (.ref 1 0))], [(tsGraph.leaves y473), [dl tsI4 y473.1, dl tsNode y610, dl (.one (.int .i64)) y473.2.2]], [], 129⟩ k) := by
  refine Eq.trans ?_ (law03_GraphMakes_j14_n y473 _)
  unfold law03_GraphMakes_j14_q
  refine (pre (n := 1) (c' := C56.r.r.r.r.r.r.r.r.l.r) (by kernel_rfl) (by kernel_rfl) (law03_GraphMakes_f1000015 y438 y473 _)).trans ?_
  refine (cond_eq (b := (decide ((y473.2.1.length : Int) > (0 : Int)))) (st' := ⟨[(1, .one (.ref 0 0)), (3, rb y438), (7, .one (.ref 1 0))], [(tsGraph.leaves y473), (tsGraph.leaves y473)], [], 129⟩) (by kernel_rfl) (by kernel_rfl) (by kernel_rfl)).trans (bif_g ?_ ?_)
  · refine (law03_GraphMakes_r15 y438 y473 _).trans (bind_g fun y609 => ?_)
    refine (seqC_normal (st' := ⟨[(1, .one (.ref 0 0)), (3, rb y438), (7, .one (.ref 1 0))], [(tsGraph.leaves y473), [dl tsI4 y473.1, dl tsNode y609, dl (.one (.int .i64)) y473.2.2]], [], 129⟩) (by kernel_rfl)).trans ?_
    kernel_rfl
  · refine (skip_eq (by kernel_rfl)).trans ?_
    refine (seqC_normal (st' := ⟨[(1, .one (.ref 0 0)), (3, rb y438), (7, .one (.ref 1 0))], [(tsGraph.leaves y473), (tsGraph.leaves y473)], [], 129⟩) (by kernel_rfl)).trans ?_
    kernel_rfl
theorem law03_GraphMakes_f17 {α : Type} (y438 : Bool) (y473 : Graph) (y610 : (List Node)) (k : St → Option α) : P56 1 C56.r.r.r.r.r.r.r.r.r ⟨[(1, .one (.ref 0 0)), (3, rb y438), (7, .one (.ref 1 0))], [(tsGraph.leaves y473), [dl tsI4 y473.1, dl tsNode y610, dl (.one (.int .i64)) y473.2.2]], [], 129⟩ k = k ⟨[(1, .one (.ref 0 0)), (3, rb y438), (7, .one (.ref 1 0)), (8, rb false)], [(tsGraph.leaves y473), [dl tsI4 y473.1, dl tsNode y610, dl (.one (.int .i64)) y473.2.2]], [], 129⟩ := by kernel_rfl
theorem law03_GraphMakes_f18 {α : Type} (y438 : Bool) (y473 : Graph) (y610 : (List Node)) (k : St → Option α) : P56 1 C56.r.r.r.r.r.r.r.r.r.r.l ⟨[(1, .one (.ref 0 0)), (3, rb y438), (7, .one (.ref 1 0)), (8, rb false)], [(tsGraph.leaves y473), [dl tsI4 y473.1, dl tsNode y610, dl (.one (.int .i64)) y473.2.2]], [], 129⟩ k = k ⟨[(1, .one (.ref 0 0)), (3, rb y438), (7, .one (.ref 1 0)), (8, rb false), (9, ri (0 : Int))], [(tsGraph.leaves y473), [dl tsI4 y473.1, dl tsNode y610, dl (.one (.int .i64)) y473.2.2]], [], 129⟩ := by kernel_rfl
theorem law03_GraphMakes_fzx3 {α : Type} (y438 : Bool) (y473 : Graph) (y610 : (List Node)) (s621 : (Bool × Int)) (k : St → Option α) : P56 1 (bodyOf (bodyOf C56.r.r.r.r.r.r.r.r.r.r.l.r)).l ⟨[(1, .one (.ref 0 0)), (3, rb y438), (7, .one (.ref 1 0)), (8, rb s621.1), (9, ri s621.2)], [(tsGraph.leaves y473), [dl tsI4 y473.1, dl tsNode y610, dl (.one (.int .i64)) y473.2.2]], [], 129⟩ k = k ⟨[(1, .one (.ref 0 0)), (3, rb y438), (7, .one (.ref 1 0)), (8, rb s621.1), (9, ri s621.2), (92, rb (decide (s621.2 < (y473.2.2.length : Int))))], [(tsGraph.leaves y473), [dl tsI4 y473.1, dl tsNode y610, dl (.one (.int .i64)) y473.2.2]], [], 129⟩ := by kernel_rfl
def law03_GraphMakes_r20_q {β : Type} (y473 : Graph) (y610 : (List Node)) (s621 : (Bool × Int)) (K : Bool → Option β) : Option β := (bif s621.1 then (K true) else (bif (decide ((0 : Int) ≤ s621.2)) then (bif (decide (s621.2 < (y473.2.2.length : Int))) then (K (decide ((gt y473.2.2 s621.2 (0 : Int)) ≥ (IntKind.wrap .i64 ((y473.1.length : Int) + (y610.length : Int)))))) else none) else none))
def law03_GraphMakes_r20_p (y473 : Graph) (y610 : (List Node)) (s621 : (Bool × Int)) : Option (Bool) := law03_GraphMakes_r20_q y473 y610 s621 some
theorem law03_GraphMakes_r20_n {β : Type} (y473 : Graph) (y610 : (List Node)) (s621 : (Bool × Int)) (K : Bool → Option β) : law03_GraphMakes_r20_q y473 y610 s621 K = (law03_GraphMakes_r20_p y473 y610 s621).bind K := (bif_b some_b (bif_b (bif_b some_b none_b) none_b))
theorem law03_GraphMakes_r20 {α : Type} (y438 : Bool) (y473 : Graph) (y610 : (List Node)) (s621 : (Bool × Int)) (k : Kont α) : R56 (bodyOf (bodyOf (bodyOf C56.r.r.r.r.r.r.r.r.r.r.l.r)).r.l) ⟨[(1, .one (.ref 0 0)), (3, rb y438), (7, .one (.ref 1 0)), (8, rb s621.1), (9, ri s621.2)], [(tsGraph.leaves y473), [dl tsI4 y473.1, dl tsNode y610, dl (.one (.int .i64)) y473.2.2]], [], 129⟩ k = Option.bind (law03_GraphMakes_r20_p y473 y610 s621) (fun y623 : Bool => k .normal ⟨[(1, .one (.ref 0 0)), (3, rb y438), (7, .one (.ref 1 0)), (8, rb y623), (9, ri s621.2)], [(tsGraph.leaves y473), [dl tsI4 y473.1, dl tsNode y610, dl (.one (.int .i64)) y473.2.2]], [], 129⟩) := Eq.trans (by kernel_rfl) (law03_GraphMakes_r20_n y473 y610 s621 _)
theorem law03_GraphMakes_r19 {α : Type} (y438 : Bool) (y473 : Graph) (y610 : (List Node)) (s621 : (Bool × Int)) (y623 : Bool) (k : Kont α) : R56 (bodyOf (bodyOf C56.r.r.r.r.r.r.r.r.r.r.l.r)).r.r ⟨[(1, .one (.ref 0 0)), (3, rb y438), (7, .one (.ref 1 0)), (8, rb y623), (9, ri s621.2)], [(tsGraph.leaves y473), [dl tsI4 y473.1, dl tsNode y610, dl (.one (.int .i64)) y473.2.2]], [], 129⟩ k = k .normal ⟨[(1, .one (.ref 0 0)), (3, rb y438), (7, .one (.ref 1 0)), (8, rb y623), (9, ri (IntKind.wrap .i64 (s621.2 + (1 : Int))))], [(tsGraph.leaves y473), [dl tsI4 y473.1, dl tsNode y610, dl (.one (.int .i64)) y473.2.2]], [], 129⟩ := by kernel_rfl
def law03_GraphMakes_l18_q {β : Type} (y473 : Graph) (y610 : (List Node)) (s621 : (Bool × Int)) (K0 : (Bool × Int) → Option β) (K1 : (Bool × Int) → Option β) : Option β := (bif (decide (s621.2 < (y473.2.2.length : Int))) then (Option.bind (law03_GraphMakes_r20_p y473 y610 s621) (fun y623 : Bool => (K0 (y623, (IntKind.wrap .i64 (s621.2 + (1 : Int))))))) else (K1 s621))
def law03_GraphMakes_l18_p (y473 : Graph) (y610 : (List Node)) (s621 : (Bool × Int)) : Option ((Bool × Int) ⊕ ((Bool × Int))) := law03_GraphMakes_l18_q y473 y610 s621 (fun y => some (Sum.inl y)) (fun y => some (Sum.inr y))
theorem law03_GraphMakes_l18_n {β : Type} (y473 : Graph) (y610 : (List Node)) (s621 : (Bool × Int)) (K0 : (Bool × Int) → Option β) (K1 : (Bool × Int) → Option β) : law03_GraphMakes_l18_q y473 y610 s621 K0 K1 = (law03_GraphMakes_l18_p y473 y610 s621).bind (either K0 K1) := (bif_b (bind_b fun y623 => e2_0) e2_1)
theorem law03_GraphMakes_l18_b {α : Type} (y438 : Bool) (y473 : Graph) (y610 : (List Node)) (s621 : (Bool × Int)) (k : Kont α) : R56 (bodyOf (bodyOf C56.r.r.r.r.r.r.r.r.r.r.l.r)) ⟨[(1, .one (.ref 0 0)), (3, rb y438), (7, .one (.ref 1 0)), (8, rb s621.1), (9, ri s621.2)], [(tsGraph.leaves y473), [dl tsI4 y473.1, dl tsNode y610, dl (.one (.int .i64)) y473.2.2]], [], 129⟩ (loopKont 2 k) = Option.bind (law03_GraphMakes_l18_p y473 y610 s621) (either (fun y : (Bool × Int) => k .normal ⟨[(1, .one (.ref 0 0)), (3, rb y438), (7, .one (.ref 1 0)), (8, rb y.1), (9, ri y.2)], [(tsGraph.leaves y473), [dl tsI4 y473.1, dl tsNode y610, dl (.one (.int .i64)) y473.2.2]], [], 129⟩) (fun y624 : (Bool × Int) => k (.exit 2) ⟨[(1, .one (.ref 0 0)), (3, rb y438), (7, .one (.ref 1 0)), (8, rb y624.1), (9, ri y624.2)], [(tsGraph.leaves y473), [dl tsI4 y473.1, dl tsNode y610, dl (.one (.int .i64)) y473.2.2]], [], 129⟩)) := by
  refine Eq.trans ?_ (law03_GraphMakes_l18_n y473 y610 s621 _ _)
  unfold law03_GraphMakes_l18_q
  refine (seq_push (by kernel_rfl)).trans ?_
  refine (pre (n := 1) (c' := (bodyOf (bodyOf C56.r.r.r.r.r.r.r.r.r.r.l.r)).l.r) (by kernel_rfl) (by kernel_rfl) (law03_GraphMakes_fzx3 y438 y473 y610 s621 _)).trans ?_
  refine (cond_eq (b := (decide (s621.2 < (y473.2.2.length : Int)))) (st' := ⟨[(1, .one (.ref 0 0)), (3, rb y438), (7, .one (.ref 1 0)), (8, rb s621.1), (9, ri s621.2)], [(tsGraph.leaves y473), [dl tsI4 y473.1, dl tsNode y610, dl (.one (.int .i64)) y473.2.2]], [], 129⟩) (by kernel_rfl) (by kernel_rfl) (by kernel_rfl)).trans (bif_g ?_ ?_)
  · refine (skip_eq (by kernel_rfl)).trans ?_
    refine (seqC_normal (st' := ⟨[(1, .one (.ref 0 0)), (3, rb y438), (7, .one (.ref 1 0)), (8, rb s621.1), (9, ri s621.2)], [(tsGraph.leaves y473), [dl tsI4 y473.1, dl tsNode y610, dl (.one (.int .i64)) y473.2.2]], [], 129⟩) (by kernel_rfl)).trans ?_
    refine (seq_push (by kernel_rfl)).trans ?_
    refine (block_push (id := 3) (by kernel_rfl)).trans ?_
    refine (law03_GraphMakes_r20 y438 y473 y610 s621 _).trans (bind_g fun y623 => ?_)
    refine block_normal.trans ?_
    refine (seqC_normal (st' := ⟨[(1, .one (.ref 0 0)), (3, rb y438), (7, .one (.ref 1 0)), (8, rb y623), (9, ri s621.2)], [(tsGraph.leaves y473), [dl tsI4 y473.1, dl tsNode y610, dl (.one (.int .i64)) y473.2.2]], [], 129⟩) (by kernel_rfl)).trans ?_
    refine (law03_GraphMakes_r19 y438 y473 y610 s621 y623 _).trans ?_
    kernel_rfl
  · refine (exit_eq (j := 2) (by kernel_rfl)).trans ?_
    refine seqC_exit.trans ?_
    kernel_rfl
theorem law03_GraphMakes_l18 {α : Type} (y438 : Bool) (y473 : Graph) (y610 : (List Node)) (k : Kont α) : R56 (bodyOf C56.r.r.r.r.r.r.r.r.r.r.l.r) ⟨[(1, .one (.ref 0 0)), (3, rb y438), (7, .one (.ref 1 0)), (8, rb false), (9, ri (0 : Int))], [(tsGraph.leaves y473), [dl tsI4 y473.1, dl tsNode y610, dl (.one (.int .i64)) y473.2.2]], [], 129⟩ k = Option.bind (iterN (law03_GraphMakes_l18_p y473 y610) LL (false, (0 : Int))) (fun y624 : (Bool × Int) => k (.exit 2) ⟨[(1, .one (.ref 0 0)), (3, rb y438), (7, .one (.ref 1 0)), (8, rb y624.1), (9, ri y624.2)], [(tsGraph.leaves y473), [dl tsI4 y473.1, dl tsNode y610, dl (.one (.int .i64)) y473.2.2]], [], 129⟩) :=
  Eq.trans (by kernel_rfl) (loop_iter1 (S := fun s621 : (Bool × Int) => ⟨[(1, .one (.ref 0 0)), (3, rb y438), (7, .one (.ref 1 0)), (8, rb s621.1), (9, ri s621.2)], [(tsGraph.leaves y473), [dl tsI4 y473.1, dl tsNode y610, dl (.one (.int .i64)) y473.2.2]], [], 129⟩) (Y1 := fun y624 : (Bool × Int) => ((.exit 2), ⟨[(1, .one (.ref 0 0)), (3, rb y438), (7, .one (.ref 1 0)), (8, rb y624.1), (9, ri y624.2)], [(tsGraph.leaves y473), [dl tsI4 y473.1, dl tsNode y610, dl (.one (.int .i64)) y473.2.2]], [], 129⟩)) (fun s k => law03_GraphMakes_l18_b y438 y473 y610 s k) (fun z => rfl) LL (false, (0 : Int)))
theorem law03_GraphMakes_r21 {α : Type} (y438 : Bool) (y473 : Graph) (y610 : (List Node)) (y624 : (Bool × Int)) (k : St → Option α) : P56 1 C56.r.r.r.r.r.r.r.r.r.r.r ⟨[(3, rb y438), (7, .one (.ref 1 0)), (8, rb y624.1)], [(tsGraph.leaves y473), [dl tsI4 y473.1, dl tsNode y610, dl (.one (.int .i64)) y473.2.2]], [], 129⟩ k = Option.bind (graph_Check (y473.1, y610, y473.2.2)) fun y626 : Int => k ⟨[(3, rb y438), (8, rb y624.1), (10, ri y626)], [(tsGraph.leaves y473), []], [], 129⟩ := by kernel_rfl
def law03_GraphMakes_r22_q {β : Type} (y438 : Bool) (y624 : (Bool × Int)) (y626 : Int) (K : Bool → β) : β := (bif y438 then (bif y624.1 then (bif (y626 == (13 : Int)) then (K true) else (bif (!y624.1) then (K (y626 == (0 : Int))) else (K false))) else (bif (!y624.1) then (K (y626 == (0 : Int))) else (K false))) else (K false))
def law03_GraphMakes_r22_p (y438 : Bool) (y624 : (Bool × Int)) (y626 : Int) : Bool := law03_GraphMakes_r22_q y438 y624 y626 (fun y => y)
theorem law03_GraphMakes_r22_n {β : Type} (y438 : Bool) (y624 : (Bool × Int)) (y626 : Int) (K : Bool → β) : law03_GraphMakes_r22_q y438 y624 y626 K = K (law03_GraphMakes_r22_p y438 y624 y626) := (bif_k K (bif_k K (bif_k K rfl (bif_k K rfl rfl)) (bif_k K rfl rfl)) rfl)
theorem law03_GraphMakes_r22 {α : Type} (y438 : Bool) (y473 : Graph) (y624 : (Bool × Int)) (y626 : Int) (k : St → Option α) : P56 1 C56.r.r.r.r.r.r.r.r.r.r.r.r ⟨[(3, rb y438), (8, rb y624.1), (10, ri y626)], [(tsGraph.leaves y473), []], [], 129⟩ k = k ⟨[(2, rb (law03_GraphMakes_r22_p y438 y624 y626))], [(tsGraph.leaves y473), []], [], 129⟩ := Eq.trans (by kernel_rfl) (law03_GraphMakes_r22_n y438 y624 y626 (fun y627 : Bool => k ⟨[(2, rb y627)], [(tsGraph.leaves y473), []], [], 129⟩))
/-- quilt/quiltlaw03.GraphMakes -/
def law03_GraphMakes_q {β : Type} (g_ : Graph) (K : Bool → Option β) : Option β := (Option.bind law03_shown (fun y438 : Bool => (Option.bind (law03_less g_) (fun y473 : Graph => (Option.bind (graph_Values y473) (fun y588 : ((List I4) × Int) => (bif (y588.2 != (0 : Int)) then (K (law03_GraphMakes_r5_p y438 y588)) else (bif (law03_GraphMakes_r6_p y473 y588) then (K false) else (Option.bind (iterN (law03_GraphMakes_l9_p y473 y588) LL (0 : Int)) (either (fun y607 : Int => (Option.bind (law03_GraphMakes_j14_p y473) (fun y610 : (List Node) => (Option.bind (iterN (law03_GraphMakes_l18_p y473 y610) LL (false, (0 : Int))) (fun y624 : (Bool × Int) => (Option.bind (graph_Check (y473.1, y610, y473.2.2)) (fun y626 : Int => (K (law03_GraphMakes_r22_p y438 y624 y626))))))))) (fun y608 : Unit => (K false))))))))))))
def law03_GraphMakes (g_ : Graph) : Option Bool := law03_GraphMakes_q g_ some
theorem law03_GraphMakes_n {β : Type} (g_ : Graph) (K : Bool → Option β) : law03_GraphMakes_q g_ K = (law03_GraphMakes g_).bind K := (bind_b fun y438 => (bind_b fun y473 => (bind_b fun y588 => (bif_b some_b (bif_b some_b (bind_b (either_b (fun y607 => (bind_b fun y610 => (bind_b fun y624 => (bind_b fun y626 => some_b)))) (fun y608 => some_b))))))))
theorem law03_GraphMakes_is (g_ : Graph) : stepS E cp56 noE 8 [.agg (tsGraph.leaves g_)] = Option.bind (law03_GraphMakes g_) (fun y : Bool => some (rb y : R)) := by
  refine Eq.trans ?_ (law03_GraphMakes_n g_ (fun y : Bool => some (rb y : R)))
  refine (stepG_is (nt := 129) (regs := [(0, .agg (tsGraph.leaves g_))]) (by kernel_rfl) (by kernel_rfl)).trans ?_
  unfold law03_GraphMakes_q
  refine (pre (n := 2) (c' := C56.r.r) (by kernel_rfl) (by kernel_rfl) (law03_GraphMakes_r1 g_ _)).trans (bind_g fun y438 => ?_)
  refine (pre (n := 1) (c' := C56.r.r.r) (by kernel_rfl) (by kernel_rfl) (law03_GraphMakes_r2 g_ y438 _)).trans (bind_g fun y473 => ?_)
  refine (pre (n := 1) (c' := C56.r.r.r.r) (by kernel_rfl) (by kernel_rfl) (law03_GraphMakes_r3 y438 y473 _)).trans (bind_g fun y588 => ?_)
  refine (seq_push (by kernel_rfl)).trans ?_
  refine (pre (n := 1) (c' := C56.r.r.r.r.l.r) (by kernel_rfl) (by kernel_rfl) (law03_GraphMakes_f1000005 y438 y473 y588 _)).trans ?_
  refine (cond_eq (b := (y588.2 != (0 : Int))) (st' := ⟨[(1, .one (.ref 0 0)), (3, rb y438), (4, .one (.ow tsI4 y588.1 (.v 4)))], [(tsGraph.leaves y473)], [], 129⟩) (by kernel_rfl) (by kernel_rfl) (by kernel_rfl)).trans (bif_g ?_ ?_)
  · refine (pre (n := 1) (c' := C56.r.r.r.r.l.r.t.r) (by kernel_rfl) (by kernel_rfl) (law03_GraphMakes_r5 y438 y473 y588 _)).trans ?_
    refine (ret_eq (by kernel_rfl)).trans ?_
    refine seqC_ret.trans ?_
    kernel_rfl
  · refine (skip_eq (by kernel_rfl)).trans ?_
    refine (seqC_normal (st' := ⟨[(1, .one (.ref 0 0)), (3, rb y438), (4, .one (.ow tsI4 y588.1 (.v 4)))], [(tsGraph.leaves y473)], [], 129⟩) (by kernel_rfl)).trans ?_
    refine (seq_push (by kernel_rfl)).trans ?_
    refine (pre (n := 1) (c' := C56.r.r.r.r.r.l.r) (by kernel_rfl) (by kernel_rfl) (law03_GraphMakes_r6 y438 y473 y588 _)).trans ?_
    refine (cond_eq (b := (law03_GraphMakes_r6_p y473 y588)) (st' := ⟨[(1, .one (.ref 0 0)), (3, rb y438), (4, .one (.ow tsI4 y588.1 (.v 4)))], [(tsGraph.leaves y473)], [], 129⟩) (by kernel_rfl) (by kernel_rfl) (by kernel_rfl)).trans (bif_g ?_ ?_)
    · refine (pre (n := 1) (c' := C56.r.r.r.r.r.l.r.t.r) (by kernel_rfl) (by kernel_rfl) (law03_GraphMakes_fz y438 y473 y588 _)).trans ?_
      refine (ret_eq (by kernel_rfl)).trans ?_
      refine seqC_ret.trans ?_
      kernel_rfl
    · refine (skip_eq (by kernel_rfl)).trans ?_
      refine (seqC_normal (st' := ⟨[(1, .one (.ref 0 0)), (3, rb y438), (4, .one (.ow tsI4 y588.1 (.v 4)))], [(tsGraph.leaves y473)], [], 129⟩) (by kernel_rfl)).trans ?_
      refine (seq_push (by kernel_rfl)).trans ?_
      refine (pre (n := 1) (c' := C56.r.r.r.r.r.r.l.r) (by kernel_rfl) (by kernel_rfl) (law03_GraphMakes_f9 y438 y473 y588 _)).trans ?_
      refine (block_push (id := 0) (by kernel_rfl)).trans ?_
      refine (law03_GraphMakes_l9 y438 y473 y588 _).trans (bind_g (either_g (fun y607 => ?_) (fun y608 => ?_)))
      · refine block_same.trans ?_
        refine (seqC_normal (st' := ⟨[(1, .one (.ref 0 0)), (3, rb y438)], [(tsGraph.leaves y473)], [], 129⟩) (by kernel_rfl)).trans ?_
        refine (pre (n := 1) (c' := C56.r.r.r.r.r.r.r.r) (by kernel_rfl) (by kernel_rfl) (law03_GraphMakes_f14 y438 y473 _)).trans ?_
        refine (seq_push (by kernel_rfl)).trans ?_
        refine (law03_GraphMakes_j14 y438 y473 _).trans (bind_g fun y610 => ?_)
        refine (pre (n := 1) (c' := C56.r.r.r.r.r.r.r.r.r.r) (by kernel_rfl) (by kernel_rfl) (law03_GraphMakes_f17 y438 y473 y610 _)).trans ?_
        refine (seq_push (by kernel_rfl)).trans ?_
        refine (pre (n := 1) (c' := C56.r.r.r.r.r.r.r.r.r.r.l.r) (by kernel_rfl) (by kernel_rfl) (law03_GraphMakes_f18 y438 y473 y610 _)).trans ?_
        refine (block_push (id := 2) (by kernel_rfl)).trans ?_
        refine (law03_GraphMakes_l18 y438 y473 y610 _).trans (bind_g fun y624 => ?_)
        refine block_same.trans ?_
        refine (seqC_normal (st' := ⟨[(3, rb y438), (7, .one (.ref 1 0)), (8, rb y624.1)], [(tsGraph.leaves y473), [dl tsI4 y473.1, dl tsNode y610, dl (.one (.int .i64)) y473.2.2]], [], 129⟩) (by kernel_rfl)).trans ?_
        refine (pre (n := 1) (c' := C56.r.r.r.r.r.r.r.r.r.r.r.r) (by kernel_rfl) (by kernel_rfl) (law03_GraphMakes_r21 y438 y473 y610 y624 _)).trans (bind_g fun y626 => ?_)
        refine (pre (n := 1) (c' := C56.r.r.r.r.r.r.r.r.r.r.r.r.r) (by kernel_rfl) (by kernel_rfl) (law03_GraphMakes_r22 y438 y473 y624 y626 _)).trans ?_
        refine (ret_eq (by kernel_rfl)).trans ?_
        kernel_rfl
      · refine block_ret.trans ?_
        refine seqC_ret.trans ?_
        kernel_rfl
theorem law03_GraphMakes_c (x : denL [(.agg tsGraph)]) : stepS E cp56 noE 8 (encL [(.agg tsGraph)] x) = ((fun x => law03_GraphMakes x.1) x).bind fun y => some (Po.enc (.one (.one (.g .bool))) ((fun y : Bool => y) y)) := Eq.mp (by kernel_rfl) (law03_GraphMakes_is x.1)
noncomputable def cp57 : CallP := withC cp56 8 [(.agg tsGraph)] (.one (.one (.g .bool))) (fun y : Bool => y) (fun x => law03_GraphMakes x.1)
theorem cp57_ok : PureOK E cp57 := withC_ok cp56_ok (stepS_ok eok cp56_ok noE_ok) fun x => con_of (enc := fun y => Po.enc (.one (.one (.g .bool))) ((fun y : Bool => y) y)) (law03_GraphMakes_c x)
theorem law03_GraphMakes_walk (g_ : Graph) (ht : law03_GraphMakes g_ = some true) (w : World) (vs : List Value) (hrd : ∀ γ : Gh, Free γ → rdRs w γ [argR true tsGraph g_] vs) : Calls E.P 8 vs.toArray w fun e w' => e = .returned (.bool true) ∧ Below w.heap.size w w' :=
  walk_true (E := E) (stepS_ok eok cp56_ok noE_ok) (show stepS E cp56 noE 8 [.agg (tsGraph.leaves g_)] = some (.one (.g .bool true)) from by rw [law03_GraphMakes_is, ht]; rfl) w fun γ hγ => Eq.mp (by kernel_rfl) (hrd γ hγ)
end Go.V.P
