/- What functions compute. -/
import Derived.Test.YtokpndlkheofjaaKp3
namespace Go.V.P
open Go.RowKit Go.V Go.Proofs
set_option linter.unusedVariables false
set_option maxRecDepth 100000
section
variable {α : Type} (k_ : Int) (do_ : pane) (do_' : Int) (do_'' : Node) (do_''' : Int) (do_'''' : Int) (c2_ : Int) (c3_ : Int) (s650 : (Int × Int × Int)) (s661 : (Int × Int × Int)) (y663 : (Int × Int)) (y664 : (Int × Int × Int)) (k : St → Option α) (q : Kont α)
noncomputable abbrev C63 := codeOf E.P 82
noncomputable abbrev P63 := @preK α E 82 cp60 ce3
noncomputable abbrev R63 := @runCode α E 82 cp60 ce3
abbrev S63_0 : St := ⟨[(0, ri k_), (1, .one (.fn 87 [.cell (tspane.leaves do_), .cell [di do_'], .cell (tsNode.leaves do_''), .cell [di do_'''], .cell [di do_''''], .ref 0 0, .ref 1 0])), (6, ri k_), (7, ri 0)], [[di c2_], [di c3_]], [], 20⟩
theorem kern_slide_s2_f1 : P63 1 C63 ⟨[(0, ri k_), (1, .one (.fn 87 [.cell (tspane.leaves do_), .cell [di do_'], .cell (tsNode.leaves do_''), .cell [di do_'''], .cell [di do_''''], .ref 0 0, .ref 1 0]))], [[di c2_], [di c3_]], [], 20⟩ k = k (S63_0 k_ do_ do_' do_'' do_''' do_'''' c2_ c3_) := by kernel_rfl
abbrev S63_1 : St := ⟨[(0, ri k_), (1, .one (.fn 87 [.cell (tspane.leaves do_), .cell [di do_'], .cell (tsNode.leaves do_''), .cell [di do_'''], .cell [di do_''''], .ref 0 0, .ref 1 0])), (6, ri k_), (7, ri s650.1)], [[di s650.2.1], [di s650.2.2]], [], 20⟩
theorem kern_slide_s2_fz : P63 1 C63.r.b.b (S63_1 k_ do_ do_' do_'' do_''' do_'''' s650) k = k ⟨[(0, ri k_), (1, .one (.fn 87 [.cell (tspane.leaves do_), .cell [di do_'], .cell (tsNode.leaves do_''), .cell [di do_'''], .cell [di do_''''], .ref 0 0, .ref 1 0])), (6, ri k_), (7, ri s650.1), (8, rb (decide (s650.1 < k_)))], [[di s650.2.1], [di s650.2.2]], [], 20⟩ := by kernel_rfl
abbrev S63_2 : St := ⟨[(0, ri k_), (1, .one (.fn 87 [.cell (tspane.leaves do_), .cell [di do_'], .cell (tsNode.leaves do_''), .cell [di do_'''], .cell [di do_''''], .ref 0 0, .ref 1 0])), (4, ri s650.1), (6, ri k_), (7, ri s650.1), (10, ri k_), (11, ri 0)], [[di s650.2.1], [di s650.2.2]], [], 20⟩
theorem kern_slide_s2_f4 : P63 2 C63.r.b.b.r.r.l.b (S63_1 k_ do_ do_' do_'' do_''' do_'''' s650) k = k (S63_2 k_ do_ do_' do_'' do_''' do_'''' s650) := by kernel_rfl
abbrev S63_3 : St := ⟨[(0, ri k_), (1, .one (.fn 87 [.cell (tspane.leaves do_), .cell [di do_'], .cell (tsNode.leaves do_''), .cell [di do_'''], .cell [di do_''''], .ref 0 0, .ref 1 0])), (4, ri s650.1), (6, ri k_), (7, ri s650.1), (10, ri k_), (11, ri s661.1)], [[di s661.2.1], [di s661.2.2]], [], 20⟩
theorem kern_slide_s2_fzx1 : P63 1 C63.r.b.b.r.r.l.b.r.r.b.b (S63_3 k_ do_ do_' do_'' do_''' do_'''' s650 s661) k = k ⟨[(0, ri k_), (1, .one (.fn 87 [.cell (tspane.leaves do_), .cell [di do_'], .cell (tsNode.leaves do_''), .cell [di do_'''], .cell [di do_''''], .ref 0 0, .ref 1 0])), (4, ri s650.1), (6, ri k_), (7, ri s650.1), (10, ri k_), (11, ri s661.1), (12, rb (decide (s661.1 < k_)))], [[di s661.2.1], [di s661.2.2]], [], 20⟩ := by kernel_rfl
abbrev S63_4 : St := ⟨[(0, ri k_), (1, .one (.fn 87 [.cell (tspane.leaves do_), .cell [di do_'], .cell (tsNode.leaves do_''), .cell [di do_'''], .cell [di do_''''], .ref 0 0, .ref 1 0])), (4, ri s650.1), (5, ri s661.1), (6, ri k_), (7, ri s650.1), (10, ri k_), (11, ri s661.1)], [[di s661.2.1], [di s661.2.2]], [], 20⟩
theorem kern_slide_s2_f6 : P63 1 C63.r.b.b.r.r.l.b.r.r.b.b.r.r.l.b (S63_3 k_ do_ do_' do_'' do_''' do_'''' s650 s661) k = k (S63_4 k_ do_ do_' do_'' do_''' do_'''' s650 s661) := by kernel_rfl
abbrev S63_5 : St := ⟨[(0, ri k_), (1, .one (.fn 87 [.cell (tspane.leaves do_), .cell [di do_'], .cell (tsNode.leaves do_''), .cell [di do_'''], .cell [di do_''''], .ref 0 0, .ref 1 0])), (4, ri s650.1), (6, ri k_), (7, ri s650.1), (10, ri k_), (11, ri s661.1)], [[di y663.1], [di y663.2]], [], 20⟩
theorem kern_slide_s2_r6 : R63 C63.r.b.b.r.r.l.b.r.r.b.b.r.r.l.b.r (S63_4 k_ do_ do_' do_'' do_''' do_'''' s650 s661) q = Option.bind (kern_pool_1_1 s650.1 s661.1 do_ do_' do_'' do_''' do_'''' s661.2.1 s661.2.2) fun y663 : (Int × Int) => q .normal (S63_5 k_ do_ do_' do_'' do_''' do_'''' s650 s661 y663) := by kernel_rfl
theorem kern_slide_s2_r7 : R63 C63.r.b.b.r.r.l.b.r.r.b.b.r.r.r (S63_5 k_ do_ do_' do_'' do_''' do_'''' s650 s661 y663) q = q .normal ⟨[(0, ri k_), (1, .one (.fn 87 [.cell (tspane.leaves do_), .cell [di do_'], .cell (tsNode.leaves do_''), .cell [di do_'''], .cell [di do_''''], .ref 0 0, .ref 1 0])), (4, ri s650.1), (6, ri k_), (7, ri s650.1), (10, ri k_), (11, ri (IntKind.wrap .i64 (s661.1 + 1)))], [[di y663.1], [di y663.2]], [], 20⟩ := by kernel_rfl
def kern_slide_s2_l4_p : Option ((Int × Int × Int) ⊕ (Int × Int × Int)) := (bif (decide (s661.1 < k_)) then (Option.bind (kern_pool_1_1 s650.1 s661.1 do_ do_' do_'' do_''' do_'''' s661.2.1 s661.2.2) (fun y663 : (Int × Int) => (some (Sum.inl ((IntKind.wrap .i64 (s661.1 + 1)), y663.1, y663.2))))) else (some (Sum.inr s661)))
abbrev S63_6 : St := ⟨[(0, ri k_), (1, .one (.fn 87 [.cell (tspane.leaves do_), .cell [di do_'], .cell (tsNode.leaves do_''), .cell [di do_'''], .cell [di do_''''], .ref 0 0, .ref 1 0])), (4, ri s650.1), (6, ri k_), (7, ri s650.1), (10, ri k_), (11, ri y664.1)], [[di y664.2.1], [di y664.2.2]], [], 20⟩
theorem kern_slide_s2_l4_b : R63 C63.r.b.b.r.r.l.b.r.r.b.b (S63_3 k_ do_ do_' do_'' do_''' do_'''' s650 s661) (loopKont 2 q) = Option.bind (kern_slide_s2_l4_p k_ do_ do_' do_'' do_''' do_'''' s650 s661) (either (fun y : (Int × Int × Int) => q .normal ⟨[(0, ri k_), (1, .one (.fn 87 [.cell (tspane.leaves do_), .cell [di do_'], .cell (tsNode.leaves do_''), .cell [di do_'''], .cell [di do_''''], .ref 0 0, .ref 1 0])), (4, ri s650.1), (6, ri k_), (7, ri s650.1), (10, ri k_), (11, ri y.1)], [[di y.2.1], [di y.2.2]], [], 20⟩) (fun y664 : (Int × Int × Int) => q (.exit 2) (S63_6 k_ do_ do_' do_'' do_''' do_'''' s650 y664))) := by
  refine .trans ?_ (bif_b (bind_b fun y663 => e2_0) e2_1)
  refine (pre1 (kern_slide_s2_fzx1 k_ do_ do_' do_'' do_''' do_'''' s650 s661 _)).trans ?_
  refine .trans seq_push ?_
  refine (cond_e (b := (decide (s661.1 < k_))) (st' := (S63_3 k_ do_ do_' do_'' do_''' do_'''' s650 s661)) ).trans (bif_g ?_ ?_)
  · refine (skip_eq).trans ?_
    refine (seqC_normal (st' := (S63_3 k_ do_ do_' do_'' do_''' do_'''' s650 s661))).trans ?_
    refine .trans seq_push ?_
    refine (block_push (id := 3)).trans ?_
    refine (pre1 (kern_slide_s2_f6 k_ do_ do_' do_'' do_''' do_'''' s650 s661 _)).trans ?_
    refine (kern_slide_s2_r6 k_ do_ do_' do_'' do_''' do_'''' s650 s661 _).trans (bind_g fun y663 => ?_)
    refine block_normal.trans ?_
    refine (seqC_normal (st' := (S63_5 k_ do_ do_' do_'' do_''' do_'''' s650 s661 y663))).trans ?_
    refine (kern_slide_s2_r7 k_ do_ do_' do_'' do_''' do_'''' s650 s661 y663 _).trans ?_
    kernel_rfl
  · refine ((exit_eq (j := 2))).trans ?_
    refine seqC_exit.trans ?_
    kernel_rfl
theorem kern_slide_s2_l4 : R63 C63.r.b.b.r.r.l.b.r.r.b (S63_2 k_ do_ do_' do_'' do_''' do_'''' s650) q = Option.bind (iterN (kern_slide_s2_l4_p k_ do_ do_' do_'' do_''' do_'''' s650) LL ((0 : Int), s650.2.1, s650.2.2)) (fun y664 : (Int × Int × Int) => q (.exit 2) (S63_6 k_ do_ do_' do_'' do_''' do_'''' s650 y664)) :=
  Eq.trans (by kernel_rfl) (loop_iter1 (S := fun s661 : (Int × Int × Int) => (S63_3 k_ do_ do_' do_'' do_''' do_'''' s650 s661)) (Y1 := fun y664 : (Int × Int × Int) => ((.exit 2), (S63_6 k_ do_ do_' do_'' do_''' do_'''' s650 y664))) (fun s q => kern_slide_s2_l4_b k_ do_ do_' do_'' do_''' do_'''' s650 s q) (fun z => rfl) LL ((0 : Int), s650.2.1, s650.2.2))
abbrev S63_7 : St := ⟨[(0, ri k_), (1, .one (.fn 87 [.cell (tspane.leaves do_), .cell [di do_'], .cell (tsNode.leaves do_''), .cell [di do_'''], .cell [di do_''''], .ref 0 0, .ref 1 0])), (6, ri k_), (7, ri s650.1)], [[di y664.2.1], [di y664.2.2]], [], 20⟩
theorem kern_slide_s2_r8 : R63 C63.r.b.b.r.r.r (S63_7 k_ do_ do_' do_'' do_''' do_'''' s650 y664) q = q .normal ⟨[(0, ri k_), (1, .one (.fn 87 [.cell (tspane.leaves do_), .cell [di do_'], .cell (tsNode.leaves do_''), .cell [di do_'''], .cell [di do_''''], .ref 0 0, .ref 1 0])), (6, ri k_), (7, ri (IntKind.wrap .i64 (s650.1 + 1)))], [[di y664.2.1], [di y664.2.2]], [], 20⟩ := by kernel_rfl
def kern_slide_s2_l1_p : Option ((Int × Int × Int) ⊕ (Int × Int × Int)) := (bif (decide (s650.1 < k_)) then (Option.bind (iterN (kern_slide_s2_l4_p k_ do_ do_' do_'' do_''' do_'''' s650) LL ((0 : Int), s650.2.1, s650.2.2)) (fun y664 : (Int × Int × Int) => (some (Sum.inl ((IntKind.wrap .i64 (s650.1 + 1)), y664.2.1, y664.2.2))))) else (some (Sum.inr s650)))
abbrev S63_8 (y665 : (Int × Int × Int)) : St := ⟨[(0, ri k_), (1, .one (.fn 87 [.cell (tspane.leaves do_), .cell [di do_'], .cell (tsNode.leaves do_''), .cell [di do_'''], .cell [di do_''''], .ref 0 0, .ref 1 0])), (6, ri k_), (7, ri y665.1)], [[di y665.2.1], [di y665.2.2]], [], 20⟩
theorem kern_slide_s2_l1_b : R63 C63.r.b.b (S63_1 k_ do_ do_' do_'' do_''' do_'''' s650) (loopKont 2 q) = Option.bind (kern_slide_s2_l1_p k_ do_ do_' do_'' do_''' do_'''' s650) (either (fun y : (Int × Int × Int) => q .normal ⟨[(0, ri k_), (1, .one (.fn 87 [.cell (tspane.leaves do_), .cell [di do_'], .cell (tsNode.leaves do_''), .cell [di do_'''], .cell [di do_''''], .ref 0 0, .ref 1 0])), (6, ri k_), (7, ri y.1)], [[di y.2.1], [di y.2.2]], [], 20⟩) (fun y665 : (Int × Int × Int) => q (.exit 0) (S63_8 k_ do_ do_' do_'' do_''' do_'''' y665))) := by
  refine .trans ?_ (bif_b (bind_b fun y664 => e2_0) e2_1)
  refine (pre1 (kern_slide_s2_fz k_ do_ do_' do_'' do_''' do_'''' s650 _)).trans ?_
  refine .trans seq_push ?_
  refine (cond_e (b := (decide (s650.1 < k_))) (st' := (S63_1 k_ do_ do_' do_'' do_''' do_'''' s650)) ).trans (bif_g ?_ ?_)
  · refine (skip_eq).trans ?_
    refine (seqC_normal (st' := (S63_1 k_ do_ do_' do_'' do_''' do_'''' s650))).trans ?_
    refine .trans seq_push ?_
    refine (block_push (id := 1)).trans ?_
    refine (pre2 (kern_slide_s2_f4 k_ do_ do_' do_'' do_''' do_'''' s650 _)).trans ?_
    refine (block_push (id := 2)).trans ?_
    refine (kern_slide_s2_l4 k_ do_ do_' do_'' do_''' do_'''' s650 _).trans (bind_g fun y664 => ?_)
    refine block_same.trans ?_
    refine block_normal.trans ?_
    refine (seqC_normal (st' := (S63_7 k_ do_ do_' do_'' do_''' do_'''' s650 y664))).trans ?_
    refine (kern_slide_s2_r8 k_ do_ do_' do_'' do_''' do_'''' s650 y664 _).trans ?_
    kernel_rfl
  · refine ((exit_eq (j := 0))).trans ?_
    refine seqC_exit.trans ?_
    kernel_rfl
theorem kern_slide_s2_l1 : R63 C63.r.b (S63_0 k_ do_ do_' do_'' do_''' do_'''' c2_ c3_) q = Option.bind (iterN (kern_slide_s2_l1_p k_ do_ do_' do_'' do_''' do_'''') LL ((0 : Int), c2_, c3_)) (fun y665 : (Int × Int × Int) => q (.exit 0) (S63_8 k_ do_ do_' do_'' do_''' do_'''' y665)) :=
  Eq.trans (by kernel_rfl) (loop_iter1 (S := fun s650 : (Int × Int × Int) => (S63_1 k_ do_ do_' do_'' do_''' do_'''' s650)) (Y1 := fun y665 : (Int × Int × Int) => ((.exit 0), (S63_8 k_ do_ do_' do_'' do_''' do_'''' y665))) (fun s q => kern_slide_s2_l1_b k_ do_ do_' do_'' do_''' do_'''' s q) (fun z => rfl) LL ((0 : Int), c2_, c3_))
/-- quilt/kern.slide -/
def kern_slide_s2 : Option (Int × Int) := (Option.bind (iterN (kern_slide_s2_l1_p k_ do_ do_' do_'' do_''' do_'''') LL ((0 : Int), c2_, c3_)) (fun y665 : (Int × Int × Int) => (some y665.2)))
theorem kern_slide_s2_is (k : R → Heap → Option α) : callBody E cp60 ce3 α 82 [ri k_, .one (.fn 87 [.cell (tspane.leaves do_), .cell [di do_'], .cell (tsNode.leaves do_''), .cell [di do_'''], .cell [di do_''''], .ref 0 0, .ref 1 0])] [[di c2_], [di c3_]] k = Option.bind (kern_slide_s2 k_ do_ do_' do_'' do_''' do_'''' c2_ c3_) (fun y : (Int × Int) => k (.tup []) [[di y.1], [di y.2]]) := by
  refine .trans ?_ (bind_b fun y665 => some_b)
  refine (body_is (nt := 20) (regs := [(0, ri k_), (1, .one (.fn 87 [.cell (tspane.leaves do_), .cell [di do_'], .cell (tsNode.leaves do_''), .cell [di do_'''], .cell [di do_''''], .ref 0 0, .ref 1 0]))]) (by kernel_rfl) (by kernel_rfl)).trans ?_
  refine (pre1 (kern_slide_s2_f1 k_ do_ do_' do_'' do_''' do_'''' c2_ c3_ _)).trans ?_
  refine (block_push (id := 0)).trans ?_
  refine (kern_slide_s2_l1 k_ do_ do_' do_'' do_''' do_'''' c2_ c3_ _).trans (bind_g fun y665 => ?_)
  refine block_same.trans ?_
  kernel_rfl
noncomputable def ce4 : CallE := withE ce3 82 (decA [pI, (.one (.fn 87 (.cons (.cell (.cons (.g (.int .i64)) (.cons (.g (.int .i64)) (.cons (.g (.int .i64)) (.cons (.g (.int .i64)) (.cons (.g (.int .i64)) (.cons (.g (.int .i64)) (.cons (.g (.sl (.one (.int .i8)))) .nil)))))))) (.cons (.cell (.cons (.g (.int .i64)) .nil)) (.cons (.cell (.cons (.g (.int .i64)) (.cons (.g (.sl (.one (.int .i64)))) (.cons (.g (.int .i64)) (.cons (.g (.int .i64)) (.cons (.g (.int .i64)) (.cons (.g (.int .i64)) (.cons (.g (.int .i64)) (.cons (.g (.int .i64)) (.cons (.g (.int .i64)) (.cons (.g (.int .i64)) (.cons (.g (.int .i64)) (.cons (.g (.int .i64)) (.cons (.g (.sl (.one (.int .i8)))) (.cons (.g (.sl (.one (.int .i32)))) .nil))))))))))))))) (.cons (.cell (.cons (.g (.int .i64)) .nil)) (.cons (.cell (.cons (.g (.int .i64)) .nil)) (.cons (.ref 0 0) (.cons (.ref 1 0) .nil)))))))))] [(.cons (.g (.int .i64)) .nil), (.cons (.g (.int .i64)) .nil)]) .unit (fun y : (Int × Int) => ()) (fun x y => [[di y.1], [di y.2]]) (fun x => kern_slide_s2 x.1.1 (x.1.2.1.1.1, x.1.2.1.1.2.1, x.1.2.1.1.2.2.1, x.1.2.1.1.2.2.2.1, x.1.2.1.1.2.2.2.2.1, x.1.2.1.1.2.2.2.2.2.1, x.1.2.1.1.2.2.2.2.2.2.1) x.1.2.1.2.1.1 (x.1.2.1.2.2.1.1, x.1.2.1.2.2.1.2.1, x.1.2.1.2.2.1.2.2.1, x.1.2.1.2.2.1.2.2.2.1, x.1.2.1.2.2.1.2.2.2.2.1, x.1.2.1.2.2.1.2.2.2.2.2.1, x.1.2.1.2.2.1.2.2.2.2.2.2.1, x.1.2.1.2.2.1.2.2.2.2.2.2.2.1, x.1.2.1.2.2.1.2.2.2.2.2.2.2.2.1, x.1.2.1.2.2.1.2.2.2.2.2.2.2.2.2.1, x.1.2.1.2.2.1.2.2.2.2.2.2.2.2.2.2.1, x.1.2.1.2.2.1.2.2.2.2.2.2.2.2.2.2.2.1, x.1.2.1.2.2.1.2.2.2.2.2.2.2.2.2.2.2.2.1, x.1.2.1.2.2.1.2.2.2.2.2.2.2.2.2.2.2.2.2.1) x.1.2.1.2.2.2.1.1 x.1.2.1.2.2.2.2.1.1 x.2.1.1 x.2.2.1.1)
theorem ce4_ok : EffOK E ce4 := conE eok cp60_ok ce3_ok fun α x k => Eq.mp (by kernel_rfl) (kern_slide_s2_is x.1.1 (x.1.2.1.1.1, x.1.2.1.1.2.1, x.1.2.1.1.2.2.1, x.1.2.1.1.2.2.2.1, x.1.2.1.1.2.2.2.2.1, x.1.2.1.1.2.2.2.2.2.1, x.1.2.1.1.2.2.2.2.2.2.1) x.1.2.1.2.1.1 (x.1.2.1.2.2.1.1, x.1.2.1.2.2.1.2.1, x.1.2.1.2.2.1.2.2.1, x.1.2.1.2.2.1.2.2.2.1, x.1.2.1.2.2.1.2.2.2.2.1, x.1.2.1.2.2.1.2.2.2.2.2.1, x.1.2.1.2.2.1.2.2.2.2.2.2.1, x.1.2.1.2.2.1.2.2.2.2.2.2.2.1, x.1.2.1.2.2.1.2.2.2.2.2.2.2.2.1, x.1.2.1.2.2.1.2.2.2.2.2.2.2.2.2.1, x.1.2.1.2.2.1.2.2.2.2.2.2.2.2.2.2.1, x.1.2.1.2.2.1.2.2.2.2.2.2.2.2.2.2.2.1, x.1.2.1.2.2.1.2.2.2.2.2.2.2.2.2.2.2.2.1, x.1.2.1.2.2.1.2.2.2.2.2.2.2.2.2.2.2.2.2.1) x.1.2.1.2.2.2.1.1 x.1.2.1.2.2.2.2.1.1 x.2.1.1 x.2.2.1.1 k)
end
section
variable {α : Type} (y_ : Int) (x_ : Int) (c_ : Int) (c3_ : Node) (c4_ : pane) (y666 : (Int × Int)) (k : St → Option α)
noncomputable abbrev C64 := codeOf E.P 86
noncomputable abbrev P64 := @preK α E 86 cp60 ce4
abbrev S64_0 : St := ⟨[(3, rC tsNode c3_), (4, rC tspane c4_), (9, rF 0), (10, rF 1)], [[di y666.1], [di y666.2]], [], 40⟩
theorem kern_pool_1_r2 : P64 3 C64 ⟨[(0, ri y_), (1, ri x_), (2, ri c_), (3, rC tsNode c3_), (4, rC tspane c4_)], [], [], 40⟩ k = Option.bind (kern_slide_s2 c3_.2.2.1 c4_ y_ c3_ x_ c_ (-512 : Int) (0 : Int)) fun y666 : (Int × Int) => k (S64_0 c3_ c4_ y666) := by kernel_rfl
theorem kern_pool_1_f1000004 : P64 1 C64.r.r.r.l (S64_0 c3_ c4_ y666) k = k ⟨[(3, rC tsNode c3_), (4, rC tspane c4_), (9, rF 0), (10, rF 1), (17, rb (c3_.1 == 4))], [[di y666.1], [di y666.2]], [], 40⟩ := by kernel_rfl
theorem kern_pool_1_fz : P64 1 C64.r.r.r.l.r.t (S64_0 c3_ c4_ y666) k = k ⟨[(8, ri (IntKind.wrap .i64 (y666.1 + c4_.2.2.2.1)))], [[], []], [], 40⟩ := by kernel_rfl
abbrev S64_1 : St := ⟨[(3, rC tsNode c3_), (4, rC tspane c4_), (10, rF 1)], [[di y666.1], [di y666.2]], [], 40⟩
theorem kern_pool_1_r5 : P64 1 C64.r.r.r.r (S64_1 c3_ c4_ y666) k = Option.bind (fixed_Div (IntKind.wrap .i64 (y666.2 + (IntKind.wrap .i64 ((IntKind.wrap .i64 (c3_.2.2.1 * c3_.2.2.1)) * c4_.2.2.2.1)))) (IntKind.wrap .i64 (c3_.2.2.1 * c3_.2.2.1))) fun y667 : Int => k ⟨[(8, ri y667)], [[di y666.1], []], [], 40⟩ := by kernel_rfl
/-- quilt/kern.pool$1 -/
def kern_pool_1 : Option Int := (Option.bind (kern_slide_s2 c3_.2.2.1 c4_ y_ c3_ x_ c_ (-512 : Int) (0 : Int)) (fun y666 : (Int × Int) => (bif (c3_.1 == 4) then (some (IntKind.wrap .i64 (y666.1 + c4_.2.2.2.1))) else (Option.bind (fixed_Div (IntKind.wrap .i64 (y666.2 + (IntKind.wrap .i64 ((IntKind.wrap .i64 (c3_.2.2.1 * c3_.2.2.1)) * c4_.2.2.2.1)))) (IntKind.wrap .i64 (c3_.2.2.1 * c3_.2.2.1))) (fun y667 : Int => (some y667))))))
theorem kern_pool_1_is : stepS E cp60 ce4 86 [ri y_, ri x_, ri c_, rC tsNode c3_, rC tspane c4_] = Option.bind (kern_pool_1 y_ x_ c_ c3_ c4_) (fun y : Int => some (ri y : R)) := by
  refine .trans ?_ (bind_b fun y666 => (bif_b some_b (bind_b fun y667 => some_b)))
  refine (stepG_is (nt := 40) (regs := [(0, ri y_), (1, ri x_), (2, ri c_), (3, rC tsNode c3_), (4, rC tspane c4_)])).trans ?_
  refine (pre3 (kern_pool_1_r2 y_ x_ c_ c3_ c4_ _)).trans (bind_g fun y666 => ?_)
  refine .trans seq_push ?_
  refine (pre1 (kern_pool_1_f1000004 c3_ c4_ y666 _)).trans ?_
  refine (cond_e (b := (c3_.1 == 4)) (st' := (S64_0 c3_ c4_ y666)) ).trans (bif_g ?_ ?_)
  · refine (pre1 (kern_pool_1_fz c3_ c4_ y666 _)).trans ?_
    refine (ret_eq).trans ?_
    refine seqC_ret.trans ?_
    kernel_rfl
  · refine (skip_eq).trans ?_
    refine (seqC_normal (st' := (S64_1 c3_ c4_ y666))).trans ?_
    refine (pre1 (kern_pool_1_r5 c3_ c4_ y666 _)).trans (bind_g fun y667 => ?_)
    refine (ret_eq).trans ?_
    kernel_rfl
noncomputable def cp61 : CallP := withC cp60 86 [pI, pI, pI, (.one (.cell (.cons (.g (.int .i64)) (.cons (.g (.sl (.one (.int .i64)))) (.cons (.g (.int .i64)) (.cons (.g (.int .i64)) (.cons (.g (.int .i64)) (.cons (.g (.int .i64)) (.cons (.g (.int .i64)) (.cons (.g (.int .i64)) (.cons (.g (.int .i64)) (.cons (.g (.int .i64)) (.cons (.g (.int .i64)) (.cons (.g (.int .i64)) (.cons (.g (.sl (.one (.int .i8)))) (.cons (.g (.sl (.one (.int .i32)))) .nil)))))))))))))))), (.one (.cell (.cons (.g (.int .i64)) (.cons (.g (.int .i64)) (.cons (.g (.int .i64)) (.cons (.g (.int .i64)) (.cons (.g (.int .i64)) (.cons (.g (.int .i64)) (.cons (.g (.sl (.one (.int .i8)))) .nil)))))))))] (.one pI) (fun y : Int => y) (fun x => kern_pool_1 x.1 x.2.1 x.2.2.1 (x.2.2.2.1.1, x.2.2.2.1.2.1, x.2.2.2.1.2.2.1, x.2.2.2.1.2.2.2.1, x.2.2.2.1.2.2.2.2.1, x.2.2.2.1.2.2.2.2.2.1, x.2.2.2.1.2.2.2.2.2.2.1, x.2.2.2.1.2.2.2.2.2.2.2.1, x.2.2.2.1.2.2.2.2.2.2.2.2.1, x.2.2.2.1.2.2.2.2.2.2.2.2.2.1, x.2.2.2.1.2.2.2.2.2.2.2.2.2.2.1, x.2.2.2.1.2.2.2.2.2.2.2.2.2.2.2.1, x.2.2.2.1.2.2.2.2.2.2.2.2.2.2.2.2.1, x.2.2.2.1.2.2.2.2.2.2.2.2.2.2.2.2.2.1) (x.2.2.2.2.1.1, x.2.2.2.2.1.2.1, x.2.2.2.2.1.2.2.1, x.2.2.2.2.1.2.2.2.1, x.2.2.2.2.1.2.2.2.2.1, x.2.2.2.2.1.2.2.2.2.2.1, x.2.2.2.2.1.2.2.2.2.2.2.1))
theorem cp61_ok : PureOK E cp61 := conS eok cp60_ok ce4_ok fun x => Eq.mp (by kernel_rfl) (kern_pool_1_is x.1 x.2.1 x.2.2.1 (x.2.2.2.1.1, x.2.2.2.1.2.1, x.2.2.2.1.2.2.1, x.2.2.2.1.2.2.2.1, x.2.2.2.1.2.2.2.2.1, x.2.2.2.1.2.2.2.2.2.1, x.2.2.2.1.2.2.2.2.2.2.1, x.2.2.2.1.2.2.2.2.2.2.2.1, x.2.2.2.1.2.2.2.2.2.2.2.2.1, x.2.2.2.1.2.2.2.2.2.2.2.2.2.1, x.2.2.2.1.2.2.2.2.2.2.2.2.2.2.1, x.2.2.2.1.2.2.2.2.2.2.2.2.2.2.2.1, x.2.2.2.1.2.2.2.2.2.2.2.2.2.2.2.2.1, x.2.2.2.1.2.2.2.2.2.2.2.2.2.2.2.2.2.1) (x.2.2.2.2.1.1, x.2.2.2.2.1.2.1, x.2.2.2.2.1.2.2.1, x.2.2.2.2.1.2.2.2.1, x.2.2.2.2.1.2.2.2.2.1, x.2.2.2.2.1.2.2.2.2.2.1, x.2.2.2.2.1.2.2.2.2.2.2.1))
end
section
variable {α : Type} (y_ : Int) (x_ : Int) (c_ : Int) (c3_ : pane) (c4_ : pane) (c5_ : Node) (y672 : (Int × Int)) (k : St → Option α)
noncomputable abbrev C65 := codeOf E.P 89
noncomputable abbrev P65 := @preK α E 89 cp61 ce4
def kern_pair_1_r1_p : Option (Int × Int) := (Option.bind (kern_pane_at c3_ y_ x_ c_) (fun y670 : Int => (Option.bind (kern_pane_at c4_ y_ x_ c_) (fun y671 : Int => (some (y670, y671))))))
abbrev S65_0 : St := ⟨[(5, rC tsNode c5_), (10, ri y672.1), (11, ri y672.2)], [], [], 45⟩
theorem kern_pair_1_r1 : P65 2 C65 ⟨[(0, ri y_), (1, ri x_), (2, ri c_), (3, rC tspane c3_), (4, rC tspane c4_), (5, rC tsNode c5_)], [], [], 45⟩ k = Option.bind (kern_pair_1_r1_p y_ x_ c_ c3_ c4_) (fun y672 : (Int × Int) => k (S65_0 c5_ y672)) := .trans (by kernel_rfl) (bind_b fun y670 => (bind_b fun y671 => some_b))
theorem kern_pair_1_f1000003 : P65 1 C65.r.r.l (S65_0 c5_ y672) k = k ⟨[(5, rC tsNode c5_), (10, ri y672.1), (11, ri y672.2), (24, rb (c5_.1 == 7))], [], [], 45⟩ := by kernel_rfl
theorem kern_pair_1_r3 : P65 1 C65.r.r.l.r.t (S65_0 c5_ y672) k = Option.bind (fixed_Scale (IntKind.wrap .i64 (y672.1 * y672.2)) c5_.2.2.2.2.2.2.1 c5_.2.2.2.2.2.2.2.1 c5_.2.2.2.2.2.2.2.2.1) fun y674 : Int => k ⟨[(9, ri y674)], [], [], 45⟩ := by kernel_rfl
theorem kern_pair_1_r4 : P65 1 C65.r.r.r (S65_0 c5_ y672) k = Option.bind (fixed_Scale (IntKind.wrap .i64 (y672.1 + y672.2)) c5_.2.2.2.2.2.2.1 c5_.2.2.2.2.2.2.2.1 c5_.2.2.2.2.2.2.2.2.1) fun y675 : Int => k ⟨[(9, ri y675)], [], [], 45⟩ := by kernel_rfl
/-- quilt/kern.pair$1 -/
def kern_pair_1 : Option Int := (Option.bind (kern_pair_1_r1_p y_ x_ c_ c3_ c4_) (fun y672 : (Int × Int) => (bif (c5_.1 == 7) then (Option.bind (fixed_Scale (IntKind.wrap .i64 (y672.1 * y672.2)) c5_.2.2.2.2.2.2.1 c5_.2.2.2.2.2.2.2.1 c5_.2.2.2.2.2.2.2.2.1) (fun y674 : Int => (some y674))) else (Option.bind (fixed_Scale (IntKind.wrap .i64 (y672.1 + y672.2)) c5_.2.2.2.2.2.2.1 c5_.2.2.2.2.2.2.2.1 c5_.2.2.2.2.2.2.2.2.1) (fun y675 : Int => (some y675))))))
theorem kern_pair_1_is : stepS E cp61 ce4 89 [ri y_, ri x_, ri c_, rC tspane c3_, rC tspane c4_, rC tsNode c5_] = Option.bind (kern_pair_1 y_ x_ c_ c3_ c4_ c5_) (fun y : Int => some (ri y : R)) := by
  refine .trans ?_ (bind_b fun y672 => (bif_b (bind_b fun y674 => some_b) (bind_b fun y675 => some_b)))
  refine (stepG_is (nt := 45) (regs := [(0, ri y_), (1, ri x_), (2, ri c_), (3, rC tspane c3_), (4, rC tspane c4_), (5, rC tsNode c5_)])).trans ?_
  refine (pre2 (kern_pair_1_r1 y_ x_ c_ c3_ c4_ c5_ _)).trans (bind_g fun y672 => ?_)
  refine .trans seq_push ?_
  refine (pre1 (kern_pair_1_f1000003 c5_ y672 _)).trans ?_
  refine (cond_e (b := (c5_.1 == 7)) (st' := (S65_0 c5_ y672)) ).trans (bif_g ?_ ?_)
  · refine (pre1 (kern_pair_1_r3 c5_ y672 _)).trans (bind_g fun y674 => ?_)
    refine (ret_eq).trans ?_
    refine seqC_ret.trans ?_
    kernel_rfl
  · refine (skip_eq).trans ?_
    refine (seqC_normal (st' := (S65_0 c5_ y672))).trans ?_
    refine (pre1 (kern_pair_1_r4 c5_ y672 _)).trans (bind_g fun y675 => ?_)
    refine (ret_eq).trans ?_
    kernel_rfl
noncomputable def cp62 : CallP := withC cp61 89 [pI, pI, pI, (.one (.cell (.cons (.g (.int .i64)) (.cons (.g (.int .i64)) (.cons (.g (.int .i64)) (.cons (.g (.int .i64)) (.cons (.g (.int .i64)) (.cons (.g (.int .i64)) (.cons (.g (.sl (.one (.int .i8)))) .nil))))))))), (.one (.cell (.cons (.g (.int .i64)) (.cons (.g (.int .i64)) (.cons (.g (.int .i64)) (.cons (.g (.int .i64)) (.cons (.g (.int .i64)) (.cons (.g (.int .i64)) (.cons (.g (.sl (.one (.int .i8)))) .nil))))))))), (.one (.cell (.cons (.g (.int .i64)) (.cons (.g (.sl (.one (.int .i64)))) (.cons (.g (.int .i64)) (.cons (.g (.int .i64)) (.cons (.g (.int .i64)) (.cons (.g (.int .i64)) (.cons (.g (.int .i64)) (.cons (.g (.int .i64)) (.cons (.g (.int .i64)) (.cons (.g (.int .i64)) (.cons (.g (.int .i64)) (.cons (.g (.int .i64)) (.cons (.g (.sl (.one (.int .i8)))) (.cons (.g (.sl (.one (.int .i32)))) .nil))))))))))))))))] (.one pI) (fun y : Int => y) (fun x => kern_pair_1 x.1 x.2.1 x.2.2.1 (x.2.2.2.1.1, x.2.2.2.1.2.1, x.2.2.2.1.2.2.1, x.2.2.2.1.2.2.2.1, x.2.2.2.1.2.2.2.2.1, x.2.2.2.1.2.2.2.2.2.1, x.2.2.2.1.2.2.2.2.2.2.1) (x.2.2.2.2.1.1, x.2.2.2.2.1.2.1, x.2.2.2.2.1.2.2.1, x.2.2.2.2.1.2.2.2.1, x.2.2.2.2.1.2.2.2.2.1, x.2.2.2.2.1.2.2.2.2.2.1, x.2.2.2.2.1.2.2.2.2.2.2.1) (x.2.2.2.2.2.1.1, x.2.2.2.2.2.1.2.1, x.2.2.2.2.2.1.2.2.1, x.2.2.2.2.2.1.2.2.2.1, x.2.2.2.2.2.1.2.2.2.2.1, x.2.2.2.2.2.1.2.2.2.2.2.1, x.2.2.2.2.2.1.2.2.2.2.2.2.1, x.2.2.2.2.2.1.2.2.2.2.2.2.2.1, x.2.2.2.2.2.1.2.2.2.2.2.2.2.2.1, x.2.2.2.2.2.1.2.2.2.2.2.2.2.2.2.1, x.2.2.2.2.2.1.2.2.2.2.2.2.2.2.2.2.1, x.2.2.2.2.2.1.2.2.2.2.2.2.2.2.2.2.2.1, x.2.2.2.2.2.1.2.2.2.2.2.2.2.2.2.2.2.2.1, x.2.2.2.2.2.1.2.2.2.2.2.2.2.2.2.2.2.2.2.1))
theorem cp62_ok : PureOK E cp62 := conS eok cp61_ok ce4_ok fun x => Eq.mp (by kernel_rfl) (kern_pair_1_is x.1 x.2.1 x.2.2.1 (x.2.2.2.1.1, x.2.2.2.1.2.1, x.2.2.2.1.2.2.1, x.2.2.2.1.2.2.2.1, x.2.2.2.1.2.2.2.2.1, x.2.2.2.1.2.2.2.2.2.1, x.2.2.2.1.2.2.2.2.2.2.1) (x.2.2.2.2.1.1, x.2.2.2.2.1.2.1, x.2.2.2.2.1.2.2.1, x.2.2.2.2.1.2.2.2.1, x.2.2.2.2.1.2.2.2.2.1, x.2.2.2.2.1.2.2.2.2.2.1, x.2.2.2.2.1.2.2.2.2.2.2.1) (x.2.2.2.2.2.1.1, x.2.2.2.2.2.1.2.1, x.2.2.2.2.2.1.2.2.1, x.2.2.2.2.2.1.2.2.2.1, x.2.2.2.2.2.1.2.2.2.2.1, x.2.2.2.2.2.1.2.2.2.2.2.1, x.2.2.2.2.2.1.2.2.2.2.2.2.1, x.2.2.2.2.2.1.2.2.2.2.2.2.2.1, x.2.2.2.2.2.1.2.2.2.2.2.2.2.2.1, x.2.2.2.2.2.1.2.2.2.2.2.2.2.2.2.1, x.2.2.2.2.2.1.2.2.2.2.2.2.2.2.2.2.1, x.2.2.2.2.2.1.2.2.2.2.2.2.2.2.2.2.2.1, x.2.2.2.2.2.1.2.2.2.2.2.2.2.2.2.2.2.2.1, x.2.2.2.2.2.1.2.2.2.2.2.2.2.2.2.2.2.2.2.1))
end
section
variable {α β : Type} (n_ : Node) (in_ : (List I4)) (w_ : A6) (r_ : Int) (y357 : (I4 × Int)) (s454 : U8) (y478 : (Int × Int × Int × Int × Int × Int × (List Int) × Int × Int × Int × Int × Int × Int × (List Int))) (y479 : U8) (y481 : (I4 × Int)) (y506 : U26) (s1135 : ((List Int) × Int)) (s1254 : ((List Int) × Int)) (y1292 : (List Int)) (y1293 : ((List Int) × Int)) (y1294 : ((List Int) × Int)) (k : St → Option α) (q : Kont α)
noncomputable abbrev C66 := codeOf E.P 32
noncomputable abbrev P66 := @preK α E 32 cp62 ce4
noncomputable abbrev R66 := @runCode α E 32 cp62 ce4
abbrev S66_0 : St := ⟨[(1, rl tsI4 in_), (3, ri r_), (4, rC tsNode n_), (6, rC tsA6 w_), (10, rF 0), (11, ri y357.2)], [(tsI4.leaves y357.1)], [], 89⟩
theorem kern_Row_r1 : P66 2 C66 ⟨[(0, rA tsNode n_), (1, rl tsI4 in_), (2, rA tsA6 w_), (3, ri r_)], [], [], 89⟩ k = Option.bind (kern_Needs n_ in_ r_ (1 : Int)) fun y357 : (I4 × Int) => k (S66_0 n_ in_ w_ r_ y357) := by kernel_rfl
theorem kern_Row_f1000003 : P66 1 C66.r.r.l (S66_0 n_ in_ w_ r_ y357) k = k ⟨[(1, rl tsI4 in_), (3, ri r_), (4, rC tsNode n_), (6, rC tsA6 w_), (10, rF 0), (11, ri y357.2), (29, rb (y357.2 != 0))], [(tsI4.leaves y357.1)], [], 89⟩ := by kernel_rfl
theorem kern_Row_fz : P66 1 C66.r.r.l.r.t (S66_0 n_ in_ w_ r_ y357) k = k ⟨[(8, .one (.ow (.one (.int .i8)) [] (.v 8))), (9, ri y357.2)], [[]], [], 89⟩ := by kernel_rfl
abbrev S66_1 : St := ⟨[(1, rl tsI4 in_), (3, ri r_), (4, rC tsNode n_), (6, rC tsA6 w_), (10, rF 0)], [(tsI4.leaves y357.1)], [], 89⟩
abbrev S66_2 : St := ⟨[(1, rl tsI4 in_), (3, ri r_), (4, rC tsNode n_), (6, rC tsA6 w_), (10, rF 0), (12, rF 1)], [(tsI4.leaves y357.1), [di 0, di 0, di 0, di 0, di 0, di 0, dl (.one (.int .i8)) [], di 0, di 0, di 0, di 0, di 0, di 0, dl (.one (.int .i8)) []]], [], 89⟩
theorem kern_Row_f5 : P66 1 C66.r.r.r (S66_1 n_ in_ w_ r_ y357) k = k (S66_2 n_ in_ w_ r_ y357) := by kernel_rfl
abbrev S66_3 : St := ⟨[(1, rl tsI4 in_), (3, ri r_), (4, rC tsNode n_), (6, rC tsA6 w_), (10, rF 0), (12, rF 1), (31, rl tsI4 in_), (32, ri (in_.length : Int)), (33, ri 0)], [(tsI4.leaves y357.1), [di 0, di 0, di 0, di 0, di 0, di 0, dl (.one (.int .i8)) [], di 0, di 0, di 0, di 0, di 0, di 0, dl (.one (.int .i8)) []]], [], 89⟩
theorem kern_Row_f6 : P66 1 C66.r.r.r.r.l (S66_2 n_ in_ w_ r_ y357) k = k (S66_3 n_ in_ w_ r_ y357) := by kernel_rfl
abbrev S66_4 : St := ⟨[(1, rl tsI4 in_), (3, ri r_), (4, rC tsNode n_), (6, rC tsA6 w_), (10, rF 0), (12, rF 1), (31, rl tsI4 in_), (32, ri (in_.length : Int)), (33, ri s454.1)], [(tsI4.leaves y357.1), (tsA9.leaves s454.2)], [], 89⟩
theorem kern_Row_fzx1 : P66 1 C66.r.r.r.r.l.r.b.b (S66_4 n_ in_ w_ r_ y357 s454) k = k ⟨[(1, rl tsI4 in_), (3, ri r_), (4, rC tsNode n_), (6, rC tsA6 w_), (10, rF 0), (12, rF 1), (31, rl tsI4 in_), (32, ri (in_.length : Int)), (33, ri s454.1), (34, rb (decide (s454.1 < (in_.length : Int))))], [(tsI4.leaves y357.1), (tsA9.leaves s454.2)], [], 89⟩ := by kernel_rfl
def kern_Row_r7_p : Option Unit := (bif (decide ((0 : Int) ≤ s454.1)) then (bif (decide (s454.1 < (in_.length : Int))) then (some ()) else none) else none)
abbrev S66_5 : St := ⟨[(1, rl tsI4 in_), (3, ri r_), (4, rC tsNode n_), (6, rC tsA6 w_), (10, rF 0), (12, rF 1), (13, ri s454.1), (14, rF 2), (31, rl tsI4 in_), (32, ri (in_.length : Int)), (33, ri s454.1)], [(tsI4.leaves y357.1), (tsA9.leaves s454.2), (tsI4.leaves (gt in_ s454.1 dI4))], [], 89⟩
theorem kern_Row_r7 : P66 1 C66.r.r.r.r.l.r.b.b.r.r.l.b (S66_4 n_ in_ w_ r_ y357 s454) k = Option.bind (kern_Row_r7_p in_ s454) (fun y467 : Unit => k (S66_5 n_ in_ w_ r_ y357 s454)) := .trans (by kernel_rfl) (bif_b (bif_b some_b none_b) none_b)
def kern_Row_r8_p : Option Bool := (bif (s454.1 == 0) then (bif (s454.1 == 0) then (Option.bind (kern_fits (gt in_ s454.1 dI4) (w_.1, w_.2.1, w_.2.2.1) (y357.1.1, y357.1.2.1)) (fun y473 : Bool => (some (!y473)))) else (bif (s454.1 == 1) then (Option.bind (kern_fits (gt in_ s454.1 dI4) (w_.1, w_.2.1, w_.2.2.1) y357.1.2.2) (fun y474 : Bool => (some (!y474)))) else none)) else (bif (s454.1 == 1) then (bif (s454.1 == 0) then (Option.bind (kern_fits (gt in_ s454.1 dI4) w_.2.2.2 (y357.1.1, y357.1.2.1)) (fun y475 : Bool => (some (!y475)))) else (bif (s454.1 == 1) then (Option.bind (kern_fits (gt in_ s454.1 dI4) w_.2.2.2 y357.1.2.2) (fun y476 : Bool => (some (!y476)))) else none)) else none))
theorem kern_Row_r8 : P66 1 C66.r.r.r.r.l.r.b.b.r.r.l.b.r.l (S66_5 n_ in_ w_ r_ y357 s454) k = Option.bind (kern_Row_r8_p in_ w_ y357 s454) (fun y477 : Bool => k ⟨[(1, rl tsI4 in_), (3, ri r_), (4, rC tsNode n_), (6, rC tsA6 w_), (10, rF 0), (12, rF 1), (13, ri s454.1), (14, rF 2), (31, rl tsI4 in_), (32, ri (in_.length : Int)), (33, ri s454.1), (46, rb y477)], [(tsI4.leaves y357.1), (tsA9.leaves s454.2), (tsI4.leaves (gt in_ s454.1 dI4))], [], 89⟩) := .trans (by kernel_rfl) (bif_b (bif_b (bind_b fun y473 => some_b) (bif_b (bind_b fun y474 => some_b) none_b)) (bif_b (bif_b (bind_b fun y475 => some_b) (bif_b (bind_b fun y476 => some_b) none_b)) none_b))
abbrev S66_6 : St := ⟨[(8, .one (.ow (.one (.int .i8)) [] (.v 8))), (9, ri 1)], [[], [], []], [], 89⟩
theorem kern_Row_fzx2 : P66 1 C66.r.r.r.r.l.r.b.b.r.r.l.b.r.l.r.t (S66_5 n_ in_ w_ r_ y357 s454) k = k S66_6 := by kernel_rfl
def kern_Row_r10_p : Option (Int × Int × Int × Int × Int × Int × (List Int) × Int × Int × Int × Int × Int × Int × (List Int)) := (bif (s454.1 == 0) then (bif (s454.1 == 0) then (some ((gt in_ s454.1 dI4).1, (gt in_ s454.1 dI4).2.1, (gt in_ s454.1 dI4).2.2.1, (gt in_ s454.1 dI4).2.2.2, w_.1, w_.2.1, w_.2.2.1, s454.2.2.2.2.2.2.2.2.1, s454.2.2.2.2.2.2.2.2.2.1, s454.2.2.2.2.2.2.2.2.2.2.1, s454.2.2.2.2.2.2.2.2.2.2.2.1, s454.2.2.2.2.2.2.2.2.2.2.2.2.1, s454.2.2.2.2.2.2.2.2.2.2.2.2.2.1, s454.2.2.2.2.2.2.2.2.2.2.2.2.2.2)) else (bif (s454.1 == 1) then (some (s454.2.1, s454.2.2.1, s454.2.2.2.1, s454.2.2.2.2.1, s454.2.2.2.2.2.1, s454.2.2.2.2.2.2.1, s454.2.2.2.2.2.2.2.1, (gt in_ s454.1 dI4).1, (gt in_ s454.1 dI4).2.1, (gt in_ s454.1 dI4).2.2.1, (gt in_ s454.1 dI4).2.2.2, w_.1, w_.2.1, w_.2.2.1)) else none)) else (bif (s454.1 == 1) then (bif (s454.1 == 0) then (some ((gt in_ s454.1 dI4).1, (gt in_ s454.1 dI4).2.1, (gt in_ s454.1 dI4).2.2.1, (gt in_ s454.1 dI4).2.2.2, w_.2.2.2.1, w_.2.2.2.2.1, w_.2.2.2.2.2, s454.2.2.2.2.2.2.2.2.1, s454.2.2.2.2.2.2.2.2.2.1, s454.2.2.2.2.2.2.2.2.2.2.1, s454.2.2.2.2.2.2.2.2.2.2.2.1, s454.2.2.2.2.2.2.2.2.2.2.2.2.1, s454.2.2.2.2.2.2.2.2.2.2.2.2.2.1, s454.2.2.2.2.2.2.2.2.2.2.2.2.2.2)) else (bif (s454.1 == 1) then (some (s454.2.1, s454.2.2.1, s454.2.2.2.1, s454.2.2.2.2.1, s454.2.2.2.2.2.1, s454.2.2.2.2.2.2.1, s454.2.2.2.2.2.2.2.1, (gt in_ s454.1 dI4).1, (gt in_ s454.1 dI4).2.1, (gt in_ s454.1 dI4).2.2.1, (gt in_ s454.1 dI4).2.2.2, w_.2.2.2.1, w_.2.2.2.2.1, w_.2.2.2.2.2)) else none)) else none))
abbrev S66_7 : St := ⟨[(1, rl tsI4 in_), (3, ri r_), (4, rC tsNode n_), (6, rC tsA6 w_), (10, rF 0), (12, rF 1), (31, rl tsI4 in_), (32, ri (in_.length : Int)), (33, ri s454.1)], [(tsI4.leaves y357.1), (tsA9.leaves y478), []], [], 89⟩
theorem kern_Row_r10 : R66 C66.r.r.r.r.l.r.b.b.r.r.l.b.r.r (S66_5 n_ in_ w_ r_ y357 s454) q = Option.bind (kern_Row_r10_p in_ w_ s454) (fun y478 : (Int × Int × Int × Int × Int × Int × (List Int) × Int × Int × Int × Int × Int × Int × (List Int)) => q .normal (S66_7 n_ in_ w_ r_ y357 s454 y478)) := .trans (by kernel_rfl) (bif_b (bif_b some_b (bif_b some_b none_b)) (bif_b (bif_b some_b (bif_b some_b none_b)) none_b))
theorem kern_Row_r11 : R66 C66.r.r.r.r.l.r.b.b.r.r.r (S66_7 n_ in_ w_ r_ y357 s454 y478) q = q .normal ⟨[(1, rl tsI4 in_), (3, ri r_), (4, rC tsNode n_), (6, rC tsA6 w_), (10, rF 0), (12, rF 1), (31, rl tsI4 in_), (32, ri (in_.length : Int)), (33, ri (IntKind.wrap .i64 (s454.1 + 1)))], [(tsI4.leaves y357.1), (tsA9.leaves y478), []], [], 89⟩ := by kernel_rfl
def kern_Row_l6_p : Option (U8 ⊕ (U8 ⊕ Unit)) := (bif (decide (s454.1 < (in_.length : Int))) then (Option.bind (kern_Row_r7_p in_ s454) (fun y467 : Unit => (Option.bind (kern_Row_r8_p in_ w_ y357 s454) (fun y477 : Bool => (bif y477 then (some (Sum.inr (Sum.inr ()))) else (Option.bind (kern_Row_r10_p in_ w_ s454) (fun y478 : (Int × Int × Int × Int × Int × Int × (List Int) × Int × Int × Int × Int × Int × Int × (List Int)) => (some (Sum.inl ((IntKind.wrap .i64 (s454.1 + 1)), y478.1, y478.2.1, y478.2.2.1, y478.2.2.2.1, y478.2.2.2.2.1, y478.2.2.2.2.2.1, y478.2.2.2.2.2.2.1, y478.2.2.2.2.2.2.2.1, y478.2.2.2.2.2.2.2.2.1, y478.2.2.2.2.2.2.2.2.2.1, y478.2.2.2.2.2.2.2.2.2.2.1, y478.2.2.2.2.2.2.2.2.2.2.2.1, y478.2.2.2.2.2.2.2.2.2.2.2.2.1, y478.2.2.2.2.2.2.2.2.2.2.2.2.2)))))))))) else (some (Sum.inr (Sum.inl s454))))
abbrev S66_8 : St := ⟨[(1, rl tsI4 in_), (3, ri r_), (4, rC tsNode n_), (6, rC tsA6 w_), (10, rF 0), (12, rF 1), (31, rl tsI4 in_), (32, ri (in_.length : Int)), (33, ri y479.1)], [(tsI4.leaves y357.1), (tsA9.leaves y479.2)], [], 89⟩
theorem kern_Row_l6_b : R66 C66.r.r.r.r.l.r.b.b (S66_4 n_ in_ w_ r_ y357 s454) (loopKont 2 q) = Option.bind (kern_Row_l6_p in_ w_ y357 s454) (either (fun y : U8 => q .normal ⟨[(1, rl tsI4 in_), (3, ri r_), (4, rC tsNode n_), (6, rC tsA6 w_), (10, rF 0), (12, rF 1), (31, rl tsI4 in_), (32, ri (in_.length : Int)), (33, ri y.1)], [(tsI4.leaves y357.1), (tsA9.leaves y.2)], [], 89⟩) (either (fun y479 : U8 => q (.exit 0) (S66_8 n_ in_ w_ r_ y357 y479)) (fun y480 : Unit => q .ret S66_6))) := by
  refine .trans ?_ (bif_b (bind_b fun y467 => (bind_b fun y477 => (bif_b e3_2 (bind_b fun y478 => e3_0)))) e3_1)
  refine (pre1 (kern_Row_fzx1 n_ in_ w_ r_ y357 s454 _)).trans ?_
  refine .trans seq_push ?_
  refine (cond_e (b := (decide (s454.1 < (in_.length : Int)))) (st' := (S66_4 n_ in_ w_ r_ y357 s454)) ).trans (bif_g ?_ ?_)
  · refine (skip_eq).trans ?_
    refine (seqC_normal (st' := (S66_4 n_ in_ w_ r_ y357 s454))).trans ?_
    refine .trans seq_push ?_
    refine (block_push (id := 1)).trans ?_
    refine (pre1 (kern_Row_r7 n_ in_ w_ r_ y357 s454 _)).trans (bind_g fun y467 => ?_)
    refine .trans seq_push ?_
    refine (pre1 (kern_Row_r8 n_ in_ w_ r_ y357 s454 _)).trans (bind_g fun y477 => ?_)
    refine (cond_e (b := y477) (st' := (S66_5 n_ in_ w_ r_ y357 s454)) ).trans (bif_g ?_ ?_)
    · refine (pre1 (kern_Row_fzx2 n_ in_ w_ r_ y357 s454 _)).trans ?_
      refine (ret_eq).trans ?_
      refine seqC_ret.trans ?_
      refine block_ret.trans ?_
      refine seqC_ret.trans ?_
      kernel_rfl
    · refine (skip_eq).trans ?_
      refine (seqC_normal (st' := (S66_5 n_ in_ w_ r_ y357 s454))).trans ?_
      refine (kern_Row_r10 n_ in_ w_ r_ y357 s454 _).trans (bind_g fun y478 => ?_)
      refine block_normal.trans ?_
      refine (seqC_normal (st' := (S66_7 n_ in_ w_ r_ y357 s454 y478))).trans ?_
      refine (kern_Row_r11 n_ in_ w_ r_ y357 s454 y478 _).trans ?_
      kernel_rfl
  · refine ((exit_eq (j := 0))).trans ?_
    refine seqC_exit.trans ?_
    kernel_rfl
theorem kern_Row_l6 : R66 C66.r.r.r.r.l.r.b (S66_3 n_ in_ w_ r_ y357) q = Option.bind (iterN (kern_Row_l6_p in_ w_ y357) LL ((0 : Int), (0 : Int), (0 : Int), (0 : Int), (0 : Int), (0 : Int), (0 : Int), [], (0 : Int), (0 : Int), (0 : Int), (0 : Int), (0 : Int), (0 : Int), [])) (either (fun y479 : U8 => q (.exit 0) (S66_8 n_ in_ w_ r_ y357 y479)) (fun y480 : Unit => q .ret S66_6)) :=
  Eq.trans (by kernel_rfl) (loop_iter2 (S := fun s454 : U8 => (S66_4 n_ in_ w_ r_ y357 s454)) (Y1 := fun y479 : U8 => ((.exit 0), (S66_8 n_ in_ w_ r_ y357 y479))) (Y2 := fun y480 : Unit => (.ret, S66_6)) (fun s q => kern_Row_l6_b n_ in_ w_ r_ y357 s q) (fun z => rfl) (fun z => rfl) LL ((0 : Int), (0 : Int), (0 : Int), (0 : Int), (0 : Int), (0 : Int), (0 : Int), [], (0 : Int), (0 : Int), (0 : Int), (0 : Int), (0 : Int), (0 : Int), []))
abbrev S66_9 : St := ⟨[(1, rl tsI4 in_), (3, ri r_), (4, rC tsNode n_), (12, rF 1)], [(tsI4.leaves y357.1), (tsA9.leaves y479.2)], [], 89⟩
abbrev S66_10 : St := ⟨[(3, ri r_), (4, rC tsNode n_), (12, rF 1), (15, rF 2)], [(tsI4.leaves y357.1), (tsA9.leaves y479.2), (tsI4.leaves y481.1)], [], 89⟩
theorem kern_Row_r12 : P66 1 C66.r.r.r.r.r (S66_9 n_ in_ r_ y357 y479) k = Option.bind (graph_Value n_ in_) fun y481 : (I4 × Int) => k (S66_10 n_ r_ y357 y479 y481) := by kernel_rfl
def kern_Row_r13_q (K : U26 → β) : β := ((either (fun u496 : U13 => (K (Sum.inl ((u496.1.1, u496.1.2.1, u496.1.2.2.1, u496.1.2.2.2.1, u496.1.2.2.2.2.1, u496.1.2.2.2.2.2.1, u496.1.2.2.2.2.2.2.1, ()), (u496.2.1.1, u496.2.1.2.1, u496.2.1.2.2.1, u496.2.1.2.2.2.1, u496.2.1.2.2.2.2.1, u496.2.1.2.2.2.2.2.1, u496.2.1.2.2.2.2.2.2.1, u496.2.1.2.2.2.2.2.2.2.1, u496.2.1.2.2.2.2.2.2.2.2.1, u496.2.1.2.2.2.2.2.2.2.2.2.1, u496.2.1.2.2.2.2.2.2.2.2.2.2.1, u496.2.1.2.2.2.2.2.2.2.2.2.2.2.1, u496.2.1.2.2.2.2.2.2.2.2.2.2.2.2.1, u496.2.1.2.2.2.2.2.2.2.2.2.2.2.2.2.1, ()), ())))) (either (fun u497 : U4 => (K (Sum.inr (Sum.inl ((u497.1.1, u497.1.2.1, u497.1.2.2.1, u497.1.2.2.2.1, u497.1.2.2.2.2.1, u497.1.2.2.2.2.2.1, u497.1.2.2.2.2.2.2.1, ()), ()))))) (either (fun u498 : U12 => (K (Sum.inr (Sum.inr (Sum.inl ((u498.1.1, u498.1.2.1, u498.1.2.2.1, u498.1.2.2.2.1, u498.1.2.2.2.2.1, u498.1.2.2.2.2.2.1, u498.1.2.2.2.2.2.2.1, ()), (u498.2.1.1, u498.2.1.2.1, u498.2.1.2.2.1, u498.2.1.2.2.2.1, u498.2.1.2.2.2.2.1, u498.2.1.2.2.2.2.2.1, u498.2.1.2.2.2.2.2.2.1, u498.2.1.2.2.2.2.2.2.2.1, u498.2.1.2.2.2.2.2.2.2.2.1, u498.2.1.2.2.2.2.2.2.2.2.2.1, u498.2.1.2.2.2.2.2.2.2.2.2.2.1, u498.2.1.2.2.2.2.2.2.2.2.2.2.2.1, u498.2.1.2.2.2.2.2.2.2.2.2.2.2.2.1, u498.2.1.2.2.2.2.2.2.2.2.2.2.2.2.2.1, ()), ())))))) (either (fun u499 : U7 => (K (Sum.inr (Sum.inr (Sum.inr (Sum.inl ((u499.1.1, u499.1.2.1, u499.1.2.2.1, u499.1.2.2.2.1, u499.1.2.2.2.2.1, u499.1.2.2.2.2.2.1, u499.1.2.2.2.2.2.2.1, ()), (u499.2.1.1, u499.2.1.2.1, u499.2.1.2.2.1, u499.2.1.2.2.2.1, ()), ()))))))) (either (fun u500 : U14 => (K (Sum.inr (Sum.inr (Sum.inr (Sum.inr (Sum.inl ((u500.1.1, u500.1.2.1, u500.1.2.2.1, u500.1.2.2.2.1, u500.1.2.2.2.2.1, u500.1.2.2.2.2.2.1, u500.1.2.2.2.2.2.2.1, u500.1.2.2.2.2.2.2.2.1, u500.1.2.2.2.2.2.2.2.2.1, u500.1.2.2.2.2.2.2.2.2.2.1, u500.1.2.2.2.2.2.2.2.2.2.2.1, u500.1.2.2.2.2.2.2.2.2.2.2.2.1, u500.1.2.2.2.2.2.2.2.2.2.2.2.2.1, u500.1.2.2.2.2.2.2.2.2.2.2.2.2.2.1, ()), (u500.2.1.1, u500.2.1.2.1, u500.2.1.2.2.1, u500.2.1.2.2.2.1, u500.2.1.2.2.2.2.1, u500.2.1.2.2.2.2.2.1, u500.2.1.2.2.2.2.2.2.1, ()), ())))))))) (either (fun u501 : U14 => (K (Sum.inr (Sum.inr (Sum.inr (Sum.inr (Sum.inr (Sum.inl ((u501.1.1, u501.1.2.1, u501.1.2.2.1, u501.1.2.2.2.1, u501.1.2.2.2.2.1, u501.1.2.2.2.2.2.1, u501.1.2.2.2.2.2.2.1, u501.1.2.2.2.2.2.2.2.1, u501.1.2.2.2.2.2.2.2.2.1, u501.1.2.2.2.2.2.2.2.2.2.1, u501.1.2.2.2.2.2.2.2.2.2.2.1, u501.1.2.2.2.2.2.2.2.2.2.2.2.1, u501.1.2.2.2.2.2.2.2.2.2.2.2.2.1, u501.1.2.2.2.2.2.2.2.2.2.2.2.2.2.1, ()), (u501.2.1.1, u501.2.1.2.1, u501.2.1.2.2.1, u501.2.1.2.2.2.1, u501.2.1.2.2.2.2.1, u501.2.1.2.2.2.2.2.1, u501.2.1.2.2.2.2.2.2.1, ()), ()))))))))) (either (fun u502 : U14 => (K (Sum.inr (Sum.inr (Sum.inr (Sum.inr (Sum.inr (Sum.inr (Sum.inl ((u502.1.1, u502.1.2.1, u502.1.2.2.1, u502.1.2.2.2.1, u502.1.2.2.2.2.1, u502.1.2.2.2.2.2.1, u502.1.2.2.2.2.2.2.1, u502.1.2.2.2.2.2.2.2.1, u502.1.2.2.2.2.2.2.2.2.1, u502.1.2.2.2.2.2.2.2.2.2.1, u502.1.2.2.2.2.2.2.2.2.2.2.1, u502.1.2.2.2.2.2.2.2.2.2.2.2.1, u502.1.2.2.2.2.2.2.2.2.2.2.2.2.1, u502.1.2.2.2.2.2.2.2.2.2.2.2.2.2.1, ()), (u502.2.1.1, u502.2.1.2.1, u502.2.1.2.2.1, u502.2.1.2.2.2.1, u502.2.1.2.2.2.2.1, u502.2.1.2.2.2.2.2.1, u502.2.1.2.2.2.2.2.2.1, ()), ())))))))))) (either (fun u503 : U14 => (K (Sum.inr (Sum.inr (Sum.inr (Sum.inr (Sum.inr (Sum.inr (Sum.inr (Sum.inl ((u503.1.1, u503.1.2.1, u503.1.2.2.1, u503.1.2.2.2.1, u503.1.2.2.2.2.1, u503.1.2.2.2.2.2.1, u503.1.2.2.2.2.2.2.1, u503.1.2.2.2.2.2.2.2.1, u503.1.2.2.2.2.2.2.2.2.1, u503.1.2.2.2.2.2.2.2.2.2.1, u503.1.2.2.2.2.2.2.2.2.2.2.1, u503.1.2.2.2.2.2.2.2.2.2.2.2.1, u503.1.2.2.2.2.2.2.2.2.2.2.2.2.1, u503.1.2.2.2.2.2.2.2.2.2.2.2.2.2.1, ()), (u503.2.1.1, u503.2.1.2.1, u503.2.1.2.2.1, u503.2.1.2.2.2.1, u503.2.1.2.2.2.2.1, u503.2.1.2.2.2.2.2.1, u503.2.1.2.2.2.2.2.2.1, ()), ()))))))))))) (fun u504 : U18 => (K (Sum.inr (Sum.inr (Sum.inr (Sum.inr (Sum.inr (Sum.inr (Sum.inr (Sum.inr ((u504.1.1, u504.1.2.1, u504.1.2.2.1, u504.1.2.2.2.1, u504.1.2.2.2.2.1, u504.1.2.2.2.2.2.1, u504.1.2.2.2.2.2.2.1, ()), (u504.2.1.1, u504.2.1.2.1, u504.2.1.2.2.1, u504.2.1.2.2.2.1, u504.2.1.2.2.2.2.1, u504.2.1.2.2.2.2.2.1, u504.2.1.2.2.2.2.2.2.1, ()), (u504.2.2.1.1, u504.2.2.1.2.1, u504.2.2.1.2.2.1, u504.2.2.1.2.2.2.1, u504.2.2.1.2.2.2.2.1, u504.2.2.1.2.2.2.2.2.1, u504.2.2.1.2.2.2.2.2.2.1, u504.2.2.1.2.2.2.2.2.2.2.1, u504.2.2.1.2.2.2.2.2.2.2.2.1, u504.2.2.1.2.2.2.2.2.2.2.2.2.1, u504.2.2.1.2.2.2.2.2.2.2.2.2.2.1, u504.2.2.1.2.2.2.2.2.2.2.2.2.2.2.1, u504.2.2.1.2.2.2.2.2.2.2.2.2.2.2.2.1, u504.2.2.1.2.2.2.2.2.2.2.2.2.2.2.2.2.1, ()), ()))))))))))))))))))) (kern_made n_ y481.1 y479.2))
def kern_Row_r13_p : U26 := kern_Row_r13_q n_ y479 y481 (fun y => y)
theorem kern_Row_r13_n (K : U26 → β) : kern_Row_r13_q n_ y479 y481 K = K (kern_Row_r13_p n_ y479 y481) := ((either_k (K := K) (fun u496 => rfl) (either_k (K := K) (fun u497 => rfl) (either_k (K := K) (fun u498 => rfl) (either_k (K := K) (fun u499 => rfl) (either_k (K := K) (fun u500 => rfl) (either_k (K := K) (fun u501 => rfl) (either_k (K := K) (fun u502 => rfl) (either_k (K := K) (fun u503 => rfl) (fun u504 => rfl))))))))) (kern_made n_ y481.1 y479.2))
abbrev S66_11 : St := ⟨[(3, ri r_), (15, rF 2), (17, .one (Ps.enc Z9 y506))], [(tsI4.leaves y357.1), [], (tsI4.leaves y481.1)], [], 89⟩
theorem kern_Row_r13 : P66 1 C66.r.r.r.r.r.r (S66_10 n_ r_ y357 y479 y481) k = Option.bind (some (kern_Row_r13_p n_ y479 y481)) (fun y506 : U26 => k (S66_11 r_ y357 y481 y506)) := Eq.trans (by kernel_rfl) (kern_Row_r13_n n_ y479 y481 (fun y505 : U26 => k ⟨[(3, ri r_), (15, rF 2), (17, .one (Ps.enc Z9 y505))], [(tsI4.leaves y357.1), [], (tsI4.leaves y481.1)], [], 89⟩))
abbrev S66_12 : St := ⟨[(3, ri r_), (15, rF 2), (17, .one (Ps.enc Z9 y506)), (18, .one (.ow (.one (.int .i8)) [] (.v 18)))], [(tsI4.leaves y357.1), [], (tsI4.leaves y481.1)], [], 89⟩
theorem kern_Row_f15 : P66 1 C66.r.r.r.r.r.r.r (S66_11 r_ y357 y481 y506) k = k (S66_12 r_ y357 y481 y506) := by (rcases y506 with (_ | _ | _ | _ | _ | _ | _ | _ | _) <;> kernel_rfl)
abbrev S66_13 : St := ⟨[(3, ri r_), (15, rF 2), (17, .one (Ps.enc Z9 y506)), (18, .one (.ow (.one (.int .i8)) [] (.v 18))), (67, ri y481.1.2.1), (68, ri 0)], [(tsI4.leaves y357.1), [], (tsI4.leaves y481.1)], [], 89⟩
theorem kern_Row_f16 : P66 1 C66.r.r.r.r.r.r.r.r.l (S66_12 r_ y357 y481 y506) k = k (S66_13 r_ y357 y481 y506) := by (rcases y506 with (_ | _ | _ | _ | _ | _ | _ | _ | _) <;> kernel_rfl)
abbrev S66_14 : St := ⟨[(3, ri r_), (15, rF 2), (17, .one (Ps.enc Z9 y506)), (18, .one (.ow (.one (.int .i8)) s1135.1 (.v 18))), (67, ri y481.1.2.1), (68, ri s1135.2)], [(tsI4.leaves y357.1), [], (tsI4.leaves y481.1)], [], 89⟩
theorem kern_Row_fzx3 : P66 1 C66.r.r.r.r.r.r.r.r.l.r.b.b (S66_14 r_ y357 y481 y506 s1135) k = k ⟨[(3, ri r_), (15, rF 2), (17, .one (Ps.enc Z9 y506)), (18, .one (.ow (.one (.int .i8)) s1135.1 (.v 18))), (67, ri y481.1.2.1), (68, ri s1135.2), (69, rb (decide (s1135.2 < y481.1.2.1)))], [(tsI4.leaves y357.1), [], (tsI4.leaves y481.1)], [], 89⟩ := by (rcases y506 with (_ | _ | _ | _ | _ | _ | _ | _ | _) <;> kernel_rfl)
abbrev S66_15 : St := ⟨[(3, ri r_), (15, rF 2), (17, .one (Ps.enc Z9 y506)), (18, .one (.ow (.one (.int .i8)) s1135.1 (.v 18))), (19, ri s1135.2), (67, ri y481.1.2.1), (68, ri s1135.2), (73, ri y481.1.2.2.1), (74, ri 0)], [(tsI4.leaves y357.1), [], (tsI4.leaves y481.1)], [], 89⟩
theorem kern_Row_f19 : P66 2 C66.r.r.r.r.r.r.r.r.l.r.b.b.r.r.l.b (S66_14 r_ y357 y481 y506 s1135) k = k (S66_15 r_ y357 y481 y506 s1135) := by (rcases y506 with (_ | _ | _ | _ | _ | _ | _ | _ | _) <;> kernel_rfl)
abbrev S66_16 : St := ⟨[(3, ri r_), (15, rF 2), (17, .one (Ps.enc Z9 y506)), (18, .one (.ow (.one (.int .i8)) s1254.1 (.v 18))), (19, ri s1135.2), (67, ri y481.1.2.1), (68, ri s1135.2), (73, ri y481.1.2.2.1), (74, ri s1254.2)], [(tsI4.leaves y357.1), [], (tsI4.leaves y481.1)], [], 89⟩
theorem kern_Row_fzx4 : P66 1 C66.r.r.r.r.r.r.r.r.l.r.b.b.r.r.l.b.r.r.b.b (S66_16 r_ y357 y481 y506 s1135 s1254) k = k ⟨[(3, ri r_), (15, rF 2), (17, .one (Ps.enc Z9 y506)), (18, .one (.ow (.one (.int .i8)) s1254.1 (.v 18))), (19, ri s1135.2), (67, ri y481.1.2.1), (68, ri s1135.2), (73, ri y481.1.2.2.1), (74, ri s1254.2), (75, rb (decide (s1254.2 < y481.1.2.2.1)))], [(tsI4.leaves y357.1), [], (tsI4.leaves y481.1)], [], 89⟩ := by (rcases y506 with (_ | _ | _ | _ | _ | _ | _ | _ | _) <;> kernel_rfl)
abbrev S66_17 : St := ⟨[(3, ri r_), (15, rF 2), (17, .one (Ps.enc Z9 y506)), (18, .one (.ow (.one (.int .i8)) s1254.1 (.v 18))), (19, ri s1135.2), (20, ri s1254.2), (67, ri y481.1.2.1), (68, ri s1135.2), (73, ri y481.1.2.2.1), (74, ri s1254.2)], [(tsI4.leaves y357.1), [], (tsI4.leaves y481.1)], [], 89⟩
theorem kern_Row_f21 : P66 1 C66.r.r.r.r.r.r.r.r.l.r.b.b.r.r.l.b.r.r.b.b.r.r.l.b (S66_16 r_ y357 y481 y506 s1135 s1254) k = k (S66_17 r_ y357 y481 y506 s1135 s1254) := by (rcases y506 with (_ | _ | _ | _ | _ | _ | _ | _ | _) <;> kernel_rfl)
def kern_Row_r21_p : Option (List Int) := ((either (fun u1274 : U13 => (Option.bind (kern_made_1 r_ s1135.2 s1254.2 (u1274.1.1, u1274.1.2.1, u1274.1.2.2.1, u1274.1.2.2.2.1, u1274.1.2.2.2.2.1, u1274.1.2.2.2.2.2.1, u1274.1.2.2.2.2.2.2.1) (u1274.2.1.1, u1274.2.1.2.1, u1274.2.1.2.2.1, u1274.2.1.2.2.2.1, u1274.2.1.2.2.2.2.1, u1274.2.1.2.2.2.2.2.1, u1274.2.1.2.2.2.2.2.2.1, u1274.2.1.2.2.2.2.2.2.2.1, u1274.2.1.2.2.2.2.2.2.2.2.1, u1274.2.1.2.2.2.2.2.2.2.2.2.1, u1274.2.1.2.2.2.2.2.2.2.2.2.2.1, u1274.2.1.2.2.2.2.2.2.2.2.2.2.2.1, u1274.2.1.2.2.2.2.2.2.2.2.2.2.2.2.1, u1274.2.1.2.2.2.2.2.2.2.2.2.2.2.2.2.1)) (fun y1275 : Int => (bif (decide (s1254.1.length + ([(IntKind.wrap .i8 y1275)] : List Int).length ≤ maxL)) then (some (s1254.1 ++ [(IntKind.wrap .i8 y1275)])) else none)))) (either (fun u1276 : U4 => (Option.bind (kern_made_2 r_ s1135.2 s1254.2 (u1276.1.1, u1276.1.2.1, u1276.1.2.2.1, u1276.1.2.2.2.1, u1276.1.2.2.2.2.1, u1276.1.2.2.2.2.2.1, u1276.1.2.2.2.2.2.2.1)) (fun y1277 : Int => (bif (decide (s1254.1.length + ([(IntKind.wrap .i8 y1277)] : List Int).length ≤ maxL)) then (some (s1254.1 ++ [(IntKind.wrap .i8 y1277)])) else none)))) (either (fun u1278 : U12 => (Option.bind (kern_made_3 r_ s1135.2 s1254.2 (u1278.1.1, u1278.1.2.1, u1278.1.2.2.1, u1278.1.2.2.2.1, u1278.1.2.2.2.2.1, u1278.1.2.2.2.2.2.1, u1278.1.2.2.2.2.2.2.1) u1278.2.1.1 u1278.2.1.2.1 u1278.2.1.2.2.1 u1278.2.1.2.2.2.1 u1278.2.1.2.2.2.2.1 u1278.2.1.2.2.2.2.2.1 u1278.2.1.2.2.2.2.2.2.1 u1278.2.1.2.2.2.2.2.2.2.1 u1278.2.1.2.2.2.2.2.2.2.2.1 u1278.2.1.2.2.2.2.2.2.2.2.2.1 u1278.2.1.2.2.2.2.2.2.2.2.2.2.1 u1278.2.1.2.2.2.2.2.2.2.2.2.2.2.1 u1278.2.1.2.2.2.2.2.2.2.2.2.2.2.2.1 u1278.2.1.2.2.2.2.2.2.2.2.2.2.2.2.2.1) (fun y1279 : Int => (bif (decide (s1254.1.length + ([(IntKind.wrap .i8 y1279)] : List Int).length ≤ maxL)) then (some (s1254.1 ++ [(IntKind.wrap .i8 y1279)])) else none)))) (either (fun u1280 : U7 => (Option.bind (kern_made_4 r_ s1135.2 s1254.2 (u1280.1.1, u1280.1.2.1, u1280.1.2.2.1, u1280.1.2.2.2.1, u1280.1.2.2.2.2.1, u1280.1.2.2.2.2.2.1, u1280.1.2.2.2.2.2.2.1) (u1280.2.1.1, u1280.2.1.2.1, u1280.2.1.2.2.1, u1280.2.1.2.2.2.1)) (fun y1281 : Int => (bif (decide (s1254.1.length + ([(IntKind.wrap .i8 y1281)] : List Int).length ≤ maxL)) then (some (s1254.1 ++ [(IntKind.wrap .i8 y1281)])) else none)))) (either (fun u1282 : U14 => (Option.bind (kern_made_5 r_ s1135.2 s1254.2 (u1282.1.1, u1282.1.2.1, u1282.1.2.2.1, u1282.1.2.2.2.1, u1282.1.2.2.2.2.1, u1282.1.2.2.2.2.2.1, u1282.1.2.2.2.2.2.2.1, u1282.1.2.2.2.2.2.2.2.1, u1282.1.2.2.2.2.2.2.2.2.1, u1282.1.2.2.2.2.2.2.2.2.2.1, u1282.1.2.2.2.2.2.2.2.2.2.2.1, u1282.1.2.2.2.2.2.2.2.2.2.2.2.1, u1282.1.2.2.2.2.2.2.2.2.2.2.2.2.1, u1282.1.2.2.2.2.2.2.2.2.2.2.2.2.2.1) (u1282.2.1.1, u1282.2.1.2.1, u1282.2.1.2.2.1, u1282.2.1.2.2.2.1, u1282.2.1.2.2.2.2.1, u1282.2.1.2.2.2.2.2.1, u1282.2.1.2.2.2.2.2.2.1)) (fun y1283 : Int => (bif (decide (s1254.1.length + ([(IntKind.wrap .i8 y1283)] : List Int).length ≤ maxL)) then (some (s1254.1 ++ [(IntKind.wrap .i8 y1283)])) else none)))) (either (fun u1284 : U14 => (Option.bind (kern_conv_1 r_ s1135.2 s1254.2 (u1284.1.1, u1284.1.2.1, u1284.1.2.2.1, u1284.1.2.2.2.1, u1284.1.2.2.2.2.1, u1284.1.2.2.2.2.2.1, u1284.1.2.2.2.2.2.2.1, u1284.1.2.2.2.2.2.2.2.1, u1284.1.2.2.2.2.2.2.2.2.1, u1284.1.2.2.2.2.2.2.2.2.2.1, u1284.1.2.2.2.2.2.2.2.2.2.2.1, u1284.1.2.2.2.2.2.2.2.2.2.2.2.1, u1284.1.2.2.2.2.2.2.2.2.2.2.2.2.1, u1284.1.2.2.2.2.2.2.2.2.2.2.2.2.2.1) (u1284.2.1.1, u1284.2.1.2.1, u1284.2.1.2.2.1, u1284.2.1.2.2.2.1, u1284.2.1.2.2.2.2.1, u1284.2.1.2.2.2.2.2.1, u1284.2.1.2.2.2.2.2.2.1)) (fun y1285 : Int => (bif (decide (s1254.1.length + ([(IntKind.wrap .i8 y1285)] : List Int).length ≤ maxL)) then (some (s1254.1 ++ [(IntKind.wrap .i8 y1285)])) else none)))) (either (fun u1286 : U14 => (Option.bind (kern_full_1 r_ s1135.2 s1254.2 (u1286.1.1, u1286.1.2.1, u1286.1.2.2.1, u1286.1.2.2.2.1, u1286.1.2.2.2.2.1, u1286.1.2.2.2.2.2.1, u1286.1.2.2.2.2.2.2.1, u1286.1.2.2.2.2.2.2.2.1, u1286.1.2.2.2.2.2.2.2.2.1, u1286.1.2.2.2.2.2.2.2.2.2.1, u1286.1.2.2.2.2.2.2.2.2.2.2.1, u1286.1.2.2.2.2.2.2.2.2.2.2.2.1, u1286.1.2.2.2.2.2.2.2.2.2.2.2.2.1, u1286.1.2.2.2.2.2.2.2.2.2.2.2.2.2.1) (u1286.2.1.1, u1286.2.1.2.1, u1286.2.1.2.2.1, u1286.2.1.2.2.2.1, u1286.2.1.2.2.2.2.1, u1286.2.1.2.2.2.2.2.1, u1286.2.1.2.2.2.2.2.2.1)) (fun y1287 : Int => (bif (decide (s1254.1.length + ([(IntKind.wrap .i8 y1287)] : List Int).length ≤ maxL)) then (some (s1254.1 ++ [(IntKind.wrap .i8 y1287)])) else none)))) (either (fun u1288 : U14 => (Option.bind (kern_pool_1 r_ s1135.2 s1254.2 (u1288.1.1, u1288.1.2.1, u1288.1.2.2.1, u1288.1.2.2.2.1, u1288.1.2.2.2.2.1, u1288.1.2.2.2.2.2.1, u1288.1.2.2.2.2.2.2.1, u1288.1.2.2.2.2.2.2.2.1, u1288.1.2.2.2.2.2.2.2.2.1, u1288.1.2.2.2.2.2.2.2.2.2.1, u1288.1.2.2.2.2.2.2.2.2.2.2.1, u1288.1.2.2.2.2.2.2.2.2.2.2.2.1, u1288.1.2.2.2.2.2.2.2.2.2.2.2.2.1, u1288.1.2.2.2.2.2.2.2.2.2.2.2.2.2.1) (u1288.2.1.1, u1288.2.1.2.1, u1288.2.1.2.2.1, u1288.2.1.2.2.2.1, u1288.2.1.2.2.2.2.1, u1288.2.1.2.2.2.2.2.1, u1288.2.1.2.2.2.2.2.2.1)) (fun y1289 : Int => (bif (decide (s1254.1.length + ([(IntKind.wrap .i8 y1289)] : List Int).length ≤ maxL)) then (some (s1254.1 ++ [(IntKind.wrap .i8 y1289)])) else none)))) (fun u1290 : U18 => (Option.bind (kern_pair_1 r_ s1135.2 s1254.2 (u1290.1.1, u1290.1.2.1, u1290.1.2.2.1, u1290.1.2.2.2.1, u1290.1.2.2.2.2.1, u1290.1.2.2.2.2.2.1, u1290.1.2.2.2.2.2.2.1) (u1290.2.1.1, u1290.2.1.2.1, u1290.2.1.2.2.1, u1290.2.1.2.2.2.1, u1290.2.1.2.2.2.2.1, u1290.2.1.2.2.2.2.2.1, u1290.2.1.2.2.2.2.2.2.1) (u1290.2.2.1.1, u1290.2.2.1.2.1, u1290.2.2.1.2.2.1, u1290.2.2.1.2.2.2.1, u1290.2.2.1.2.2.2.2.1, u1290.2.2.1.2.2.2.2.2.1, u1290.2.2.1.2.2.2.2.2.2.1, u1290.2.2.1.2.2.2.2.2.2.2.1, u1290.2.2.1.2.2.2.2.2.2.2.2.1, u1290.2.2.1.2.2.2.2.2.2.2.2.2.1, u1290.2.2.1.2.2.2.2.2.2.2.2.2.2.1, u1290.2.2.1.2.2.2.2.2.2.2.2.2.2.2.1, u1290.2.2.1.2.2.2.2.2.2.2.2.2.2.2.2.1, u1290.2.2.1.2.2.2.2.2.2.2.2.2.2.2.2.2.1)) (fun y1291 : Int => (bif (decide (s1254.1.length + ([(IntKind.wrap .i8 y1291)] : List Int).length ≤ maxL)) then (some (s1254.1 ++ [(IntKind.wrap .i8 y1291)])) else none)))))))))))) y506)
abbrev S66_18 : St := ⟨[(3, ri r_), (15, rF 2), (17, .one (Ps.enc Z9 y506)), (18, .one (.ow (.one (.int .i8)) y1292 (.v 18))), (19, ri s1135.2), (67, ri y481.1.2.1), (68, ri s1135.2), (73, ri y481.1.2.2.1), (74, ri s1254.2)], [(tsI4.leaves y357.1), [], (tsI4.leaves y481.1)], [], 89⟩
theorem kern_Row_r21 : R66 C66.r.r.r.r.r.r.r.r.l.r.b.b.r.r.l.b.r.r.b.b.r.r.l.b.r (S66_17 r_ y357 y481 y506 s1135 s1254) q = Option.bind (kern_Row_r21_p r_ y506 s1135 s1254) (fun y1292 : (List Int) => q .normal (S66_18 r_ y357 y481 y506 s1135 s1254 y1292)) := .trans (by (rcases y506 with (_ | _ | _ | _ | _ | _ | _ | _ | _) <;> kernel_rfl)) ((either_b (fun u1274 => (bind_b fun y1275 => (bif_b some_b none_b))) (either_b (fun u1276 => (bind_b fun y1277 => (bif_b some_b none_b))) (either_b (fun u1278 => (bind_b fun y1279 => (bif_b some_b none_b))) (either_b (fun u1280 => (bind_b fun y1281 => (bif_b some_b none_b))) (either_b (fun u1282 => (bind_b fun y1283 => (bif_b some_b none_b))) (either_b (fun u1284 => (bind_b fun y1285 => (bif_b some_b none_b))) (either_b (fun u1286 => (bind_b fun y1287 => (bif_b some_b none_b))) (either_b (fun u1288 => (bind_b fun y1289 => (bif_b some_b none_b))) (fun u1290 => (bind_b fun y1291 => (bif_b some_b none_b))))))))))) y506)
theorem kern_Row_r22 : R66 C66.r.r.r.r.r.r.r.r.l.r.b.b.r.r.l.b.r.r.b.b.r.r.r (S66_18 r_ y357 y481 y506 s1135 s1254 y1292) q = q .normal ⟨[(3, ri r_), (15, rF 2), (17, .one (Ps.enc Z9 y506)), (18, .one (.ow (.one (.int .i8)) y1292 (.v 18))), (19, ri s1135.2), (67, ri y481.1.2.1), (68, ri s1135.2), (73, ri y481.1.2.2.1), (74, ri (IntKind.wrap .i64 (s1254.2 + 1)))], [(tsI4.leaves y357.1), [], (tsI4.leaves y481.1)], [], 89⟩ := by (rcases y506 with (_ | _ | _ | _ | _ | _ | _ | _ | _) <;> kernel_rfl)
def kern_Row_l19_p : Option (((List Int) × Int) ⊕ ((List Int) × Int)) := (bif (decide (s1254.2 < y481.1.2.2.1)) then (Option.bind (kern_Row_r21_p r_ y506 s1135 s1254) (fun y1292 : (List Int) => (some (Sum.inl (y1292, (IntKind.wrap .i64 (s1254.2 + 1))))))) else (some (Sum.inr s1254)))
abbrev S66_19 : St := ⟨[(3, ri r_), (15, rF 2), (17, .one (Ps.enc Z9 y506)), (18, .one (.ow (.one (.int .i8)) y1293.1 (.v 18))), (19, ri s1135.2), (67, ri y481.1.2.1), (68, ri s1135.2), (73, ri y481.1.2.2.1), (74, ri y1293.2)], [(tsI4.leaves y357.1), [], (tsI4.leaves y481.1)], [], 89⟩
theorem kern_Row_l19_b : R66 C66.r.r.r.r.r.r.r.r.l.r.b.b.r.r.l.b.r.r.b.b (S66_16 r_ y357 y481 y506 s1135 s1254) (loopKont 3 q) = Option.bind (kern_Row_l19_p r_ y481 y506 s1135 s1254) (either (fun y : ((List Int) × Int) => q .normal ⟨[(3, ri r_), (15, rF 2), (17, .one (Ps.enc Z9 y506)), (18, .one (.ow (.one (.int .i8)) y.1 (.v 18))), (19, ri s1135.2), (67, ri y481.1.2.1), (68, ri s1135.2), (73, ri y481.1.2.2.1), (74, ri y.2)], [(tsI4.leaves y357.1), [], (tsI4.leaves y481.1)], [], 89⟩) (fun y1293 : ((List Int) × Int) => q (.exit 4) (S66_19 r_ y357 y481 y506 s1135 y1293))) := by
  refine .trans ?_ (bif_b (bind_b fun y1292 => e2_0) e2_1)
  refine (pre1 (kern_Row_fzx4 r_ y357 y481 y506 s1135 s1254 _)).trans ?_
  refine .trans seq_push ?_
  refine (cond_e (b := (decide (s1254.2 < y481.1.2.2.1))) (st' := (S66_16 r_ y357 y481 y506 s1135 s1254)) (hs := by (rcases y506 with (_ | _ | _ | _ | _ | _ | _ | _ | _) <;> kernel_rfl))).trans (bif_g ?_ ?_)
  · refine (skip_eq).trans ?_
    refine (seqC_normal (st' := (S66_16 r_ y357 y481 y506 s1135 s1254)) (hs := by (rcases y506 with (_ | _ | _ | _ | _ | _ | _ | _ | _) <;> kernel_rfl))).trans ?_
    refine .trans seq_push ?_
    refine (block_push (id := 5)).trans ?_
    refine (pre1 (kern_Row_f21 r_ y357 y481 y506 s1135 s1254 _)).trans ?_
    refine (kern_Row_r21 r_ y357 y481 y506 s1135 s1254 _).trans (bind_g fun y1292 => ?_)
    refine block_normal.trans ?_
    refine (seqC_normal (st' := (S66_18 r_ y357 y481 y506 s1135 s1254 y1292)) (hs := by (rcases y506 with (_ | _ | _ | _ | _ | _ | _ | _ | _) <;> kernel_rfl))).trans ?_
    refine (kern_Row_r22 r_ y357 y481 y506 s1135 s1254 y1292 _).trans ?_
    (rcases y506 with (_ | _ | _ | _ | _ | _ | _ | _ | _) <;> kernel_rfl)
  · refine ((exit_eq (j := 4))).trans ?_
    refine seqC_exit.trans ?_
    (rcases y506 with (_ | _ | _ | _ | _ | _ | _ | _ | _) <;> kernel_rfl)
theorem kern_Row_l19 : R66 C66.r.r.r.r.r.r.r.r.l.r.b.b.r.r.l.b.r.r.b (S66_15 r_ y357 y481 y506 s1135) q = Option.bind (iterN (kern_Row_l19_p r_ y481 y506 s1135) LL (s1135.1, (0 : Int))) (fun y1293 : ((List Int) × Int) => q (.exit 4) (S66_19 r_ y357 y481 y506 s1135 y1293)) :=
  Eq.trans (by kernel_rfl) (loop_iter1 (S := fun s1254 : ((List Int) × Int) => (S66_16 r_ y357 y481 y506 s1135 s1254)) (Y1 := fun y1293 : ((List Int) × Int) => ((.exit 4), (S66_19 r_ y357 y481 y506 s1135 y1293))) (fun s q => kern_Row_l19_b r_ y357 y481 y506 s1135 s q) (fun z => rfl) LL (s1135.1, (0 : Int)))
abbrev S66_20 : St := ⟨[(3, ri r_), (15, rF 2), (17, .one (Ps.enc Z9 y506)), (18, .one (.ow (.one (.int .i8)) y1293.1 (.v 18))), (67, ri y481.1.2.1), (68, ri s1135.2)], [(tsI4.leaves y357.1), [], (tsI4.leaves y481.1)], [], 89⟩
theorem kern_Row_r23 : R66 C66.r.r.r.r.r.r.r.r.l.r.b.b.r.r.r (S66_20 r_ y357 y481 y506 s1135 y1293) q = q .normal ⟨[(3, ri r_), (15, rF 2), (17, .one (Ps.enc Z9 y506)), (18, .one (.ow (.one (.int .i8)) y1293.1 (.v 18))), (67, ri y481.1.2.1), (68, ri (IntKind.wrap .i64 (s1135.2 + 1)))], [(tsI4.leaves y357.1), [], (tsI4.leaves y481.1)], [], 89⟩ := by (rcases y506 with (_ | _ | _ | _ | _ | _ | _ | _ | _) <;> kernel_rfl)
def kern_Row_l16_p : Option (((List Int) × Int) ⊕ ((List Int) × Int)) := (bif (decide (s1135.2 < y481.1.2.1)) then (Option.bind (iterN (kern_Row_l19_p r_ y481 y506 s1135) LL (s1135.1, (0 : Int))) (fun y1293 : ((List Int) × Int) => (some (Sum.inl (y1293.1, (IntKind.wrap .i64 (s1135.2 + 1))))))) else (some (Sum.inr s1135)))
abbrev S66_21 : St := ⟨[(3, ri r_), (15, rF 2), (17, .one (Ps.enc Z9 y506)), (18, .one (.ow (.one (.int .i8)) y1294.1 (.v 18))), (67, ri y481.1.2.1), (68, ri y1294.2)], [(tsI4.leaves y357.1), [], (tsI4.leaves y481.1)], [], 89⟩
theorem kern_Row_l16_b : R66 C66.r.r.r.r.r.r.r.r.l.r.b.b (S66_14 r_ y357 y481 y506 s1135) (loopKont 3 q) = Option.bind (kern_Row_l16_p r_ y481 y506 s1135) (either (fun y : ((List Int) × Int) => q .normal ⟨[(3, ri r_), (15, rF 2), (17, .one (Ps.enc Z9 y506)), (18, .one (.ow (.one (.int .i8)) y.1 (.v 18))), (67, ri y481.1.2.1), (68, ri y.2)], [(tsI4.leaves y357.1), [], (tsI4.leaves y481.1)], [], 89⟩) (fun y1294 : ((List Int) × Int) => q (.exit 2) (S66_21 r_ y357 y481 y506 y1294))) := by
  refine .trans ?_ (bif_b (bind_b fun y1293 => e2_0) e2_1)
  refine (pre1 (kern_Row_fzx3 r_ y357 y481 y506 s1135 _)).trans ?_
  refine .trans seq_push ?_
  refine (cond_e (b := (decide (s1135.2 < y481.1.2.1))) (st' := (S66_14 r_ y357 y481 y506 s1135)) (hs := by (rcases y506 with (_ | _ | _ | _ | _ | _ | _ | _ | _) <;> kernel_rfl))).trans (bif_g ?_ ?_)
  · refine (skip_eq).trans ?_
    refine (seqC_normal (st' := (S66_14 r_ y357 y481 y506 s1135)) (hs := by (rcases y506 with (_ | _ | _ | _ | _ | _ | _ | _ | _) <;> kernel_rfl))).trans ?_
    refine .trans seq_push ?_
    refine (block_push (id := 3)).trans ?_
    refine (pre2 (kern_Row_f19 r_ y357 y481 y506 s1135 _)).trans ?_
    refine (block_push (id := 4)).trans ?_
    refine (kern_Row_l19 r_ y357 y481 y506 s1135 _).trans (bind_g fun y1293 => ?_)
    refine block_same.trans ?_
    refine block_normal.trans ?_
    refine (seqC_normal (st' := (S66_20 r_ y357 y481 y506 s1135 y1293)) (hs := by (rcases y506 with (_ | _ | _ | _ | _ | _ | _ | _ | _) <;> kernel_rfl))).trans ?_
    refine (kern_Row_r23 r_ y357 y481 y506 s1135 y1293 _).trans ?_
    (rcases y506 with (_ | _ | _ | _ | _ | _ | _ | _ | _) <;> kernel_rfl)
  · refine ((exit_eq (j := 2))).trans ?_
    refine seqC_exit.trans ?_
    (rcases y506 with (_ | _ | _ | _ | _ | _ | _ | _ | _) <;> kernel_rfl)
theorem kern_Row_l16 : R66 C66.r.r.r.r.r.r.r.r.l.r.b (S66_13 r_ y357 y481 y506) q = Option.bind (iterN (kern_Row_l16_p r_ y481 y506) LL ([], (0 : Int))) (fun y1294 : ((List Int) × Int) => q (.exit 2) (S66_21 r_ y357 y481 y506 y1294)) :=
  Eq.trans (by kernel_rfl) (loop_iter1 (S := fun s1135 : ((List Int) × Int) => (S66_14 r_ y357 y481 y506 s1135)) (Y1 := fun y1294 : ((List Int) × Int) => ((.exit 2), (S66_21 r_ y357 y481 y506 y1294))) (fun s q => kern_Row_l16_b r_ y357 y481 y506 s q) (fun z => rfl) LL ([], (0 : Int)))
abbrev S66_22 : St := ⟨[(18, .one (.ow (.one (.int .i8)) y1294.1 (.v 18)))], [(tsI4.leaves y357.1), [], (tsI4.leaves y481.1)], [], 89⟩
theorem kern_Row_fzx5 : P66 1 C66.r.r.r.r.r.r.r.r.r (S66_22 y357 y481 y1294) k = k ⟨[(8, .one (.ow (.one (.int .i8)) y1294.1 (.v 18))), (9, ri 0)], [(tsI4.leaves y357.1), [], (tsI4.leaves y481.1)], [], 89⟩ := by kernel_rfl
/-- quilt/kern.Row -/
def kern_Row : Option ((List Int) × Int) := (Option.bind (kern_Needs n_ in_ r_ (1 : Int)) (fun y357 : (I4 × Int) => (bif (y357.2 != 0) then (some ([], y357.2)) else (Option.bind (iterN (kern_Row_l6_p in_ w_ y357) LL ((0 : Int), (0 : Int), (0 : Int), (0 : Int), (0 : Int), (0 : Int), (0 : Int), [], (0 : Int), (0 : Int), (0 : Int), (0 : Int), (0 : Int), (0 : Int), [])) (either (fun y479 : U8 => (Option.bind (graph_Value n_ in_) (fun y481 : (I4 × Int) => (Option.bind (some (kern_Row_r13_p n_ y479 y481)) (fun y506 : U26 => (Option.bind (iterN (kern_Row_l16_p r_ y481 y506) LL ([], (0 : Int))) (fun y1294 : ((List Int) × Int) => (some (y1294.1, (0 : Int)))))))))) (fun y480 : Unit => (some ([], (1 : Int)))))))))
theorem kern_Row_is : stepO E cp62 ce4 32 [rA tsNode n_, rl tsI4 in_, rA tsA6 w_, ri r_] = Option.bind (kern_Row n_ in_ w_ r_) (fun y : ((List Int) × Int) => some (.tup [.one (.ow (.one (.int .i8)) y.1 (.s 0)), ri y.2] : R)) := by
  refine .trans ?_ (bind_b fun y357 => (bif_b some_b (bind_b (either_b (fun y479 => (bind_b fun y481 => (bind_b fun y506 => (bind_b fun y1294 => some_b)))) (fun y480 => some_b)))))
  refine (stepG_is (nt := 89) (regs := [(0, rA tsNode n_), (1, rl tsI4 in_), (2, rA tsA6 w_), (3, ri r_)])).trans ?_
  refine (pre2 (kern_Row_r1 n_ in_ w_ r_ _)).trans (bind_g fun y357 => ?_)
  refine .trans seq_push ?_
  refine (pre1 (kern_Row_f1000003 n_ in_ w_ r_ y357 _)).trans ?_
  refine (cond_e (b := (y357.2 != 0)) (st' := (S66_0 n_ in_ w_ r_ y357)) ).trans (bif_g ?_ ?_)
  · refine (pre1 (kern_Row_fz n_ in_ w_ r_ y357 _)).trans ?_
    refine (ret_eq).trans ?_
    refine seqC_ret.trans ?_
    kernel_rfl
  · refine (skip_eq).trans ?_
    refine (seqC_normal (st' := (S66_1 n_ in_ w_ r_ y357))).trans ?_
    refine (pre1 (kern_Row_f5 n_ in_ w_ r_ y357 _)).trans ?_
    refine .trans seq_push ?_
    refine (pre1 (kern_Row_f6 n_ in_ w_ r_ y357 _)).trans ?_
    refine (block_push (id := 0)).trans ?_
    refine (kern_Row_l6 n_ in_ w_ r_ y357 _).trans (bind_g (either_g (fun y479 => ?_) (fun y480 => ?_)))
    · refine block_same.trans ?_
      refine (seqC_normal (st' := (S66_9 n_ in_ r_ y357 y479))).trans ?_
      refine (pre1 (kern_Row_r12 n_ in_ r_ y357 y479 _)).trans (bind_g fun y481 => ?_)
      refine (pre1 (kern_Row_r13 n_ r_ y357 y479 y481 _)).trans (bind_g fun y506 => ?_)
      refine (pre1 (kern_Row_f15 r_ y357 y481 y506 _)).trans ?_
      refine .trans seq_push ?_
      refine (pre1 (kern_Row_f16 r_ y357 y481 y506 _)).trans ?_
      refine (block_push (id := 2)).trans ?_
      refine (kern_Row_l16 r_ y357 y481 y506 _).trans (bind_g fun y1294 => ?_)
      refine block_same.trans ?_
      refine (seqC_normal (st' := (S66_22 y357 y481 y1294)) (hs := by (rcases y506 with (_ | _ | _ | _ | _ | _ | _ | _ | _) <;> kernel_rfl))).trans ?_
      refine (pre1 (kern_Row_fzx5 y357 y481 y1294 _)).trans ?_
      refine (ret_eq).trans ?_
      (rcases y506 with (_ | _ | _ | _ | _ | _ | _ | _ | _) <;> kernel_rfl)
    · refine block_ret.trans ?_
      refine seqC_ret.trans ?_
      kernel_rfl
noncomputable def cp63 : CallP := withC cp62 32 [(.agg tsNode), (pL tsI4), (.agg tsA6), pI] (.tup [(.one (.ow (.one (.int .i8)))), pI]) (fun y : ((List Int) × Int) => (y.1, y.2, ())) (fun x => kern_Row x.1 x.2.1 x.2.2.1 x.2.2.2.1)
theorem cp63_ok : PureOK E cp63 := conO eok cp62_ok ce4_ok fun x => Eq.mp (by kernel_rfl) (kern_Row_is x.1 x.2.1 x.2.2.1 x.2.2.2.1)
end
section
variable {α : Type} (n_ : Node) (in_ : (List I4)) (data : A4) (y247 : (I4 × Int)) (s264 : U0) (y266 : (Int × (List Int) × Int × (List Int))) (y267 : U0) (s1311 : ((List Int) × Int)) (y1314 : ((List Int) × Int)) (y1316 : ((List Int) × Int)) (k : St → Option α) (q : Kont α)
noncomputable abbrev C67 := codeOf E.P 19
noncomputable abbrev P67 := @preK α E 19 cp63 ce4
noncomputable abbrev R67 := @runCode α E 19 cp63 ce4
abbrev S67_0 : St := ⟨[(1, rl tsI4 in_), (3, rC tsNode n_), (5, rC tsA4 data), (8, rF 0), (9, ri y247.2)], [(tsI4.leaves y247.1)], [], 65⟩
theorem kern_All_r1 : P67 2 C67 ⟨[(0, rA tsNode n_), (1, rl tsI4 in_), (2, rA tsA4 data)], [], [], 65⟩ k = Option.bind (graph_Value n_ in_) fun y247 : (I4 × Int) => k (S67_0 n_ in_ data y247) := by kernel_rfl
theorem kern_All_f1000003 : P67 1 C67.r.r.l (S67_0 n_ in_ data y247) k = k ⟨[(1, rl tsI4 in_), (3, rC tsNode n_), (5, rC tsA4 data), (8, rF 0), (9, ri y247.2), (23, rb (y247.2 != 0))], [(tsI4.leaves y247.1)], [], 65⟩ := by kernel_rfl
theorem kern_All_fz : P67 1 C67.r.r.l.r.t (S67_0 n_ in_ data y247) k = k ⟨[(6, .one (.ow (.one (.int .i8)) [] (.v 6))), (7, ri y247.2)], [[]], [], 65⟩ := by kernel_rfl
abbrev S67_1 : St := ⟨[(1, rl tsI4 in_), (3, rC tsNode n_), (5, rC tsA4 data), (8, rF 0)], [(tsI4.leaves y247.1)], [], 65⟩
abbrev S67_2 : St := ⟨[(1, rl tsI4 in_), (3, rC tsNode n_), (5, rC tsA4 data), (8, rF 0), (10, rF 1)], [(tsI4.leaves y247.1), [di 0, di 0, dl (.one (.int .i8)) [], di 0, di 0, dl (.one (.int .i8)) []]], [], 65⟩
theorem kern_All_f5 : P67 1 C67.r.r.r (S67_1 n_ in_ data y247) k = k (S67_2 n_ in_ data y247) := by kernel_rfl
abbrev S67_3 : St := ⟨[(1, rl tsI4 in_), (3, rC tsNode n_), (5, rC tsA4 data), (8, rF 0), (10, rF 1), (26, ri (in_.length : Int)), (27, ri 0)], [(tsI4.leaves y247.1), [di 0, di 0, dl (.one (.int .i8)) [], di 0, di 0, dl (.one (.int .i8)) []]], [], 65⟩
theorem kern_All_f6 : P67 1 C67.r.r.r.r.l (S67_2 n_ in_ data y247) k = k (S67_3 n_ in_ data y247) := by kernel_rfl
abbrev S67_4 : St := ⟨[(1, rl tsI4 in_), (3, rC tsNode n_), (5, rC tsA4 data), (8, rF 0), (10, rF 1), (26, ri (in_.length : Int)), (27, ri s264.1)], [(tsI4.leaves y247.1), [di 0, di s264.2.1, dl (.one (.int .i8)) s264.2.2.1, di 0, di s264.2.2.2.1, dl (.one (.int .i8)) s264.2.2.2.2]], [], 65⟩
theorem kern_All_fzx1 : P67 1 C67.r.r.r.r.l.r.b.b (S67_4 n_ in_ data y247 s264) k = k ⟨[(1, rl tsI4 in_), (3, rC tsNode n_), (5, rC tsA4 data), (8, rF 0), (10, rF 1), (26, ri (in_.length : Int)), (27, ri s264.1), (28, rb (decide (s264.1 < (in_.length : Int))))], [(tsI4.leaves y247.1), [di 0, di s264.2.1, dl (.one (.int .i8)) s264.2.2.1, di 0, di s264.2.2.2.1, dl (.one (.int .i8)) s264.2.2.2.2]], [], 65⟩ := by kernel_rfl
abbrev S67_5 : St := ⟨[(1, rl tsI4 in_), (3, rC tsNode n_), (5, rC tsA4 data), (8, rF 0), (10, rF 1), (11, ri s264.1), (26, ri (in_.length : Int)), (27, ri s264.1)], [(tsI4.leaves y247.1), [di 0, di s264.2.1, dl (.one (.int .i8)) s264.2.2.1, di 0, di s264.2.2.2.1, dl (.one (.int .i8)) s264.2.2.2.2]], [], 65⟩
theorem kern_All_f8 : P67 1 C67.r.r.r.r.l.r.b.b.r.r.l.b (S67_4 n_ in_ data y247 s264) k = k (S67_5 n_ in_ data y247 s264) := by kernel_rfl
def kern_All_r8_p : Option (Int × (List Int) × Int × (List Int)) := (bif (decide ((0 : Int) ≤ s264.1)) then (bif (decide (s264.1 < (in_.length : Int))) then (bif (s264.1 == 0) then (bif (s264.1 == 0) then (some ((gt in_ s264.1 dI4).1, data.1, s264.2.2.2.1, s264.2.2.2.2)) else (bif (s264.1 == 1) then (some (s264.2.1, s264.2.2.1, (gt in_ s264.1 dI4).1, data.1)) else none)) else (bif (s264.1 == 1) then (bif (s264.1 == 0) then (some ((gt in_ s264.1 dI4).1, data.2, s264.2.2.2.1, s264.2.2.2.2)) else (bif (s264.1 == 1) then (some (s264.2.1, s264.2.2.1, (gt in_ s264.1 dI4).1, data.2)) else none)) else none)) else none) else none)
abbrev S67_6 : St := ⟨[(1, rl tsI4 in_), (3, rC tsNode n_), (5, rC tsA4 data), (8, rF 0), (10, rF 1), (26, ri (in_.length : Int)), (27, ri s264.1)], [(tsI4.leaves y247.1), [di 0, di y266.1, dl (.one (.int .i8)) y266.2.1, di 0, di y266.2.2.1, dl (.one (.int .i8)) y266.2.2.2]], [], 65⟩
theorem kern_All_r8 : R67 C67.r.r.r.r.l.r.b.b.r.r.l.b.r (S67_5 n_ in_ data y247 s264) q = Option.bind (kern_All_r8_p in_ data s264) (fun y266 : (Int × (List Int) × Int × (List Int)) => q .normal (S67_6 n_ in_ data y247 s264 y266)) := .trans (by kernel_rfl) (bif_b (bif_b (bif_b (bif_b some_b (bif_b some_b none_b)) (bif_b (bif_b some_b (bif_b some_b none_b)) none_b)) none_b) none_b)
theorem kern_All_r9 : R67 C67.r.r.r.r.l.r.b.b.r.r.r (S67_6 n_ in_ data y247 s264 y266) q = q .normal ⟨[(1, rl tsI4 in_), (3, rC tsNode n_), (5, rC tsA4 data), (8, rF 0), (10, rF 1), (26, ri (in_.length : Int)), (27, ri (IntKind.wrap .i64 (s264.1 + 1)))], [(tsI4.leaves y247.1), [di 0, di y266.1, dl (.one (.int .i8)) y266.2.1, di 0, di y266.2.2.1, dl (.one (.int .i8)) y266.2.2.2]], [], 65⟩ := by kernel_rfl
def kern_All_l6_p : Option (U0 ⊕ U0) := (bif (decide (s264.1 < (in_.length : Int))) then (Option.bind (kern_All_r8_p in_ data s264) (fun y266 : (Int × (List Int) × Int × (List Int)) => (some (Sum.inl ((IntKind.wrap .i64 (s264.1 + 1)), y266.1, y266.2.1, y266.2.2.1, y266.2.2.2))))) else (some (Sum.inr s264)))
abbrev S67_7 : St := ⟨[(1, rl tsI4 in_), (3, rC tsNode n_), (5, rC tsA4 data), (8, rF 0), (10, rF 1), (26, ri (in_.length : Int)), (27, ri y267.1)], [(tsI4.leaves y247.1), [di 0, di y267.2.1, dl (.one (.int .i8)) y267.2.2.1, di 0, di y267.2.2.2.1, dl (.one (.int .i8)) y267.2.2.2.2]], [], 65⟩
theorem kern_All_l6_b : R67 C67.r.r.r.r.l.r.b.b (S67_4 n_ in_ data y247 s264) (loopKont 2 q) = Option.bind (kern_All_l6_p in_ data s264) (either (fun y : U0 => q .normal ⟨[(1, rl tsI4 in_), (3, rC tsNode n_), (5, rC tsA4 data), (8, rF 0), (10, rF 1), (26, ri (in_.length : Int)), (27, ri y.1)], [(tsI4.leaves y247.1), [di 0, di y.2.1, dl (.one (.int .i8)) y.2.2.1, di 0, di y.2.2.2.1, dl (.one (.int .i8)) y.2.2.2.2]], [], 65⟩) (fun y267 : U0 => q (.exit 0) (S67_7 n_ in_ data y247 y267))) := by
  refine .trans ?_ (bif_b (bind_b fun y266 => e2_0) e2_1)
  refine (pre1 (kern_All_fzx1 n_ in_ data y247 s264 _)).trans ?_
  refine .trans seq_push ?_
  refine (cond_e (b := (decide (s264.1 < (in_.length : Int)))) (st' := (S67_4 n_ in_ data y247 s264)) ).trans (bif_g ?_ ?_)
  · refine (skip_eq).trans ?_
    refine (seqC_normal (st' := (S67_4 n_ in_ data y247 s264))).trans ?_
    refine .trans seq_push ?_
    refine (block_push (id := 1)).trans ?_
    refine (pre1 (kern_All_f8 n_ in_ data y247 s264 _)).trans ?_
    refine (kern_All_r8 n_ in_ data y247 s264 _).trans (bind_g fun y266 => ?_)
    refine block_normal.trans ?_
    refine (seqC_normal (st' := (S67_6 n_ in_ data y247 s264 y266))).trans ?_
    refine (kern_All_r9 n_ in_ data y247 s264 y266 _).trans ?_
    kernel_rfl
  · refine ((exit_eq (j := 0))).trans ?_
    refine seqC_exit.trans ?_
    kernel_rfl
theorem kern_All_l6 : R67 C67.r.r.r.r.l.r.b (S67_3 n_ in_ data y247) q = Option.bind (iterN (kern_All_l6_p in_ data) LL ((0 : Int), (0 : Int), [], (0 : Int), [])) (fun y267 : U0 => q (.exit 0) (S67_7 n_ in_ data y247 y267)) :=
  Eq.trans (by kernel_rfl) (loop_iter1 (S := fun s264 : U0 => (S67_4 n_ in_ data y247 s264)) (Y1 := fun y267 : U0 => ((.exit 0), (S67_7 n_ in_ data y247 y267))) (fun s q => kern_All_l6_b n_ in_ data y247 s q) (fun z => rfl) LL ((0 : Int), (0 : Int), [], (0 : Int), []))
abbrev S67_8 : St := ⟨[(1, rl tsI4 in_), (3, rC tsNode n_), (8, rF 0), (10, rF 1)], [(tsI4.leaves y247.1), [di 0, di y267.2.1, dl (.one (.int .i8)) y267.2.2.1, di 0, di y267.2.2.2.1, dl (.one (.int .i8)) y267.2.2.2.2]], [], 65⟩
abbrev S67_9 : St := ⟨[(1, rl tsI4 in_), (3, rC tsNode n_), (8, rF 0), (10, rF 1), (12, .one (.ow (.one (.int .i8)) [] (.v 12)))], [(tsI4.leaves y247.1), [di 0, di y267.2.1, dl (.one (.int .i8)) y267.2.2.1, di 0, di y267.2.2.2.1, dl (.one (.int .i8)) y267.2.2.2.2]], [], 65⟩
theorem kern_All_f11 : P67 1 C67.r.r.r.r.r (S67_8 n_ in_ y247 y267) k = k (S67_9 n_ in_ y247 y267) := by kernel_rfl
abbrev S67_10 : St := ⟨[(1, rl tsI4 in_), (3, rC tsNode n_), (10, rF 1), (12, .one (.ow (.one (.int .i8)) [] (.v 12))), (45, ri y247.1.1), (46, ri 0)], [[], [di 0, di y267.2.1, dl (.one (.int .i8)) y267.2.2.1, di 0, di y267.2.2.2.1, dl (.one (.int .i8)) y267.2.2.2.2]], [], 65⟩
theorem kern_All_f12 : P67 1 C67.r.r.r.r.r.r.l (S67_9 n_ in_ y247 y267) k = k (S67_10 n_ in_ y247 y267) := by kernel_rfl
abbrev S67_11 : St := ⟨[(1, rl tsI4 in_), (3, rC tsNode n_), (10, rF 1), (12, .one (.ow (.one (.int .i8)) s1311.1 (.v 12))), (45, ri y247.1.1), (46, ri s1311.2)], [[], [di 0, di y267.2.1, dl (.one (.int .i8)) y267.2.2.1, di 0, di y267.2.2.2.1, dl (.one (.int .i8)) y267.2.2.2.2]], [], 65⟩
theorem kern_All_fzx2 : P67 1 C67.r.r.r.r.r.r.l.r.b.b (S67_11 n_ in_ y247 y267 s1311) k = k ⟨[(1, rl tsI4 in_), (3, rC tsNode n_), (10, rF 1), (12, .one (.ow (.one (.int .i8)) s1311.1 (.v 12))), (45, ri y247.1.1), (46, ri s1311.2), (47, rb (decide (s1311.2 < y247.1.1)))], [[], [di 0, di y267.2.1, dl (.one (.int .i8)) y267.2.2.1, di 0, di y267.2.2.2.1, dl (.one (.int .i8)) y267.2.2.2.2]], [], 65⟩ := by kernel_rfl
abbrev S67_12 : St := ⟨[(1, rl tsI4 in_), (3, rC tsNode n_), (10, rF 1), (12, .one (.ow (.one (.int .i8)) s1311.1 (.v 12))), (14, .one (.ow (.one (.int .i8)) y1314.1 (.v 14))), (15, ri y1314.2), (45, ri y247.1.1), (46, ri s1311.2)], [[], [di 0, di y267.2.1, dl (.one (.int .i8)) y267.2.2.1, di 0, di y267.2.2.2.1, dl (.one (.int .i8)) y267.2.2.2.2]], [], 65⟩
theorem kern_All_r14 : P67 2 C67.r.r.r.r.r.r.l.r.b.b.r.r.l.b (S67_11 n_ in_ y247 y267 s1311) k = Option.bind (kern_Row n_ in_ ((0 : Int), y267.2.1, y267.2.2.1, (0 : Int), y267.2.2.2.1, y267.2.2.2.2) s1311.2) fun y1314 : ((List Int) × Int) => k (S67_12 n_ in_ y247 y267 s1311 y1314) := by kernel_rfl
theorem kern_All_f1000016 : P67 1 C67.r.r.r.r.r.r.l.r.b.b.r.r.l.b.r.r.l (S67_12 n_ in_ y247 y267 s1311 y1314) k = k ⟨[(1, rl tsI4 in_), (3, rC tsNode n_), (10, rF 1), (12, .one (.ow (.one (.int .i8)) s1311.1 (.v 12))), (14, .one (.ow (.one (.int .i8)) y1314.1 (.v 14))), (15, ri y1314.2), (45, ri y247.1.1), (46, ri s1311.2), (58, rb (y1314.2 != 0))], [[], [di 0, di y267.2.1, dl (.one (.int .i8)) y267.2.2.1, di 0, di y267.2.2.2.1, dl (.one (.int .i8)) y267.2.2.2.2]], [], 65⟩ := by kernel_rfl
theorem kern_All_fzx3 : P67 1 C67.r.r.r.r.r.r.l.r.b.b.r.r.l.b.r.r.l.r.t (S67_12 n_ in_ y247 y267 s1311 y1314) k = k ⟨[(6, .one (.ow (.one (.int .i8)) [] (.v 6))), (7, ri y1314.2)], [[], []], [], 65⟩ := by kernel_rfl
def kern_All_r17_p : Option Unit := (bif (decide (s1311.1.length + y1314.1.length ≤ maxL)) then (some ()) else none)
abbrev S67_13 : St := ⟨[(1, rl tsI4 in_), (3, rC tsNode n_), (10, rF 1), (12, .one (.ow (.one (.int .i8)) s1311.1 (.v 12))), (14, .one (.ow (.one (.int .i8)) y1314.1 (.v 14))), (45, ri y247.1.1), (46, ri s1311.2)], [[], [di 0, di y267.2.1, dl (.one (.int .i8)) y267.2.2.1, di 0, di y267.2.2.2.1, dl (.one (.int .i8)) y267.2.2.2.2]], [], 65⟩
abbrev S67_14 : St := ⟨[(1, rl tsI4 in_), (3, rC tsNode n_), (10, rF 1), (12, .one (.ow (.one (.int .i8)) (s1311.1 ++ y1314.1) (.v 12))), (45, ri y247.1.1), (46, ri s1311.2)], [[], [di 0, di y267.2.1, dl (.one (.int .i8)) y267.2.2.1, di 0, di y267.2.2.2.1, dl (.one (.int .i8)) y267.2.2.2.2]], [], 65⟩
theorem kern_All_r17 : R67 C67.r.r.r.r.r.r.l.r.b.b.r.r.l.b.r.r.r (S67_13 n_ in_ y247 y267 s1311 y1314) q = Option.bind (kern_All_r17_p s1311 y1314) (fun y1315 : Unit => q .normal (S67_14 n_ in_ y247 y267 s1311 y1314)) := .trans (by kernel_rfl) (bif_b some_b none_b)
theorem kern_All_r18 : R67 C67.r.r.r.r.r.r.l.r.b.b.r.r.r (S67_14 n_ in_ y247 y267 s1311 y1314) q = q .normal ⟨[(1, rl tsI4 in_), (3, rC tsNode n_), (10, rF 1), (12, .one (.ow (.one (.int .i8)) (s1311.1 ++ y1314.1) (.v 12))), (45, ri y247.1.1), (46, ri (IntKind.wrap .i64 (s1311.2 + 1)))], [[], [di 0, di y267.2.1, dl (.one (.int .i8)) y267.2.2.1, di 0, di y267.2.2.2.1, dl (.one (.int .i8)) y267.2.2.2.2]], [], 65⟩ := by kernel_rfl
def kern_All_l12_p : Option (((List Int) × Int) ⊕ (((List Int) × Int) ⊕ Int)) := (bif (decide (s1311.2 < y247.1.1)) then (Option.bind (kern_Row n_ in_ ((0 : Int), y267.2.1, y267.2.2.1, (0 : Int), y267.2.2.2.1, y267.2.2.2.2) s1311.2) (fun y1314 : ((List Int) × Int) => (bif (y1314.2 != 0) then (some (Sum.inr (Sum.inr y1314.2))) else (Option.bind (kern_All_r17_p s1311 y1314) (fun y1315 : Unit => (some (Sum.inl ((s1311.1 ++ y1314.1), (IntKind.wrap .i64 (s1311.2 + 1)))))))))) else (some (Sum.inr (Sum.inl s1311))))
abbrev S67_15 : St := ⟨[(1, rl tsI4 in_), (3, rC tsNode n_), (10, rF 1), (12, .one (.ow (.one (.int .i8)) y1316.1 (.v 12))), (45, ri y247.1.1), (46, ri y1316.2)], [[], [di 0, di y267.2.1, dl (.one (.int .i8)) y267.2.2.1, di 0, di y267.2.2.2.1, dl (.one (.int .i8)) y267.2.2.2.2]], [], 65⟩
abbrev S67_16 (y1317 : Int) : St := ⟨[(6, .one (.ow (.one (.int .i8)) [] (.v 6))), (7, ri y1317)], [[], []], [], 65⟩
theorem kern_All_l12_b : R67 C67.r.r.r.r.r.r.l.r.b.b (S67_11 n_ in_ y247 y267 s1311) (loopKont 2 q) = Option.bind (kern_All_l12_p n_ in_ y247 y267 s1311) (either (fun y : ((List Int) × Int) => q .normal ⟨[(1, rl tsI4 in_), (3, rC tsNode n_), (10, rF 1), (12, .one (.ow (.one (.int .i8)) y.1 (.v 12))), (45, ri y247.1.1), (46, ri y.2)], [[], [di 0, di y267.2.1, dl (.one (.int .i8)) y267.2.2.1, di 0, di y267.2.2.2.1, dl (.one (.int .i8)) y267.2.2.2.2]], [], 65⟩) (either (fun y1316 : ((List Int) × Int) => q (.exit 2) (S67_15 n_ in_ y247 y267 y1316)) (fun y1317 : Int => q .ret (S67_16 y1317)))) := by
  refine .trans ?_ (bif_b (bind_b fun y1314 => (bif_b e3_2 (bind_b fun y1315 => e3_0))) e3_1)
  refine (pre1 (kern_All_fzx2 n_ in_ y247 y267 s1311 _)).trans ?_
  refine .trans seq_push ?_
  refine (cond_e (b := (decide (s1311.2 < y247.1.1))) (st' := (S67_11 n_ in_ y247 y267 s1311)) ).trans (bif_g ?_ ?_)
  · refine (skip_eq).trans ?_
    refine (seqC_normal (st' := (S67_11 n_ in_ y247 y267 s1311))).trans ?_
    refine .trans seq_push ?_
    refine (block_push (id := 3)).trans ?_
    refine (pre2 (kern_All_r14 n_ in_ y247 y267 s1311 _)).trans (bind_g fun y1314 => ?_)
    refine .trans seq_push ?_
    refine (pre1 (kern_All_f1000016 n_ in_ y247 y267 s1311 y1314 _)).trans ?_
    refine (cond_e (b := (y1314.2 != 0)) (st' := (S67_12 n_ in_ y247 y267 s1311 y1314)) ).trans (bif_g ?_ ?_)
    · refine (pre1 (kern_All_fzx3 n_ in_ y247 y267 s1311 y1314 _)).trans ?_
      refine (ret_eq).trans ?_
      refine seqC_ret.trans ?_
      refine block_ret.trans ?_
      refine seqC_ret.trans ?_
      kernel_rfl
    · refine (skip_eq).trans ?_
      refine (seqC_normal (st' := (S67_13 n_ in_ y247 y267 s1311 y1314))).trans ?_
      refine (kern_All_r17 n_ in_ y247 y267 s1311 y1314 _).trans (bind_g fun y1315 => ?_)
      refine block_normal.trans ?_
      refine (seqC_normal (st' := (S67_14 n_ in_ y247 y267 s1311 y1314))).trans ?_
      refine (kern_All_r18 n_ in_ y247 y267 s1311 y1314 _).trans ?_
      kernel_rfl
  · refine ((exit_eq (j := 2))).trans ?_
    refine seqC_exit.trans ?_
    kernel_rfl
theorem kern_All_l12 : R67 C67.r.r.r.r.r.r.l.r.b (S67_10 n_ in_ y247 y267) q = Option.bind (iterN (kern_All_l12_p n_ in_ y247 y267) LL ([], (0 : Int))) (either (fun y1316 : ((List Int) × Int) => q (.exit 2) (S67_15 n_ in_ y247 y267 y1316)) (fun y1317 : Int => q .ret (S67_16 y1317))) :=
  Eq.trans (by kernel_rfl) (loop_iter2 (S := fun s1311 : ((List Int) × Int) => (S67_11 n_ in_ y247 y267 s1311)) (Y1 := fun y1316 : ((List Int) × Int) => ((.exit 2), (S67_15 n_ in_ y247 y267 y1316))) (Y2 := fun y1317 : Int => (.ret, (S67_16 y1317))) (fun s q => kern_All_l12_b n_ in_ y247 y267 s q) (fun z => rfl) (fun z => rfl) LL ([], (0 : Int)))
abbrev S67_17 : St := ⟨[(12, .one (.ow (.one (.int .i8)) y1316.1 (.v 12)))], [[], [di 0, di y267.2.1, dl (.one (.int .i8)) y267.2.2.1, di 0, di y267.2.2.2.1, dl (.one (.int .i8)) y267.2.2.2.2]], [], 65⟩
theorem kern_All_fzx4 : P67 1 C67.r.r.r.r.r.r.r (S67_17 y267 y1316) k = k ⟨[(6, .one (.ow (.one (.int .i8)) y1316.1 (.v 12))), (7, ri 0)], [[], [di 0, di y267.2.1, dl (.one (.int .i8)) y267.2.2.1, di 0, di y267.2.2.2.1, dl (.one (.int .i8)) y267.2.2.2.2]], [], 65⟩ := by kernel_rfl
/-- quilt/kern.All -/
def kern_All : Option ((List Int) × Int) := (Option.bind (graph_Value n_ in_) (fun y247 : (I4 × Int) => (bif (y247.2 != 0) then (some ([], y247.2)) else (Option.bind (iterN (kern_All_l6_p in_ data) LL ((0 : Int), (0 : Int), [], (0 : Int), [])) (fun y267 : U0 => (Option.bind (iterN (kern_All_l12_p n_ in_ y247 y267) LL ([], (0 : Int))) (either (fun y1316 : ((List Int) × Int) => (some (y1316.1, (0 : Int)))) (fun y1317 : Int => (some ([], y1317))))))))))
theorem kern_All_is : stepO E cp63 ce4 19 [rA tsNode n_, rl tsI4 in_, rA tsA4 data] = Option.bind (kern_All n_ in_ data) (fun y : ((List Int) × Int) => some (.tup [.one (.ow (.one (.int .i8)) y.1 (.s 0)), ri y.2] : R)) := by
  refine .trans ?_ (bind_b fun y247 => (bif_b some_b (bind_b fun y267 => (bind_b (either_b (fun y1316 => some_b) (fun y1317 => some_b))))))
  refine (stepG_is (nt := 65) (regs := [(0, rA tsNode n_), (1, rl tsI4 in_), (2, rA tsA4 data)])).trans ?_
  refine (pre2 (kern_All_r1 n_ in_ data _)).trans (bind_g fun y247 => ?_)
  refine .trans seq_push ?_
  refine (pre1 (kern_All_f1000003 n_ in_ data y247 _)).trans ?_
  refine (cond_e (b := (y247.2 != 0)) (st' := (S67_0 n_ in_ data y247)) ).trans (bif_g ?_ ?_)
  · refine (pre1 (kern_All_fz n_ in_ data y247 _)).trans ?_
    refine (ret_eq).trans ?_
    refine seqC_ret.trans ?_
    kernel_rfl
  · refine (skip_eq).trans ?_
    refine (seqC_normal (st' := (S67_1 n_ in_ data y247))).trans ?_
    refine (pre1 (kern_All_f5 n_ in_ data y247 _)).trans ?_
    refine .trans seq_push ?_
    refine (pre1 (kern_All_f6 n_ in_ data y247 _)).trans ?_
    refine (block_push (id := 0)).trans ?_
    refine (kern_All_l6 n_ in_ data y247 _).trans (bind_g fun y267 => ?_)
    refine block_same.trans ?_
    refine (seqC_normal (st' := (S67_8 n_ in_ y247 y267))).trans ?_
    refine (pre1 (kern_All_f11 n_ in_ y247 y267 _)).trans ?_
    refine .trans seq_push ?_
    refine (pre1 (kern_All_f12 n_ in_ y247 y267 _)).trans ?_
    refine (block_push (id := 2)).trans ?_
    refine (kern_All_l12 n_ in_ y247 y267 _).trans (bind_g (either_g (fun y1316 => ?_) (fun y1317 => ?_)))
    · refine block_same.trans ?_
      refine (seqC_normal (st' := (S67_17 y267 y1316))).trans ?_
      refine (pre1 (kern_All_fzx4 y267 y1316 _)).trans ?_
      refine (ret_eq).trans ?_
      kernel_rfl
    · refine block_ret.trans ?_
      refine seqC_ret.trans ?_
      kernel_rfl
noncomputable def cp64 : CallP := withC cp63 19 [(.agg tsNode), (pL tsI4), (.agg tsA4)] (.tup [(.one (.ow (.one (.int .i8)))), pI]) (fun y : ((List Int) × Int) => (y.1, y.2, ())) (fun x => kern_All x.1 x.2.1 x.2.2.1)
theorem cp64_ok : PureOK E cp64 := conO eok cp63_ok ce4_ok fun x => Eq.mp (by kernel_rfl) (kern_All_is x.1 x.2.1 x.2.2.1)
end
noncomputable abbrev C68 := codeOf E.P 12
noncomputable abbrev P68 {α : Type} := @preK α E 12 cp64 ce4
abbrev S68_0 (y1318 : ((List Int) × Int)) : St := ⟨[(2, .one (.ow (.one (.int .i8)) y1318.1 (.v 2))), (3, ri y1318.2)], [[]], [], 34⟩
theorem law05_shown_r2 {α : Type} (k : St → Option α) : P68 3 C68 ⟨[], [], [], 34⟩ k = Option.bind (kern_All ((8 : Int), [], (0 : Int), (0 : Int), (0 : Int), (0 : Int), (1 : Int), (0 : Int), (0 : Int), (0 : Int), (0 : Int), (0 : Int), [], []) [((1 : Int), (2 : Int), (1 : Int), (0 : Int))] ([(-1 : Int), (2 : Int)], [])) fun y1318 : ((List Int) × Int) => k (S68_0 y1318) := by kernel_rfl
def law05_shown_r3_p (y1318 : ((List Int) × Int)) : Option Bool := (bif ((y1318.1.length : Int) == 2) then (bif (decide ((0 : Int) < (y1318.1.length : Int))) then (bif ((gt y1318.1 (0 : Int) (0 : Int)) == 0) then (bif (decide ((1 : Int) < (y1318.1.length : Int))) then (bif ((gt y1318.1 (1 : Int) (0 : Int)) == 2) then (some (y1318.2 == 0)) else (some false)) else none) else (some false)) else none) else (some false))
theorem law05_shown_r3 {α : Type} (y1318 : ((List Int) × Int)) (k : St → Option α) : P68 1 C68.r.r.r (S68_0 y1318) k = Option.bind (law05_shown_r3_p y1318) (fun y1319 : Bool => k ⟨[(0, rb y1319)], [[]], [], 34⟩) := .trans (by kernel_rfl) (bif_b (bif_b (bif_b (bif_b (bif_b some_b some_b) none_b) some_b) none_b) some_b)
/-- quilt/quiltlaw05.shown -/
def law05_shown : Option Bool := (Option.bind (kern_All ((8 : Int), [], (0 : Int), (0 : Int), (0 : Int), (0 : Int), (1 : Int), (0 : Int), (0 : Int), (0 : Int), (0 : Int), (0 : Int), [], []) [((1 : Int), (2 : Int), (1 : Int), (0 : Int))] ([(-1 : Int), (2 : Int)], [])) (fun y1318 : ((List Int) × Int) => (Option.bind (law05_shown_r3_p y1318) (fun y1319 : Bool => (some y1319)))))
theorem law05_shown_is : stepS E cp64 ce4 12 [] = Option.bind (law05_shown) (fun y : Bool => some (rb y : R)) := by
  refine .trans ?_ (bind_b fun y1318 => (bind_b fun y1319 => some_b))
  refine (stepG_is (nt := 34) (regs := [])).trans ?_
  refine (pre3 (law05_shown_r2 _)).trans (bind_g fun y1318 => ?_)
  refine (pre1 (law05_shown_r3 y1318 _)).trans (bind_g fun y1319 => ?_)
  refine (ret_eq).trans ?_
  kernel_rfl
noncomputable def cp65 : CallP := withC cp64 12 [] (.one pB) (fun y : Bool => y) (fun x => law05_shown)
theorem cp65_ok : PureOK E cp65 := conS eok cp64_ok ce4_ok fun x => Eq.mp (by kernel_rfl) (law05_shown_is)
noncomputable abbrev C69 := codeOf E.P 15
noncomputable abbrev P69 {α : Type} := @preK α E 15 cp65 ce4
abbrev S69_0 (l_ : (List I4)) : St := ⟨[(0, rl tsI4 l_)], [], [], 9⟩
theorem law05_some_f1 {α : Type} (l_ : (List I4)) (k : St → Option α) : P69 1 C69 (S69_0 l_) k = k (S69_0 l_) := by kernel_rfl
theorem law05_some_f1000002 {α : Type} (l_ : (List I4)) (k : St → Option α) : P69 1 C69.r.l (S69_0 l_) k = k ⟨[(0, rl tsI4 l_), (5, rb (decide ((l_.length : Int) > 3)))], [], [], 9⟩ := by kernel_rfl
def law05_some_r2_p (l_ : (List I4)) : Option Unit := (bif (decide ((3 : Int) ≤ (l_.length : Int))) then (some ()) else none)
theorem law05_some_r2 {α : Type} (l_ : (List I4)) (k : St → Option α) : P69 1 C69.r.l.r.t (S69_0 l_) k = Option.bind (law05_some_r2_p l_) (fun y1322 : Unit => k ⟨[(2, rl tsI4 ((l_.take (Int.toNat (3 : Int))).drop (Int.toNat (0 : Int))))], [], [], 9⟩) := .trans (by kernel_rfl) (bif_b some_b none_b)
theorem law05_some_fz {α : Type} (l_ : (List I4)) (k : St → Option α) : P69 1 C69.r.r (S69_0 l_) k = k ⟨[(2, rl tsI4 l_)], [], [], 9⟩ := by kernel_rfl
/-- quilt/quiltlaw05.some -/
def law05_some (l_ : (List I4)) : Option (List I4) := (bif (decide ((l_.length : Int) > 3)) then (Option.bind (law05_some_r2_p l_) (fun y1322 : Unit => (some ((l_.take (Int.toNat (3 : Int))).drop (Int.toNat (0 : Int)))))) else (some l_))
theorem law05_some_is (l_ : (List I4)) : stepS E cp65 ce4 15 [rl tsI4 l_] = Option.bind (law05_some l_) (fun y : (List I4) => some (rl tsI4 y : R)) := by
  refine .trans ?_ (bif_b (bind_b fun y1322 => some_b) some_b)
  refine (stepG_is (nt := 9) (regs := [(0, rl tsI4 l_)])).trans ?_
  refine (pre1 (law05_some_f1 l_ _)).trans ?_
  refine .trans seq_push ?_
  refine (pre1 (law05_some_f1000002 l_ _)).trans ?_
  refine (cond_e (b := (decide ((l_.length : Int) > 3))) (st' := (S69_0 l_)) ).trans (bif_g ?_ ?_)
  · refine (pre1 (law05_some_r2 l_ _)).trans (bind_g fun y1322 => ?_)
    refine (ret_eq).trans ?_
    refine seqC_ret.trans ?_
    kernel_rfl
  · refine (skip_eq).trans ?_
    refine (seqC_normal (st' := (S69_0 l_))).trans ?_
    refine (pre1 (law05_some_fz l_ _)).trans ?_
    refine (ret_eq).trans ?_
    kernel_rfl
noncomputable def cp66 : CallP := withC cp65 15 [(pL tsI4)] (.one (pL tsI4)) (fun y : (List I4) => y) (fun x => law05_some x.1)
theorem cp66_ok : PureOK E cp66 := conS eok cp65_ok ce4_ok fun x => Eq.mp (by kernel_rfl) (law05_some_is x.1)
end Go.V.P
