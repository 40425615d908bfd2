/- What functions compute. -/
import Derived.Test.YtokpndlkheofjaaKe4
namespace Go.V.P
open Go.RowKit Go.V Go.Proofs
set_option linter.unusedVariables false
set_option maxRecDepth 100000
section
variable {α : Type} (k_ : Int) (do_ : pane) (do_' : Int) (do_'' : Node) (do_''' : Int) (do_'''' : Int) (c2_ : Int) (c3_ : Int) (s650 : (Int × Int × Int)) (s661 : (Int × Int × Int)) (y663 : (Int × Int)) (y664 : (Int × Int × Int)) (k : St → Option α) (q : Kont α)
noncomputable abbrev C63 := codeOf E.P 82
noncomputable abbrev P63 := @preK α E 82 cp60 ce3
noncomputable abbrev R63 := @runCode α E 82 cp60 ce3
abbrev S63_0 : St := ⟨[(0, ri k_), (1, .one (.fn 87 [.cell (tspane.leaves do_), .cell [di do_'], .cell (tsNode.leaves do_''), .cell [di do_'''], .cell [di do_''''], .ref 0 0, .ref 1 0])), (6, ri k_), (7, ri 0)], [[di c2_], [di c3_]], [], 20⟩
theorem kern_slide_s2_f1 : P63 1 C63 ⟨[(0, ri k_), (1, .one (.fn 87 [.cell (tspane.leaves do_), .cell [di do_'], .cell (tsNode.leaves do_''), .cell [di do_'''], .cell [di do_''''], .ref 0 0, .ref 1 0]))], [[di c2_], [di c3_]], [], 20⟩ k = k (S63_0 k_ do_ do_' do_'' do_''' do_'''' c2_ c3_) := by kernel_rfl
abbrev S63_1 : St := ⟨[(0, ri k_), (1, .one (.fn 87 [.cell (tspane.leaves do_), .cell [di do_'], .cell (tsNode.leaves do_''), .cell [di do_'''], .cell [di do_''''], .ref 0 0, .ref 1 0])), (6, ri k_), (7, ri s650.1)], [[di s650.2.1], [di s650.2.2]], [], 20⟩
theorem kern_slide_s2_fz : P63 1 C63.r.b.b (S63_1 k_ do_ do_' do_'' do_''' do_'''' s650) k = k ⟨[(0, ri k_), (1, .one (.fn 87 [.cell (tspane.leaves do_), .cell [di do_'], .cell (tsNode.leaves do_''), .cell [di do_'''], .cell [di do_''''], .ref 0 0, .ref 1 0])), (6, ri k_), (7, ri s650.1), (8, rb (decide (s650.1 < k_)))], [[di s650.2.1], [di s650.2.2]], [], 20⟩ := by kernel_rfl
abbrev S63_2 : St := ⟨[(0, ri k_), (1, .one (.fn 87 [.cell (tspane.leaves do_), .cell [di do_'], .cell (tsNode.leaves do_''), .cell [di do_'''], .cell [di do_''''], .ref 0 0, .ref 1 0])), (4, ri s650.1), (6, ri k_), (7, ri s650.1), (10, ri k_), (11, ri 0)], [[di s650.2.1], [di s650.2.2]], [], 20⟩
theorem kern_slide_s2_f4 : P63 2 C63.r.b.b.r.r.l.b (S63_1 k_ do_ do_' do_'' do_''' do_'''' s650) k = k (S63_2 k_ do_ do_' do_'' do_''' do_'''' s650) := by kernel_rfl
abbrev S63_3 : St := ⟨[(0, ri k_), (1, .one (.fn 87 [.cell (tspane.leaves do_), .cell [di do_'], .cell (tsNode.leaves do_''), .cell [di do_'''], .cell [di do_''''], .ref 0 0, .ref 1 0])), (4, ri s650.1), (6, ri k_), (7, ri s650.1), (10, ri k_), (11, ri s661.1)], [[di s661.2.1], [di s661.2.2]], [], 20⟩
theorem kern_slide_s2_fzx1 : P63 1 C63.r.b.b.r.r.l.b.r.r.b.b (S63_3 k_ do_ do_' do_'' do_''' do_'''' s650 s661) k = k ⟨[(0, ri k_), (1, .one (.fn 87 [.cell (tspane.leaves do_), .cell [di do_'], .cell (tsNode.leaves do_''), .cell [di do_'''], .cell [di do_''''], .ref 0 0, .ref 1 0])), (4, ri s650.1), (6, ri k_), (7, ri s650.1), (10, ri k_), (11, ri s661.1), (12, rb (decide (s661.1 < k_)))], [[di s661.2.1], [di s661.2.2]], [], 20⟩ := by kernel_rfl
abbrev S63_4 : St := ⟨[(0, ri k_), (1, .one (.fn 87 [.cell (tspane.leaves do_), .cell [di do_'], .cell (tsNode.leaves do_''), .cell [di do_'''], .cell [di do_''''], .ref 0 0, .ref 1 0])), (4, ri s650.1), (5, ri s661.1), (6, ri k_), (7, ri s650.1), (10, ri k_), (11, ri s661.1)], [[di s661.2.1], [di s661.2.2]], [], 20⟩
theorem kern_slide_s2_f6 : P63 1 C63.r.b.b.r.r.l.b.r.r.b.b.r.r.l.b (S63_3 k_ do_ do_' do_'' do_''' do_'''' s650 s661) k = k (S63_4 k_ do_ do_' do_'' do_''' do_'''' s650 s661) := by kernel_rfl
abbrev S63_5 : St := ⟨[(0, ri k_), (1, .one (.fn 87 [.cell (tspane.leaves do_), .cell [di do_'], .cell (tsNode.leaves do_''), .cell [di do_'''], .cell [di do_''''], .ref 0 0, .ref 1 0])), (4, ri s650.1), (6, ri k_), (7, ri s650.1), (10, ri k_), (11, ri s661.1)], [[di y663.1], [di y663.2]], [], 20⟩
theorem kern_slide_s2_r6 : R63 C63.r.b.b.r.r.l.b.r.r.b.b.r.r.l.b.r (S63_4 k_ do_ do_' do_'' do_''' do_'''' s650 s661) q = Option.bind (kern_pool_1_1 s650.1 s661.1 do_ do_' do_'' do_''' do_'''' s661.2.1 s661.2.2) fun y663 : (Int × Int) => q .normal (S63_5 k_ do_ do_' do_'' do_''' do_'''' s650 s661 y663) := by kernel_rfl
theorem kern_slide_s2_r7 : R63 C63.r.b.b.r.r.l.b.r.r.b.b.r.r.r (S63_5 k_ do_ do_' do_'' do_''' do_'''' s650 s661 y663) q = q .normal ⟨[(0, ri k_), (1, .one (.fn 87 [.cell (tspane.leaves do_), .cell [di do_'], .cell (tsNode.leaves do_''), .cell [di do_'''], .cell [di do_''''], .ref 0 0, .ref 1 0])), (4, ri s650.1), (6, ri k_), (7, ri s650.1), (10, ri k_), (11, ri (IntKind.wrap .i64 (s661.1 + 1)))], [[di y663.1], [di y663.2]], [], 20⟩ := by kernel_rfl
def kern_slide_s2_l4_p : Option ((Int × Int × Int) ⊕ (Int × Int × Int)) := (bif (decide (s661.1 < k_)) then (Option.bind (kern_pool_1_1 s650.1 s661.1 do_ do_' do_'' do_''' do_'''' s661.2.1 s661.2.2) (fun y663 : (Int × Int) => (some (Sum.inl ((IntKind.wrap .i64 (s661.1 + 1)), y663.1, y663.2))))) else (some (Sum.inr s661)))
abbrev S63_6 : St := ⟨[(0, ri k_), (1, .one (.fn 87 [.cell (tspane.leaves do_), .cell [di do_'], .cell (tsNode.leaves do_''), .cell [di do_'''], .cell [di do_''''], .ref 0 0, .ref 1 0])), (4, ri s650.1), (6, ri k_), (7, ri s650.1), (10, ri k_), (11, ri y664.1)], [[di y664.2.1], [di y664.2.2]], [], 20⟩
theorem kern_slide_s2_l4_b : R63 C63.r.b.b.r.r.l.b.r.r.b.b (S63_3 k_ do_ do_' do_'' do_''' do_'''' s650 s661) (loopKont 2 q) = Option.bind (kern_slide_s2_l4_p k_ do_ do_' do_'' do_''' do_'''' s650 s661) (either (fun y : (Int × Int × Int) => q .normal ⟨[(0, ri k_), (1, .one (.fn 87 [.cell (tspane.leaves do_), .cell [di do_'], .cell (tsNode.leaves do_''), .cell [di do_'''], .cell [di do_''''], .ref 0 0, .ref 1 0])), (4, ri s650.1), (6, ri k_), (7, ri s650.1), (10, ri k_), (11, ri y.1)], [[di y.2.1], [di y.2.2]], [], 20⟩) (fun y664 : (Int × Int × Int) => q (.exit 2) (S63_6 k_ do_ do_' do_'' do_''' do_'''' s650 y664))) := by
  refine .trans ?_ (bif_b (bind_b fun y663 => e2_0) e2_1)
  refine (pre1 (kern_slide_s2_fzx1 k_ do_ do_' do_'' do_''' do_'''' s650 s661 _)).trans ?_
  refine .trans seq_push ?_
  refine (cond_e (b := (decide (s661.1 < k_))) (st' := (S63_3 k_ do_ do_' do_'' do_''' do_'''' s650 s661)) ).trans (bif_g ?_ ?_)
  · refine (skip_eq).trans ?_
    refine (seqC_normal (st' := (S63_3 k_ do_ do_' do_'' do_''' do_'''' s650 s661))).trans ?_
    refine .trans seq_push ?_
    refine (block_push (id := 3)).trans ?_
    refine (pre1 (kern_slide_s2_f6 k_ do_ do_' do_'' do_''' do_'''' s650 s661 _)).trans ?_
    refine (kern_slide_s2_r6 k_ do_ do_' do_'' do_''' do_'''' s650 s661 _).trans (bind_g fun y663 => ?_)
    refine block_normal.trans ?_
    refine (seqC_normal (st' := (S63_5 k_ do_ do_' do_'' do_''' do_'''' s650 s661 y663))).trans ?_
    refine (kern_slide_s2_r7 k_ do_ do_' do_'' do_''' do_'''' s650 s661 y663 _).trans ?_
    kernel_rfl
  · refine ((exit_eq (j := 2))).trans ?_
    refine seqC_exit.trans ?_
    kernel_rfl
theorem kern_slide_s2_l4 : R63 C63.r.b.b.r.r.l.b.r.r.b (S63_2 k_ do_ do_' do_'' do_''' do_'''' s650) q = Option.bind (iterN (kern_slide_s2_l4_p k_ do_ do_' do_'' do_''' do_'''' s650) LL ((0 : Int), s650.2.1, s650.2.2)) (fun y664 : (Int × Int × Int) => q (.exit 2) (S63_6 k_ do_ do_' do_'' do_''' do_'''' s650 y664)) :=
  Eq.trans (by kernel_rfl) (loop_iter1 (S := fun s661 : (Int × Int × Int) => (S63_3 k_ do_ do_' do_'' do_''' do_'''' s650 s661)) (Y1 := fun y664 : (Int × Int × Int) => ((.exit 2), (S63_6 k_ do_ do_' do_'' do_''' do_'''' s650 y664))) (fun s q => kern_slide_s2_l4_b k_ do_ do_' do_'' do_''' do_'''' s650 s q) (fun z => rfl) LL ((0 : Int), s650.2.1, s650.2.2))
abbrev S63_7 : St := ⟨[(0, ri k_), (1, .one (.fn 87 [.cell (tspane.leaves do_), .cell [di do_'], .cell (tsNode.leaves do_''), .cell [di do_'''], .cell [di do_''''], .ref 0 0, .ref 1 0])), (6, ri k_), (7, ri s650.1)], [[di y664.2.1], [di y664.2.2]], [], 20⟩
theorem kern_slide_s2_r8 : R63 C63.r.b.b.r.r.r (S63_7 k_ do_ do_' do_'' do_''' do_'''' s650 y664) q = q .normal ⟨[(0, ri k_), (1, .one (.fn 87 [.cell (tspane.leaves do_), .cell [di do_'], .cell (tsNode.leaves do_''), .cell [di do_'''], .cell [di do_''''], .ref 0 0, .ref 1 0])), (6, ri k_), (7, ri (IntKind.wrap .i64 (s650.1 + 1)))], [[di y664.2.1], [di y664.2.2]], [], 20⟩ := by kernel_rfl
def kern_slide_s2_l1_p : Option ((Int × Int × Int) ⊕ (Int × Int × Int)) := (bif (decide (s650.1 < k_)) then (Option.bind (iterN (kern_slide_s2_l4_p k_ do_ do_' do_'' do_''' do_'''' s650) LL ((0 : Int), s650.2.1, s650.2.2)) (fun y664 : (Int × Int × Int) => (some (Sum.inl ((IntKind.wrap .i64 (s650.1 + 1)), y664.2.1, y664.2.2))))) else (some (Sum.inr s650)))
abbrev S63_8 (y665 : (Int × Int × Int)) : St := ⟨[(0, ri k_), (1, .one (.fn 87 [.cell (tspane.leaves do_), .cell [di do_'], .cell (tsNode.leaves do_''), .cell [di do_'''], .cell [di do_''''], .ref 0 0, .ref 1 0])), (6, ri k_), (7, ri y665.1)], [[di y665.2.1], [di y665.2.2]], [], 20⟩
theorem kern_slide_s2_l1_b : R63 C63.r.b.b (S63_1 k_ do_ do_' do_'' do_''' do_'''' s650) (loopKont 2 q) = Option.bind (kern_slide_s2_l1_p k_ do_ do_' do_'' do_''' do_'''' s650) (either (fun y : (Int × Int × Int) => q .normal ⟨[(0, ri k_), (1, .one (.fn 87 [.cell (tspane.leaves do_), .cell [di do_'], .cell (tsNode.leaves do_''), .cell [di do_'''], .cell [di do_''''], .ref 0 0, .ref 1 0])), (6, ri k_), (7, ri y.1)], [[di y.2.1], [di y.2.2]], [], 20⟩) (fun y665 : (Int × Int × Int) => q (.exit 0) (S63_8 k_ do_ do_' do_'' do_''' do_'''' y665))) := by
  refine .trans ?_ (bif_b (bind_b fun y664 => e2_0) e2_1)
  refine (pre1 (kern_slide_s2_fz k_ do_ do_' do_'' do_''' do_'''' s650 _)).trans ?_
  refine .trans seq_push ?_
  refine (cond_e (b := (decide (s650.1 < k_))) (st' := (S63_1 k_ do_ do_' do_'' do_''' do_'''' s650)) ).trans (bif_g ?_ ?_)
  · refine (skip_eq).trans ?_
    refine (seqC_normal (st' := (S63_1 k_ do_ do_' do_'' do_''' do_'''' s650))).trans ?_
    refine .trans seq_push ?_
    refine (block_push (id := 1)).trans ?_
    refine (pre2 (kern_slide_s2_f4 k_ do_ do_' do_'' do_''' do_'''' s650 _)).trans ?_
    refine (block_push (id := 2)).trans ?_
    refine (kern_slide_s2_l4 k_ do_ do_' do_'' do_''' do_'''' s650 _).trans (bind_g fun y664 => ?_)
    refine block_same.trans ?_
    refine block_normal.trans ?_
    refine (seqC_normal (st' := (S63_7 k_ do_ do_' do_'' do_''' do_'''' s650 y664))).trans ?_
    refine (kern_slide_s2_r8 k_ do_ do_' do_'' do_''' do_'''' s650 y664 _).trans ?_
    kernel_rfl
  · refine ((exit_eq (j := 0))).trans ?_
    refine seqC_exit.trans ?_
    kernel_rfl
theorem kern_slide_s2_l1 : R63 C63.r.b (S63_0 k_ do_ do_' do_'' do_''' do_'''' c2_ c3_) q = Option.bind (iterN (kern_slide_s2_l1_p k_ do_ do_' do_'' do_''' do_'''') LL ((0 : Int), c2_, c3_)) (fun y665 : (Int × Int × Int) => q (.exit 0) (S63_8 k_ do_ do_' do_'' do_''' do_'''' y665)) :=
  Eq.trans (by kernel_rfl) (loop_iter1 (S := fun s650 : (Int × Int × Int) => (S63_1 k_ do_ do_' do_'' do_''' do_'''' s650)) (Y1 := fun y665 : (Int × Int × Int) => ((.exit 0), (S63_8 k_ do_ do_' do_'' do_''' do_'''' y665))) (fun s q => kern_slide_s2_l1_b k_ do_ do_' do_'' do_''' do_'''' s q) (fun z => rfl) LL ((0 : Int), c2_, c3_))
/-- quilt/kern.slide -/
def kern_slide_s2 : Option (Int × Int) := (Option.bind (iterN (kern_slide_s2_l1_p k_ do_ do_' do_'' do_''' do_'''') LL ((0 : Int), c2_, c3_)) (fun y665 : (Int × Int × Int) => (some y665.2)))
theorem kern_slide_s2_is (k : R → Heap → Option α) : callBody E cp60 ce3 α 82 [ri k_, .one (.fn 87 [.cell (tspane.leaves do_), .cell [di do_'], .cell (tsNode.leaves do_''), .cell [di do_'''], .cell [di do_''''], .ref 0 0, .ref 1 0])] [[di c2_], [di c3_]] k = Option.bind (kern_slide_s2 k_ do_ do_' do_'' do_''' do_'''' c2_ c3_) (fun y : (Int × Int) => k (.tup []) [[di y.1], [di y.2]]) := by
  refine .trans ?_ (bind_b fun y665 => some_b)
  refine (body_is (nt := 20) (regs := [(0, ri k_), (1, .one (.fn 87 [.cell (tspane.leaves do_), .cell [di do_'], .cell (tsNode.leaves do_''), .cell [di do_'''], .cell [di do_''''], .ref 0 0, .ref 1 0]))]) (by kernel_rfl) (by kernel_rfl)).trans ?_
  refine (pre1 (kern_slide_s2_f1 k_ do_ do_' do_'' do_''' do_'''' c2_ c3_ _)).trans ?_
  refine (block_push (id := 0)).trans ?_
  refine (kern_slide_s2_l1 k_ do_ do_' do_'' do_''' do_'''' c2_ c3_ _).trans (bind_g fun y665 => ?_)
  refine block_same.trans ?_
  kernel_rfl
noncomputable def ce4 : CallE := withE ce3 82 (decA [pI, (.one (.fn 87 (.cons (.cell (.cons (.g (.int .i64)) (.cons (.g (.int .i64)) (.cons (.g (.int .i64)) (.cons (.g (.int .i64)) (.cons (.g (.int .i64)) (.cons (.g (.int .i64)) (.cons (.g (.sl (.one (.int .i8)))) .nil)))))))) (.cons (.cell (.cons (.g (.int .i64)) .nil)) (.cons (.cell (.cons (.g (.int .i64)) (.cons (.g (.sl (.one (.int .i64)))) (.cons (.g (.int .i64)) (.cons (.g (.int .i64)) (.cons (.g (.int .i64)) (.cons (.g (.int .i64)) (.cons (.g (.int .i64)) (.cons (.g (.int .i64)) (.cons (.g (.int .i64)) (.cons (.g (.int .i64)) (.cons (.g (.int .i64)) (.cons (.g (.int .i64)) (.cons (.g (.sl (.one (.int .i8)))) (.cons (.g (.sl (.one (.int .i32)))) .nil))))))))))))))) (.cons (.cell (.cons (.g (.int .i64)) .nil)) (.cons (.cell (.cons (.g (.int .i64)) .nil)) (.cons (.ref 0 0) (.cons (.ref 1 0) .nil)))))))))] [(.cons (.g (.int .i64)) .nil), (.cons (.g (.int .i64)) .nil)]) .unit (fun y : (Int × Int) => ()) (fun x y => [[di y.1], [di y.2]]) (fun x => kern_slide_s2 x.1.1 (x.1.2.1.1.1, x.1.2.1.1.2.1, x.1.2.1.1.2.2.1, x.1.2.1.1.2.2.2.1, x.1.2.1.1.2.2.2.2.1, x.1.2.1.1.2.2.2.2.2.1, x.1.2.1.1.2.2.2.2.2.2.1) x.1.2.1.2.1.1 (x.1.2.1.2.2.1.1, x.1.2.1.2.2.1.2.1, x.1.2.1.2.2.1.2.2.1, x.1.2.1.2.2.1.2.2.2.1, x.1.2.1.2.2.1.2.2.2.2.1, x.1.2.1.2.2.1.2.2.2.2.2.1, x.1.2.1.2.2.1.2.2.2.2.2.2.1, x.1.2.1.2.2.1.2.2.2.2.2.2.2.1, x.1.2.1.2.2.1.2.2.2.2.2.2.2.2.1, x.1.2.1.2.2.1.2.2.2.2.2.2.2.2.2.1, x.1.2.1.2.2.1.2.2.2.2.2.2.2.2.2.2.1, x.1.2.1.2.2.1.2.2.2.2.2.2.2.2.2.2.2.1, x.1.2.1.2.2.1.2.2.2.2.2.2.2.2.2.2.2.2.1, x.1.2.1.2.2.1.2.2.2.2.2.2.2.2.2.2.2.2.2.1) x.1.2.1.2.2.2.1.1 x.1.2.1.2.2.2.2.1.1 x.2.1.1 x.2.2.1.1)
theorem ce4_ok : EffOK E ce4 := conE eok cp60_ok ce3_ok fun α x k => Eq.mp (by kernel_rfl) (kern_slide_s2_is x.1.1 (x.1.2.1.1.1, x.1.2.1.1.2.1, x.1.2.1.1.2.2.1, x.1.2.1.1.2.2.2.1, x.1.2.1.1.2.2.2.2.1, x.1.2.1.1.2.2.2.2.2.1, x.1.2.1.1.2.2.2.2.2.2.1) x.1.2.1.2.1.1 (x.1.2.1.2.2.1.1, x.1.2.1.2.2.1.2.1, x.1.2.1.2.2.1.2.2.1, x.1.2.1.2.2.1.2.2.2.1, x.1.2.1.2.2.1.2.2.2.2.1, x.1.2.1.2.2.1.2.2.2.2.2.1, x.1.2.1.2.2.1.2.2.2.2.2.2.1, x.1.2.1.2.2.1.2.2.2.2.2.2.2.1, x.1.2.1.2.2.1.2.2.2.2.2.2.2.2.1, x.1.2.1.2.2.1.2.2.2.2.2.2.2.2.2.1, x.1.2.1.2.2.1.2.2.2.2.2.2.2.2.2.2.1, x.1.2.1.2.2.1.2.2.2.2.2.2.2.2.2.2.2.1, x.1.2.1.2.2.1.2.2.2.2.2.2.2.2.2.2.2.2.1, x.1.2.1.2.2.1.2.2.2.2.2.2.2.2.2.2.2.2.2.1) x.1.2.1.2.2.2.1.1 x.1.2.1.2.2.2.2.1.1 x.2.1.1 x.2.2.1.1 k)
end
section
variable {α : Type} (y_ : Int) (x_ : Int) (c_ : Int) (c3_ : Node) (c4_ : pane) (y666 : (Int × Int)) (k : St → Option α)
noncomputable abbrev C64 := codeOf E.P 86
noncomputable abbrev P64 := @preK α E 86 cp60 ce4
abbrev S64_0 : St := ⟨[(3, rC tsNode c3_), (4, rC tspane c4_), (9, rF 0), (10, rF 1)], [[di y666.1], [di y666.2]], [], 40⟩
theorem kern_pool_1_r2 : P64 3 C64 ⟨[(0, ri y_), (1, ri x_), (2, ri c_), (3, rC tsNode c3_), (4, rC tspane c4_)], [], [], 40⟩ k = Option.bind (kern_slide_s2 c3_.2.2.1 c4_ y_ c3_ x_ c_ (-512 : Int) (0 : Int)) fun y666 : (Int × Int) => k (S64_0 c3_ c4_ y666) := by kernel_rfl
theorem kern_pool_1_f1000004 : P64 1 C64.r.r.r.l (S64_0 c3_ c4_ y666) k = k ⟨[(3, rC tsNode c3_), (4, rC tspane c4_), (9, rF 0), (10, rF 1), (17, rb (c3_.1 == 4))], [[di y666.1], [di y666.2]], [], 40⟩ := by kernel_rfl
theorem kern_pool_1_fz : P64 1 C64.r.r.r.l.r.t (S64_0 c3_ c4_ y666) k = k ⟨[(8, ri (IntKind.wrap .i64 (y666.1 + c4_.2.2.2.1)))], [[], []], [], 40⟩ := by kernel_rfl
abbrev S64_1 : St := ⟨[(3, rC tsNode c3_), (4, rC tspane c4_), (10, rF 1)], [[di y666.1], [di y666.2]], [], 40⟩
theorem kern_pool_1_r5 : P64 1 C64.r.r.r.r (S64_1 c3_ c4_ y666) k = Option.bind (fixed_Div (IntKind.wrap .i64 (y666.2 + (IntKind.wrap .i64 ((IntKind.wrap .i64 (c3_.2.2.1 * c3_.2.2.1)) * c4_.2.2.2.1)))) (IntKind.wrap .i64 (c3_.2.2.1 * c3_.2.2.1))) fun y667 : Int => k ⟨[(8, ri y667)], [[di y666.1], []], [], 40⟩ := by kernel_rfl
/-- quilt/kern.pool$1 -/
def kern_pool_1 : Option Int := (Option.bind (kern_slide_s2 c3_.2.2.1 c4_ y_ c3_ x_ c_ (-512 : Int) (0 : Int)) (fun y666 : (Int × Int) => (bif (c3_.1 == 4) then (some (IntKind.wrap .i64 (y666.1 + c4_.2.2.2.1))) else (Option.bind (fixed_Div (IntKind.wrap .i64 (y666.2 + (IntKind.wrap .i64 ((IntKind.wrap .i64 (c3_.2.2.1 * c3_.2.2.1)) * c4_.2.2.2.1)))) (IntKind.wrap .i64 (c3_.2.2.1 * c3_.2.2.1))) (fun y667 : Int => (some y667))))))
theorem kern_pool_1_is : stepS E cp60 ce4 86 [ri y_, ri x_, ri c_, rC tsNode c3_, rC tspane c4_] = Option.bind (kern_pool_1 y_ x_ c_ c3_ c4_) (fun y : Int => some (ri y : R)) := by
  refine .trans ?_ (bind_b fun y666 => (bif_b some_b (bind_b fun y667 => some_b)))
  refine (stepG_is (nt := 40) (regs := [(0, ri y_), (1, ri x_), (2, ri c_), (3, rC tsNode c3_), (4, rC tspane c4_)])).trans ?_
  refine (pre3 (kern_pool_1_r2 y_ x_ c_ c3_ c4_ _)).trans (bind_g fun y666 => ?_)
  refine .trans seq_push ?_
  refine (pre1 (kern_pool_1_f1000004 c3_ c4_ y666 _)).trans ?_
  refine (cond_e (b := (c3_.1 == 4)) (st' := (S64_0 c3_ c4_ y666)) ).trans (bif_g ?_ ?_)
  · refine (pre1 (kern_pool_1_fz c3_ c4_ y666 _)).trans ?_
    refine (ret_eq).trans ?_
    refine seqC_ret.trans ?_
    kernel_rfl
  · refine (skip_eq).trans ?_
    refine (seqC_normal (st' := (S64_1 c3_ c4_ y666))).trans ?_
    refine (pre1 (kern_pool_1_r5 c3_ c4_ y666 _)).trans (bind_g fun y667 => ?_)
    refine (ret_eq).trans ?_
    kernel_rfl
noncomputable def cp61 : CallP := withC cp60 86 [pI, pI, pI, (.one (.cell (.cons (.g (.int .i64)) (.cons (.g (.sl (.one (.int .i64)))) (.cons (.g (.int .i64)) (.cons (.g (.int .i64)) (.cons (.g (.int .i64)) (.cons (.g (.int .i64)) (.cons (.g (.int .i64)) (.cons (.g (.int .i64)) (.cons (.g (.int .i64)) (.cons (.g (.int .i64)) (.cons (.g (.int .i64)) (.cons (.g (.int .i64)) (.cons (.g (.sl (.one (.int .i8)))) (.cons (.g (.sl (.one (.int .i32)))) .nil)))))))))))))))), (.one (.cell (.cons (.g (.int .i64)) (.cons (.g (.int .i64)) (.cons (.g (.int .i64)) (.cons (.g (.int .i64)) (.cons (.g (.int .i64)) (.cons (.g (.int .i64)) (.cons (.g (.sl (.one (.int .i8)))) .nil)))))))))] (.one pI) (fun y : Int => y) (fun x => kern_pool_1 x.1 x.2.1 x.2.2.1 (x.2.2.2.1.1, x.2.2.2.1.2.1, x.2.2.2.1.2.2.1, x.2.2.2.1.2.2.2.1, x.2.2.2.1.2.2.2.2.1, x.2.2.2.1.2.2.2.2.2.1, x.2.2.2.1.2.2.2.2.2.2.1, x.2.2.2.1.2.2.2.2.2.2.2.1, x.2.2.2.1.2.2.2.2.2.2.2.2.1, x.2.2.2.1.2.2.2.2.2.2.2.2.2.1, x.2.2.2.1.2.2.2.2.2.2.2.2.2.2.1, x.2.2.2.1.2.2.2.2.2.2.2.2.2.2.2.1, x.2.2.2.1.2.2.2.2.2.2.2.2.2.2.2.2.1, x.2.2.2.1.2.2.2.2.2.2.2.2.2.2.2.2.2.1) (x.2.2.2.2.1.1, x.2.2.2.2.1.2.1, x.2.2.2.2.1.2.2.1, x.2.2.2.2.1.2.2.2.1, x.2.2.2.2.1.2.2.2.2.1, x.2.2.2.2.1.2.2.2.2.2.1, x.2.2.2.2.1.2.2.2.2.2.2.1))
theorem cp61_ok : PureOK E cp61 := conS eok cp60_ok ce4_ok fun x => Eq.mp (by kernel_rfl) (kern_pool_1_is x.1 x.2.1 x.2.2.1 (x.2.2.2.1.1, x.2.2.2.1.2.1, x.2.2.2.1.2.2.1, x.2.2.2.1.2.2.2.1, x.2.2.2.1.2.2.2.2.1, x.2.2.2.1.2.2.2.2.2.1, x.2.2.2.1.2.2.2.2.2.2.1, x.2.2.2.1.2.2.2.2.2.2.2.1, x.2.2.2.1.2.2.2.2.2.2.2.2.1, x.2.2.2.1.2.2.2.2.2.2.2.2.2.1, x.2.2.2.1.2.2.2.2.2.2.2.2.2.2.1, x.2.2.2.1.2.2.2.2.2.2.2.2.2.2.2.1, x.2.2.2.1.2.2.2.2.2.2.2.2.2.2.2.2.1, x.2.2.2.1.2.2.2.2.2.2.2.2.2.2.2.2.2.1) (x.2.2.2.2.1.1, x.2.2.2.2.1.2.1, x.2.2.2.2.1.2.2.1, x.2.2.2.2.1.2.2.2.1, x.2.2.2.2.1.2.2.2.2.1, x.2.2.2.2.1.2.2.2.2.2.1, x.2.2.2.2.1.2.2.2.2.2.2.1))
end
section
variable {α : Type} (y_ : Int) (x_ : Int) (c_ : Int) (c3_ : pane) (c4_ : pane) (c5_ : Node) (y672 : (Int × Int)) (k : St → Option α)
noncomputable abbrev C65 := codeOf E.P 89
noncomputable abbrev P65 := @preK α E 89 cp61 ce4
def kern_pair_1_r1_p : Option (Int × Int) := (Option.bind (kern_pane_at c3_ y_ x_ c_) (fun y670 : Int => (Option.bind (kern_pane_at c4_ y_ x_ c_) (fun y671 : Int => (some (y670, y671))))))
abbrev S65_0 : St := ⟨[(5, rC tsNode c5_), (10, ri y672.1), (11, ri y672.2)], [], [], 45⟩
theorem kern_pair_1_r1 : P65 2 C65 ⟨[(0, ri y_), (1, ri x_), (2, ri c_), (3, rC tspane c3_), (4, rC tspane c4_), (5, rC tsNode c5_)], [], [], 45⟩ k = Option.bind (kern_pair_1_r1_p y_ x_ c_ c3_ c4_) (fun y672 : (Int × Int) => k (S65_0 c5_ y672)) := .trans (by kernel_rfl) (bind_b fun y670 => (bind_b fun y671 => some_b))
theorem kern_pair_1_f1000003 : P65 1 C65.r.r.l (S65_0 c5_ y672) k = k ⟨[(5, rC tsNode c5_), (10, ri y672.1), (11, ri y672.2), (24, rb (c5_.1 == 7))], [], [], 45⟩ := by kernel_rfl
theorem kern_pair_1_r3 : P65 1 C65.r.r.l.r.t (S65_0 c5_ y672) k = Option.bind (fixed_Scale (IntKind.wrap .i64 (y672.1 * y672.2)) c5_.2.2.2.2.2.2.1 c5_.2.2.2.2.2.2.2.1 c5_.2.2.2.2.2.2.2.2.1) fun y674 : Int => k ⟨[(9, ri y674)], [], [], 45⟩ := by kernel_rfl
theorem kern_pair_1_r4 : P65 1 C65.r.r.r (S65_0 c5_ y672) k = Option.bind (fixed_Scale (IntKind.wrap .i64 (y672.1 + y672.2)) c5_.2.2.2.2.2.2.1 c5_.2.2.2.2.2.2.2.1 c5_.2.2.2.2.2.2.2.2.1) fun y675 : Int => k ⟨[(9, ri y675)], [], [], 45⟩ := by kernel_rfl
/-- quilt/kern.pair$1 -/
def kern_pair_1 : Option Int := (Option.bind (kern_pair_1_r1_p y_ x_ c_ c3_ c4_) (fun y672 : (Int × Int) => (bif (c5_.1 == 7) then (Option.bind (fixed_Scale (IntKind.wrap .i64 (y672.1 * y672.2)) c5_.2.2.2.2.2.2.1 c5_.2.2.2.2.2.2.2.1 c5_.2.2.2.2.2.2.2.2.1) (fun y674 : Int => (some y674))) else (Option.bind (fixed_Scale (IntKind.wrap .i64 (y672.1 + y672.2)) c5_.2.2.2.2.2.2.1 c5_.2.2.2.2.2.2.2.1 c5_.2.2.2.2.2.2.2.2.1) (fun y675 : Int => (some y675))))))
theorem kern_pair_1_is : stepS E cp61 ce4 89 [ri y_, ri x_, ri c_, rC tspane c3_, rC tspane c4_, rC tsNode c5_] = Option.bind (kern_pair_1 y_ x_ c_ c3_ c4_ c5_) (fun y : Int => some (ri y : R)) := by
  refine .trans ?_ (bind_b fun y672 => (bif_b (bind_b fun y674 => some_b) (bind_b fun y675 => some_b)))
  refine (stepG_is (nt := 45) (regs := [(0, ri y_), (1, ri x_), (2, ri c_), (3, rC tspane c3_), (4, rC tspane c4_), (5, rC tsNode c5_)])).trans ?_
  refine (pre2 (kern_pair_1_r1 y_ x_ c_ c3_ c4_ c5_ _)).trans (bind_g fun y672 => ?_)
  refine .trans seq_push ?_
  refine (pre1 (kern_pair_1_f1000003 c5_ y672 _)).trans ?_
  refine (cond_e (b := (c5_.1 == 7)) (st' := (S65_0 c5_ y672)) ).trans (bif_g ?_ ?_)
  · refine (pre1 (kern_pair_1_r3 c5_ y672 _)).trans (bind_g fun y674 => ?_)
    refine (ret_eq).trans ?_
    refine seqC_ret.trans ?_
    kernel_rfl
  · refine (skip_eq).trans ?_
    refine (seqC_normal (st' := (S65_0 c5_ y672))).trans ?_
    refine (pre1 (kern_pair_1_r4 c5_ y672 _)).trans (bind_g fun y675 => ?_)
    refine (ret_eq).trans ?_
    kernel_rfl
noncomputable def cp62 : CallP := withC cp61 89 [pI, pI, pI, (.one (.cell (.cons (.g (.int .i64)) (.cons (.g (.int .i64)) (.cons (.g (.int .i64)) (.cons (.g (.int .i64)) (.cons (.g (.int .i64)) (.cons (.g (.int .i64)) (.cons (.g (.sl (.one (.int .i8)))) .nil))))))))), (.one (.cell (.cons (.g (.int .i64)) (.cons (.g (.int .i64)) (.cons (.g (.int .i64)) (.cons (.g (.int .i64)) (.cons (.g (.int .i64)) (.cons (.g (.int .i64)) (.cons (.g (.sl (.one (.int .i8)))) .nil))))))))), (.one (.cell (.cons (.g (.int .i64)) (.cons (.g (.sl (.one (.int .i64)))) (.cons (.g (.int .i64)) (.cons (.g (.int .i64)) (.cons (.g (.int .i64)) (.cons (.g (.int .i64)) (.cons (.g (.int .i64)) (.cons (.g (.int .i64)) (.cons (.g (.int .i64)) (.cons (.g (.int .i64)) (.cons (.g (.int .i64)) (.cons (.g (.int .i64)) (.cons (.g (.sl (.one (.int .i8)))) (.cons (.g (.sl (.one (.int .i32)))) .nil))))))))))))))))] (.one pI) (fun y : Int => y) (fun x => kern_pair_1 x.1 x.2.1 x.2.2.1 (x.2.2.2.1.1, x.2.2.2.1.2.1, x.2.2.2.1.2.2.1, x.2.2.2.1.2.2.2.1, x.2.2.2.1.2.2.2.2.1, x.2.2.2.1.2.2.2.2.2.1, x.2.2.2.1.2.2.2.2.2.2.1) (x.2.2.2.2.1.1, x.2.2.2.2.1.2.1, x.2.2.2.2.1.2.2.1, x.2.2.2.2.1.2.2.2.1, x.2.2.2.2.1.2.2.2.2.1, x.2.2.2.2.1.2.2.2.2.2.1, x.2.2.2.2.1.2.2.2.2.2.2.1) (x.2.2.2.2.2.1.1, x.2.2.2.2.2.1.2.1, x.2.2.2.2.2.1.2.2.1, x.2.2.2.2.2.1.2.2.2.1, x.2.2.2.2.2.1.2.2.2.2.1, x.2.2.2.2.2.1.2.2.2.2.2.1, x.2.2.2.2.2.1.2.2.2.2.2.2.1, x.2.2.2.2.2.1.2.2.2.2.2.2.2.1, x.2.2.2.2.2.1.2.2.2.2.2.2.2.2.1, x.2.2.2.2.2.1.2.2.2.2.2.2.2.2.2.1, x.2.2.2.2.2.1.2.2.2.2.2.2.2.2.2.2.1, x.2.2.2.2.2.1.2.2.2.2.2.2.2.2.2.2.2.1, x.2.2.2.2.2.1.2.2.2.2.2.2.2.2.2.2.2.2.1, x.2.2.2.2.2.1.2.2.2.2.2.2.2.2.2.2.2.2.2.1))
theorem cp62_ok : PureOK E cp62 := conS eok cp61_ok ce4_ok fun x => Eq.mp (by kernel_rfl) (kern_pair_1_is x.1 x.2.1 x.2.2.1 (x.2.2.2.1.1, x.2.2.2.1.2.1, x.2.2.2.1.2.2.1, x.2.2.2.1.2.2.2.1, x.2.2.2.1.2.2.2.2.1, x.2.2.2.1.2.2.2.2.2.1, x.2.2.2.1.2.2.2.2.2.2.1) (x.2.2.2.2.1.1, x.2.2.2.2.1.2.1, x.2.2.2.2.1.2.2.1, x.2.2.2.2.1.2.2.2.1, x.2.2.2.2.1.2.2.2.2.1, x.2.2.2.2.1.2.2.2.2.2.1, x.2.2.2.2.1.2.2.2.2.2.2.1) (x.2.2.2.2.2.1.1, x.2.2.2.2.2.1.2.1, x.2.2.2.2.2.1.2.2.1, x.2.2.2.2.2.1.2.2.2.1, x.2.2.2.2.2.1.2.2.2.2.1, x.2.2.2.2.2.1.2.2.2.2.2.1, x.2.2.2.2.2.1.2.2.2.2.2.2.1, x.2.2.2.2.2.1.2.2.2.2.2.2.2.1, x.2.2.2.2.2.1.2.2.2.2.2.2.2.2.1, x.2.2.2.2.2.1.2.2.2.2.2.2.2.2.2.1, x.2.2.2.2.2.1.2.2.2.2.2.2.2.2.2.2.1, x.2.2.2.2.2.1.2.2.2.2.2.2.2.2.2.2.2.1, x.2.2.2.2.2.1.2.2.2.2.2.2.2.2.2.2.2.2.1, x.2.2.2.2.2.1.2.2.2.2.2.2.2.2.2.2.2.2.2.1))
end
end Go.V.P
