/- What functions compute. -/
import Derived.Test.YtokpndlkheofjaaKp3
namespace Go.V.P
open Go.RowKit Go.V Go.Proofs
set_option linter.unusedVariables false
set_option maxRecDepth 100000
section
variable {α : Type} (k_ : Int) (do_ : pane) (do_' : Int) (do_'' : Node) (do_''' : Int) (do_'''' : Int) (c2_ : Int) (c3_ : Int) (s650 : (Int × Int × Int)) (s661 : (Int × Int × Int)) (y663 : (Int × Int)) (y664 : (Int × Int × Int)) (k : St → Option α) (q : Kont α)
noncomputable abbrev C63 := Q0r E.P 82
noncomputable abbrev P63 := @preK α E 82 cp60 ce3
noncomputable abbrev R63 := @Q0o α E 82 cp60 ce3
abbrev S63_0 : St := ⟨[(0, ri k_), (1, .one (.fn 87 [.cell (a04.leaves do_), .cell [di do_'], .cell (a01.leaves do_''), .cell [di do_'''], .cell [di do_''''], .ref 0 0, .ref 1 0])), (6, ri k_), (7, ri 0)], [[di c2_], [di c3_]], [], 20⟩
theorem c3r : P63 1 C63 ⟨[(0, ri k_), (1, .one (.fn 87 [.cell (a04.leaves do_), .cell [di do_'], .cell (a01.leaves do_''), .cell [di do_'''], .cell [di do_''''], .ref 0 0, .ref 1 0]))], [[di c2_], [di c3_]], [], 20⟩ k = k (S63_0 k_ do_ do_' do_'' do_''' do_'''' c2_ c3_) := by kernel_rfl
abbrev S63_1 : St := ⟨[(0, ri k_), (1, .one (.fn 87 [.cell (a04.leaves do_), .cell [di do_'], .cell (a01.leaves do_''), .cell [di do_'''], .cell [di do_''''], .ref 0 0, .ref 1 0])), (6, ri k_), (7, ri s650.1)], [[di s650.2.1], [di s650.2.2]], [], 20⟩
theorem c3u : P63 1 C63.r.b.b (S63_1 k_ do_ do_' do_'' do_''' do_'''' s650) k = k ⟨[(0, ri k_), (1, .one (.fn 87 [.cell (a04.leaves do_), .cell [di do_'], .cell (a01.leaves do_''), .cell [di do_'''], .cell [di do_''''], .ref 0 0, .ref 1 0])), (6, ri k_), (7, ri s650.1), (8, rb (decide (s650.1 < k_)))], [[di s650.2.1], [di s650.2.2]], [], 20⟩ := by kernel_rfl
abbrev S63_2 : St := ⟨[(0, ri k_), (1, .one (.fn 87 [.cell (a04.leaves do_), .cell [di do_'], .cell (a01.leaves do_''), .cell [di do_'''], .cell [di do_''''], .ref 0 0, .ref 1 0])), (4, ri s650.1), (6, ri k_), (7, ri s650.1), (10, ri k_), (11, ri 0)], [[di s650.2.1], [di s650.2.2]], [], 20⟩
theorem c3s : P63 2 C63.r.b.b.r.r.l.b (S63_1 k_ do_ do_' do_'' do_''' do_'''' s650) k = k (S63_2 k_ do_ do_' do_'' do_''' do_'''' s650) := by kernel_rfl
abbrev S63_3 : St := ⟨[(0, ri k_), (1, .one (.fn 87 [.cell (a04.leaves do_), .cell [di do_'], .cell (a01.leaves do_''), .cell [di do_'''], .cell [di do_''''], .ref 0 0, .ref 1 0])), (4, ri s650.1), (6, ri k_), (7, ri s650.1), (10, ri k_), (11, ri s661.1)], [[di s661.2.1], [di s661.2.2]], [], 20⟩
theorem b9z : P63 1 C63.r.b.b.r.r.l.b.r.r.b.b (S63_3 k_ do_ do_' do_'' do_''' do_'''' s650 s661) k = k ⟨[(0, ri k_), (1, .one (.fn 87 [.cell (a04.leaves do_), .cell [di do_'], .cell (a01.leaves do_''), .cell [di do_'''], .cell [di do_''''], .ref 0 0, .ref 1 0])), (4, ri s650.1), (6, ri k_), (7, ri s650.1), (10, ri k_), (11, ri s661.1), (12, rb (decide (s661.1 < k_)))], [[di s661.2.1], [di s661.2.2]], [], 20⟩ := by kernel_rfl
abbrev S63_4 : St := ⟨[(0, ri k_), (1, .one (.fn 87 [.cell (a04.leaves do_), .cell [di do_'], .cell (a01.leaves do_''), .cell [di do_'''], .cell [di do_''''], .ref 0 0, .ref 1 0])), (4, ri s650.1), (5, ri s661.1), (6, ri k_), (7, ri s650.1), (10, ri k_), (11, ri s661.1)], [[di s661.2.1], [di s661.2.2]], [], 20⟩
theorem c3t : P63 1 C63.r.b.b.r.r.l.b.r.r.b.b.r.r.l.b (S63_3 k_ do_ do_' do_'' do_''' do_'''' s650 s661) k = k (S63_4 k_ do_ do_' do_'' do_''' do_'''' s650 s661) := by kernel_rfl
abbrev S63_5 : St := ⟨[(0, ri k_), (1, .one (.fn 87 [.cell (a04.leaves do_), .cell [di do_'], .cell (a01.leaves do_''), .cell [di do_'''], .cell [di do_''''], .ref 0 0, .ref 1 0])), (4, ri s650.1), (6, ri k_), (7, ri s650.1), (10, ri k_), (11, ri s661.1)], [[di y663.1], [di y663.2]], [], 20⟩
theorem c3y : R63 C63.r.b.b.r.r.l.b.r.r.b.b.r.r.l.b.r (S63_4 k_ do_ do_' do_'' do_''' do_'''' s650 s661) q = Option.bind (a5q s650.1 s661.1 do_ do_' do_'' do_''' do_'''' s661.2.1 s661.2.2) fun y663 : (Int × Int) => q .normal (S63_5 k_ do_ do_' do_'' do_''' do_'''' s650 s661 y663) := by kernel_rfl
theorem c3z : R63 C63.r.b.b.r.r.l.b.r.r.b.b.r.r.r (S63_5 k_ do_ do_' do_'' do_''' do_'''' s650 s661 y663) q = q .normal ⟨[(0, ri k_), (1, .one (.fn 87 [.cell (a04.leaves do_), .cell [di do_'], .cell (a01.leaves do_''), .cell [di do_'''], .cell [di do_''''], .ref 0 0, .ref 1 0])), (4, ri s650.1), (6, ri k_), (7, ri s650.1), (10, ri k_), (11, ri (IntKind.wrap .i64 (s661.1 + 1)))], [[di y663.1], [di y663.2]], [], 20⟩ := by kernel_rfl
def a49 : Option ((Int × Int × Int) ⊕ (Int × Int × Int)) := (bif (decide (s661.1 < k_)) then (Option.bind (a5q s650.1 s661.1 do_ do_' do_'' do_''' do_'''' s661.2.1 s661.2.2) (fun y663 : (Int × Int) => (some (Sum.inl ((IntKind.wrap .i64 (s661.1 + 1)), y663.1, y663.2))))) else (some (Sum.inr s661)))
abbrev S63_6 : St := ⟨[(0, ri k_), (1, .one (.fn 87 [.cell (a04.leaves do_), .cell [di do_'], .cell (a01.leaves do_''), .cell [di do_'''], .cell [di do_''''], .ref 0 0, .ref 1 0])), (4, ri s650.1), (6, ri k_), (7, ri s650.1), (10, ri k_), (11, ri y664.1)], [[di y664.2.1], [di y664.2.2]], [], 20⟩
theorem c01 : R63 C63.r.b.b.r.r.l.b.r.r.b.b (S63_3 k_ do_ do_' do_'' do_''' do_'''' s650 s661) (Q0w 2 q) = Option.bind (a49 k_ do_ do_' do_'' do_''' do_'''' s650 s661) (Q1z (fun y : (Int × Int × Int) => q .normal ⟨[(0, ri k_), (1, .one (.fn 87 [.cell (a04.leaves do_), .cell [di do_'], .cell (a01.leaves do_''), .cell [di do_'''], .cell [di do_''''], .ref 0 0, .ref 1 0])), (4, ri s650.1), (6, ri k_), (7, ri s650.1), (10, ri k_), (11, ri y.1)], [[di y.2.1], [di y.2.2]], [], 20⟩) (fun y664 : (Int × Int × Int) => q (.exit 2) (S63_6 k_ do_ do_' do_'' do_''' do_'''' s650 y664))) := by
  refine .trans ?_ (Q2b (Q0d fun y663 => e2_0) e2_1)
  refine (Q2d (b9z k_ do_ do_' do_'' do_''' do_'''' s650 s661 _)).trans ?_
  refine .trans Q0c ?_
  refine (Q0m (b := (decide (s661.1 < k_))) (st' := (S63_3 k_ do_ do_' do_'' do_''' do_'''' s650 s661)) ).trans (Q2f ?_ ?_)
  · refine (Q0i).trans ?_
    refine (Q0a (st' := (S63_3 k_ do_ do_' do_'' do_''' do_'''' s650 s661))).trans ?_
    refine .trans Q0c ?_
    refine (Q0j (id := 3)).trans ?_
    refine (Q2d (c3t k_ do_ do_' do_'' do_''' do_'''' s650 s661 _)).trans ?_
    refine (c3y k_ do_ do_' do_'' do_''' do_'''' s650 s661 _).trans (Q0e fun y663 => ?_)
    refine Q0f.trans ?_
    refine (Q0a (st' := (S63_5 k_ do_ do_' do_'' do_''' do_'''' s650 s661 y663))).trans ?_
    refine (c3z k_ do_ do_' do_'' do_''' do_'''' s650 s661 y663 _).trans ?_
    kernel_rfl
  · refine ((Q1f (j := 2))).trans ?_
    refine Q0v.trans ?_
    kernel_rfl
theorem c3x : R63 C63.r.b.b.r.r.l.b.r.r.b (S63_2 k_ do_ do_' do_'' do_''' do_'''' s650) q = Option.bind (iterN (a49 k_ do_ do_' do_'' do_''' do_'''' s650) LL ((0 : Int), s650.2.1, s650.2.2)) (fun y664 : (Int × Int × Int) => q (.exit 2) (S63_6 k_ do_ do_' do_'' do_''' do_'''' s650 y664)) :=
  Eq.trans (by kernel_rfl) (Q1a (S := fun s661 : (Int × Int × Int) => (S63_3 k_ do_ do_' do_'' do_''' do_'''' s650 s661)) (Y1 := fun y664 : (Int × Int × Int) => ((.exit 2), (S63_6 k_ do_ do_' do_'' do_''' do_'''' s650 y664))) (fun s q => c01 k_ do_ do_' do_'' do_''' do_'''' s650 s q) (fun z => rfl) LL ((0 : Int), s650.2.1, s650.2.2))
abbrev S63_7 : St := ⟨[(0, ri k_), (1, .one (.fn 87 [.cell (a04.leaves do_), .cell [di do_'], .cell (a01.leaves do_''), .cell [di do_'''], .cell [di do_''''], .ref 0 0, .ref 1 0])), (6, ri k_), (7, ri s650.1)], [[di y664.2.1], [di y664.2.2]], [], 20⟩
theorem c40 : R63 C63.r.b.b.r.r.r (S63_7 k_ do_ do_' do_'' do_''' do_'''' s650 y664) q = q .normal ⟨[(0, ri k_), (1, .one (.fn 87 [.cell (a04.leaves do_), .cell [di do_'], .cell (a01.leaves do_''), .cell [di do_'''], .cell [di do_''''], .ref 0 0, .ref 1 0])), (6, ri k_), (7, ri (IntKind.wrap .i64 (s650.1 + 1)))], [[di y664.2.1], [di y664.2.2]], [], 20⟩ := by kernel_rfl
def a48 : Option ((Int × Int × Int) ⊕ (Int × Int × Int)) := (bif (decide (s650.1 < k_)) then (Option.bind (iterN (a49 k_ do_ do_' do_'' do_''' do_'''' s650) LL ((0 : Int), s650.2.1, s650.2.2)) (fun y664 : (Int × Int × Int) => (some (Sum.inl ((IntKind.wrap .i64 (s650.1 + 1)), y664.2.1, y664.2.2))))) else (some (Sum.inr s650)))
abbrev S63_8 (y665 : (Int × Int × Int)) : St := ⟨[(0, ri k_), (1, .one (.fn 87 [.cell (a04.leaves do_), .cell [di do_'], .cell (a01.leaves do_''), .cell [di do_'''], .cell [di do_''''], .ref 0 0, .ref 1 0])), (6, ri k_), (7, ri y665.1)], [[di y665.2.1], [di y665.2.2]], [], 20⟩
theorem c00 : R63 C63.r.b.b (S63_1 k_ do_ do_' do_'' do_''' do_'''' s650) (Q0w 2 q) = Option.bind (a48 k_ do_ do_' do_'' do_''' do_'''' s650) (Q1z (fun y : (Int × Int × Int) => q .normal ⟨[(0, ri k_), (1, .one (.fn 87 [.cell (a04.leaves do_), .cell [di do_'], .cell (a01.leaves do_''), .cell [di do_'''], .cell [di do_''''], .ref 0 0, .ref 1 0])), (6, ri k_), (7, ri y.1)], [[di y.2.1], [di y.2.2]], [], 20⟩) (fun y665 : (Int × Int × Int) => q (.exit 0) (S63_8 k_ do_ do_' do_'' do_''' do_'''' y665))) := by
  refine .trans ?_ (Q2b (Q0d fun y664 => e2_0) e2_1)
  refine (Q2d (c3u k_ do_ do_' do_'' do_''' do_'''' s650 _)).trans ?_
  refine .trans Q0c ?_
  refine (Q0m (b := (decide (s650.1 < k_))) (st' := (S63_1 k_ do_ do_' do_'' do_''' do_'''' s650)) ).trans (Q2f ?_ ?_)
  · refine (Q0i).trans ?_
    refine (Q0a (st' := (S63_1 k_ do_ do_' do_'' do_''' do_'''' s650))).trans ?_
    refine .trans Q0c ?_
    refine (Q0j (id := 1)).trans ?_
    refine (pre2 (c3s k_ do_ do_' do_'' do_''' do_'''' s650 _)).trans ?_
    refine (Q0j (id := 2)).trans ?_
    refine (c3x k_ do_ do_' do_'' do_''' do_'''' s650 _).trans (Q0e fun y664 => ?_)
    refine Q0u.trans ?_
    refine Q0f.trans ?_
    refine (Q0a (st' := (S63_7 k_ do_ do_' do_'' do_''' do_'''' s650 y664))).trans ?_
    refine (c40 k_ do_ do_' do_'' do_''' do_'''' s650 y664 _).trans ?_
    kernel_rfl
  · refine ((Q1f (j := 0))).trans ?_
    refine Q0v.trans ?_
    kernel_rfl
theorem c3w : R63 C63.r.b (S63_0 k_ do_ do_' do_'' do_''' do_'''' c2_ c3_) q = Option.bind (iterN (a48 k_ do_ do_' do_'' do_''' do_'''') LL ((0 : Int), c2_, c3_)) (fun y665 : (Int × Int × Int) => q (.exit 0) (S63_8 k_ do_ do_' do_'' do_''' do_'''' y665)) :=
  Eq.trans (by kernel_rfl) (Q1a (S := fun s650 : (Int × Int × Int) => (S63_1 k_ do_ do_' do_'' do_''' do_'''' s650)) (Y1 := fun y665 : (Int × Int × Int) => ((.exit 0), (S63_8 k_ do_ do_' do_'' do_''' do_'''' y665))) (fun s q => c00 k_ do_ do_' do_'' do_''' do_'''' s q) (fun z => rfl) LL ((0 : Int), c2_, c3_))
def a5r : Option (Int × Int) := (Option.bind (iterN (a48 k_ do_ do_' do_'' do_''' do_'''') LL ((0 : Int), c2_, c3_)) (fun y665 : (Int × Int × Int) => (some y665.2)))
theorem c3v (k : R → Heap → Option α) : Q1m E cp60 ce3 α 82 [ri k_, .one (.fn 87 [.cell (a04.leaves do_), .cell [di do_'], .cell (a01.leaves do_''), .cell [di do_'''], .cell [di do_''''], .ref 0 0, .ref 1 0])] [[di c2_], [di c3_]] k = Option.bind (a5r k_ do_ do_' do_'' do_''' do_'''' c2_ c3_) (fun y : (Int × Int) => k (.tup []) [[di y.1], [di y.2]]) := by
  refine .trans ?_ (Q0d fun y665 => Q0b)
  refine (body_is (nt := 20) (regs := [(0, ri k_), (1, .one (.fn 87 [.cell (a04.leaves do_), .cell [di do_'], .cell (a01.leaves do_''), .cell [di do_'''], .cell [di do_''''], .ref 0 0, .ref 1 0]))]) (by kernel_rfl) (by kernel_rfl)).trans ?_
  refine (Q2d (c3r k_ do_ do_' do_'' do_''' do_'''' c2_ c3_ _)).trans ?_
  refine (Q0j (id := 0)).trans ?_
  refine (c3w k_ do_ do_' do_'' do_''' do_'''' c2_ c3_ _).trans (Q0e fun y665 => ?_)
  refine Q0u.trans ?_
  kernel_rfl
noncomputable def ce4 : CallE := withE ce3 82 (decA [pI, (.one (.fn 87 (.cons (.cell (.cons (.g (.int .i64)) (.cons (.g (.int .i64)) (.cons (.g (.int .i64)) (.cons (.g (.int .i64)) (.cons (.g (.int .i64)) (.cons (.g (.int .i64)) (.cons (.g (.sl (.one (.int .i8)))) .nil)))))))) (.cons (.cell (.cons (.g (.int .i64)) .nil)) (.cons (.cell (.cons (.g (.int .i64)) (.cons (.g (.sl (.one (.int .i64)))) (.cons (.g (.int .i64)) (.cons (.g (.int .i64)) (.cons (.g (.int .i64)) (.cons (.g (.int .i64)) (.cons (.g (.int .i64)) (.cons (.g (.int .i64)) (.cons (.g (.int .i64)) (.cons (.g (.int .i64)) (.cons (.g (.int .i64)) (.cons (.g (.int .i64)) (.cons (.g (.sl (.one (.int .i8)))) (.cons (.g (.sl (.one (.int .i32)))) .nil))))))))))))))) (.cons (.cell (.cons (.g (.int .i64)) .nil)) (.cons (.cell (.cons (.g (.int .i64)) .nil)) (.cons (.ref 0 0) (.cons (.ref 1 0) .nil)))))))))] [(.cons (.g (.int .i64)) .nil), (.cons (.g (.int .i64)) .nil)]) .unit (fun y : (Int × Int) => ()) (fun x y => [[di y.1], [di y.2]]) (fun x => a5r x.1.1 (x.1.2.1.1.1, x.1.2.1.1.2.1, x.1.2.1.1.2.2.1, x.1.2.1.1.2.2.2.1, x.1.2.1.1.2.2.2.2.1, x.1.2.1.1.2.2.2.2.2.1, x.1.2.1.1.2.2.2.2.2.2.1) x.1.2.1.2.1.1 (x.1.2.1.2.2.1.1, x.1.2.1.2.2.1.2.1, x.1.2.1.2.2.1.2.2.1, x.1.2.1.2.2.1.2.2.2.1, x.1.2.1.2.2.1.2.2.2.2.1, x.1.2.1.2.2.1.2.2.2.2.2.1, x.1.2.1.2.2.1.2.2.2.2.2.2.1, x.1.2.1.2.2.1.2.2.2.2.2.2.2.1, x.1.2.1.2.2.1.2.2.2.2.2.2.2.2.1, x.1.2.1.2.2.1.2.2.2.2.2.2.2.2.2.1, x.1.2.1.2.2.1.2.2.2.2.2.2.2.2.2.2.1, x.1.2.1.2.2.1.2.2.2.2.2.2.2.2.2.2.2.1, x.1.2.1.2.2.1.2.2.2.2.2.2.2.2.2.2.2.2.1, x.1.2.1.2.2.1.2.2.2.2.2.2.2.2.2.2.2.2.2.1) x.1.2.1.2.2.2.1.1 x.1.2.1.2.2.2.2.1.1 x.2.1.1 x.2.2.1.1)
theorem a0r : EffOK E ce4 := conE eok c7f e4e fun α x k => Eq.mp (by kernel_rfl) (c3v x.1.1 (x.1.2.1.1.1, x.1.2.1.1.2.1, x.1.2.1.1.2.2.1, x.1.2.1.1.2.2.2.1, x.1.2.1.1.2.2.2.2.1, x.1.2.1.1.2.2.2.2.2.1, x.1.2.1.1.2.2.2.2.2.2.1) x.1.2.1.2.1.1 (x.1.2.1.2.2.1.1, x.1.2.1.2.2.1.2.1, x.1.2.1.2.2.1.2.2.1, x.1.2.1.2.2.1.2.2.2.1, x.1.2.1.2.2.1.2.2.2.2.1, x.1.2.1.2.2.1.2.2.2.2.2.1, x.1.2.1.2.2.1.2.2.2.2.2.2.1, x.1.2.1.2.2.1.2.2.2.2.2.2.2.1, x.1.2.1.2.2.1.2.2.2.2.2.2.2.2.1, x.1.2.1.2.2.1.2.2.2.2.2.2.2.2.2.1, x.1.2.1.2.2.1.2.2.2.2.2.2.2.2.2.2.1, x.1.2.1.2.2.1.2.2.2.2.2.2.2.2.2.2.2.1, x.1.2.1.2.2.1.2.2.2.2.2.2.2.2.2.2.2.2.1, x.1.2.1.2.2.1.2.2.2.2.2.2.2.2.2.2.2.2.2.1) x.1.2.1.2.2.2.1.1 x.1.2.1.2.2.2.2.1.1 x.2.1.1 x.2.2.1.1 k)
end
section
variable {α : Type} (y_ : Int) (x_ : Int) (c_ : Int) (c3_ : Node) (c4_ : pane) (y666 : (Int × Int)) (k : St → Option α)
noncomputable abbrev C64 := Q0r E.P 86
noncomputable abbrev P64 := @preK α E 86 cp60 ce4
abbrev S64_0 : St := ⟨[(3, rC a01 c3_), (4, rC a04 c4_), (9, rF 0), (10, rF 1)], [[di y666.1], [di y666.2]], [], 40⟩
theorem c9l : P64 3 C64 ⟨[(0, ri y_), (1, ri x_), (2, ri c_), (3, rC a01 c3_), (4, rC a04 c4_)], [], [], 40⟩ k = Option.bind (a5r c3_.2.2.1 c4_ y_ c3_ x_ c_ (-512 : Int) (0 : Int)) fun y666 : (Int × Int) => k (S64_0 c3_ c4_ y666) := by kernel_rfl
theorem b5w : P64 1 C64.r.r.r.l (S64_0 c3_ c4_ y666) k = k ⟨[(3, rC a01 c3_), (4, rC a04 c4_), (9, rF 0), (10, rF 1), (17, rb (c3_.1 == 4))], [[di y666.1], [di y666.2]], [], 40⟩ := by kernel_rfl
theorem c9j : P64 1 C64.r.r.r.l.r.t (S64_0 c3_ c4_ y666) k = k ⟨[(8, ri (IntKind.wrap .i64 (y666.1 + c4_.2.2.2.1)))], [[], []], [], 40⟩ := by kernel_rfl
abbrev S64_1 : St := ⟨[(3, rC a01 c3_), (4, rC a04 c4_), (10, rF 1)], [[di y666.1], [di y666.2]], [], 40⟩
theorem c9m : P64 1 C64.r.r.r.r (S64_1 c3_ c4_ y666) k = Option.bind (a8s (IntKind.wrap .i64 (y666.2 + (IntKind.wrap .i64 ((IntKind.wrap .i64 (c3_.2.2.1 * c3_.2.2.1)) * c4_.2.2.2.1)))) (IntKind.wrap .i64 (c3_.2.2.1 * c3_.2.2.1))) fun y667 : Int => k ⟨[(8, ri y667)], [[di y666.1], []], [], 40⟩ := by kernel_rfl
def b38 : Option Int := (Option.bind (a5r c3_.2.2.1 c4_ y_ c3_ x_ c_ (-512 : Int) (0 : Int)) (fun y666 : (Int × Int) => (bif (c3_.1 == 4) then (some (IntKind.wrap .i64 (y666.1 + c4_.2.2.2.1))) else (Option.bind (a8s (IntKind.wrap .i64 (y666.2 + (IntKind.wrap .i64 ((IntKind.wrap .i64 (c3_.2.2.1 * c3_.2.2.1)) * c4_.2.2.2.1)))) (IntKind.wrap .i64 (c3_.2.2.1 * c3_.2.2.1))) (fun y667 : Int => (some y667))))))
theorem c9k : Q2j E cp60 ce4 86 [ri y_, ri x_, ri c_, rC a01 c3_, rC a04 c4_] = Option.bind (b38 y_ x_ c_ c3_ c4_) (fun y : Int => some (ri y : R)) := by
  refine .trans ?_ (Q0d fun y666 => (Q2b Q0b (Q0d fun y667 => Q0b)))
  refine (Q0l (nt := 40) (regs := [(0, ri y_), (1, ri x_), (2, ri c_), (3, rC a01 c3_), (4, rC a04 c4_)])).trans ?_
  refine (pre3 (c9l y_ x_ c_ c3_ c4_ _)).trans (Q0e fun y666 => ?_)
  refine .trans Q0c ?_
  refine (Q2d (b5w c3_ c4_ y666 _)).trans ?_
  refine (Q0m (b := (c3_.1 == 4)) (st' := (S64_0 c3_ c4_ y666)) ).trans (Q2f ?_ ?_)
  · refine (Q2d (c9j c3_ c4_ y666 _)).trans ?_
    refine (Q0h).trans ?_
    refine Q0k.trans ?_
    kernel_rfl
  · refine (Q0i).trans ?_
    refine (Q0a (st' := (S64_1 c3_ c4_ y666))).trans ?_
    refine (Q2d (c9m c3_ c4_ y666 _)).trans (Q0e fun y667 => ?_)
    refine (Q0h).trans ?_
    kernel_rfl
noncomputable def cp61 : Q2g := Q2i cp60 86 [pI, pI, pI, (.one (.cell (.cons (.g (.int .i64)) (.cons (.g (.sl (.one (.int .i64)))) (.cons (.g (.int .i64)) (.cons (.g (.int .i64)) (.cons (.g (.int .i64)) (.cons (.g (.int .i64)) (.cons (.g (.int .i64)) (.cons (.g (.int .i64)) (.cons (.g (.int .i64)) (.cons (.g (.int .i64)) (.cons (.g (.int .i64)) (.cons (.g (.int .i64)) (.cons (.g (.sl (.one (.int .i8)))) (.cons (.g (.sl (.one (.int .i32)))) .nil)))))))))))))))), (.one (.cell (.cons (.g (.int .i64)) (.cons (.g (.int .i64)) (.cons (.g (.int .i64)) (.cons (.g (.int .i64)) (.cons (.g (.int .i64)) (.cons (.g (.int .i64)) (.cons (.g (.sl (.one (.int .i8)))) .nil)))))))))] (.one pI) (fun y : Int => y) (fun x => b38 x.1 x.2.1 x.2.2.1 (x.2.2.2.1.1, x.2.2.2.1.2.1, x.2.2.2.1.2.2.1, x.2.2.2.1.2.2.2.1, x.2.2.2.1.2.2.2.2.1, x.2.2.2.1.2.2.2.2.2.1, x.2.2.2.1.2.2.2.2.2.2.1, x.2.2.2.1.2.2.2.2.2.2.2.1, x.2.2.2.1.2.2.2.2.2.2.2.2.1, x.2.2.2.1.2.2.2.2.2.2.2.2.2.1, x.2.2.2.1.2.2.2.2.2.2.2.2.2.2.1, x.2.2.2.1.2.2.2.2.2.2.2.2.2.2.2.1, x.2.2.2.1.2.2.2.2.2.2.2.2.2.2.2.2.1, x.2.2.2.1.2.2.2.2.2.2.2.2.2.2.2.2.2.1) (x.2.2.2.2.1.1, x.2.2.2.2.1.2.1, x.2.2.2.2.1.2.2.1, x.2.2.2.2.1.2.2.2.1, x.2.2.2.2.1.2.2.2.2.1, x.2.2.2.2.1.2.2.2.2.2.1, x.2.2.2.2.1.2.2.2.2.2.2.1))
theorem e3u : Q0p E cp61 := conS eok c7f a0r fun x => Eq.mp (by kernel_rfl) (c9k x.1 x.2.1 x.2.2.1 (x.2.2.2.1.1, x.2.2.2.1.2.1, x.2.2.2.1.2.2.1, x.2.2.2.1.2.2.2.1, x.2.2.2.1.2.2.2.2.1, x.2.2.2.1.2.2.2.2.2.1, x.2.2.2.1.2.2.2.2.2.2.1, x.2.2.2.1.2.2.2.2.2.2.2.1, x.2.2.2.1.2.2.2.2.2.2.2.2.1, x.2.2.2.1.2.2.2.2.2.2.2.2.2.1, x.2.2.2.1.2.2.2.2.2.2.2.2.2.2.1, x.2.2.2.1.2.2.2.2.2.2.2.2.2.2.2.1, x.2.2.2.1.2.2.2.2.2.2.2.2.2.2.2.2.1, x.2.2.2.1.2.2.2.2.2.2.2.2.2.2.2.2.2.1) (x.2.2.2.2.1.1, x.2.2.2.2.1.2.1, x.2.2.2.2.1.2.2.1, x.2.2.2.2.1.2.2.2.1, x.2.2.2.2.1.2.2.2.2.1, x.2.2.2.2.1.2.2.2.2.2.1, x.2.2.2.2.1.2.2.2.2.2.2.1))
end
section
variable {α : Type} (y_ : Int) (x_ : Int) (c_ : Int) (c3_ : pane) (c4_ : pane) (c5_ : Node) (y672 : (Int × Int)) (k : St → Option α)
noncomputable abbrev C65 := Q0r E.P 89
noncomputable abbrev P65 := @preK α E 89 cp61 ce4
def b0x : Option (Int × Int) := (Option.bind (a0j c3_ y_ x_ c_) (fun y670 : Int => (Option.bind (a0j c4_ y_ x_ c_) (fun y671 : Int => (some (y670, y671))))))
abbrev S65_0 : St := ⟨[(5, rC a01 c5_), (10, ri y672.1), (11, ri y672.2)], [], [], 45⟩
theorem c9g : P65 2 C65 ⟨[(0, ri y_), (1, ri x_), (2, ri c_), (3, rC a04 c3_), (4, rC a04 c4_), (5, rC a01 c5_)], [], [], 45⟩ k = Option.bind (b0x y_ x_ c_ c3_ c4_) (fun y672 : (Int × Int) => k (S65_0 c5_ y672)) := .trans (by kernel_rfl) (Q0d fun y670 => (Q0d fun y671 => Q0b))
theorem b5v : P65 1 C65.r.r.l (S65_0 c5_ y672) k = k ⟨[(5, rC a01 c5_), (10, ri y672.1), (11, ri y672.2), (24, rb (c5_.1 == 7))], [], [], 45⟩ := by kernel_rfl
theorem c9h : P65 1 C65.r.r.l.r.t (S65_0 c5_ y672) k = Option.bind (a1a (IntKind.wrap .i64 (y672.1 * y672.2)) c5_.2.2.2.2.2.2.1 c5_.2.2.2.2.2.2.2.1 c5_.2.2.2.2.2.2.2.2.1) fun y674 : Int => k ⟨[(9, ri y674)], [], [], 45⟩ := by kernel_rfl
theorem c9i : P65 1 C65.r.r.r (S65_0 c5_ y672) k = Option.bind (a1a (IntKind.wrap .i64 (y672.1 + y672.2)) c5_.2.2.2.2.2.2.1 c5_.2.2.2.2.2.2.2.1 c5_.2.2.2.2.2.2.2.2.1) fun y675 : Int => k ⟨[(9, ri y675)], [], [], 45⟩ := by kernel_rfl
def b36 : Option Int := (Option.bind (b0x y_ x_ c_ c3_ c4_) (fun y672 : (Int × Int) => (bif (c5_.1 == 7) then (Option.bind (a1a (IntKind.wrap .i64 (y672.1 * y672.2)) c5_.2.2.2.2.2.2.1 c5_.2.2.2.2.2.2.2.1 c5_.2.2.2.2.2.2.2.2.1) (fun y674 : Int => (some y674))) else (Option.bind (a1a (IntKind.wrap .i64 (y672.1 + y672.2)) c5_.2.2.2.2.2.2.1 c5_.2.2.2.2.2.2.2.1 c5_.2.2.2.2.2.2.2.2.1) (fun y675 : Int => (some y675))))))
theorem c9f : Q2j E cp61 ce4 89 [ri y_, ri x_, ri c_, rC a04 c3_, rC a04 c4_, rC a01 c5_] = Option.bind (b36 y_ x_ c_ c3_ c4_ c5_) (fun y : Int => some (ri y : R)) := by
  refine .trans ?_ (Q0d fun y672 => (Q2b (Q0d fun y674 => Q0b) (Q0d fun y675 => Q0b)))
  refine (Q0l (nt := 45) (regs := [(0, ri y_), (1, ri x_), (2, ri c_), (3, rC a04 c3_), (4, rC a04 c4_), (5, rC a01 c5_)])).trans ?_
  refine (pre2 (c9g y_ x_ c_ c3_ c4_ c5_ _)).trans (Q0e fun y672 => ?_)
  refine .trans Q0c ?_
  refine (Q2d (b5v c5_ y672 _)).trans ?_
  refine (Q0m (b := (c5_.1 == 7)) (st' := (S65_0 c5_ y672)) ).trans (Q2f ?_ ?_)
  · refine (Q2d (c9h c5_ y672 _)).trans (Q0e fun y674 => ?_)
    refine (Q0h).trans ?_
    refine Q0k.trans ?_
    kernel_rfl
  · refine (Q0i).trans ?_
    refine (Q0a (st' := (S65_0 c5_ y672))).trans ?_
    refine (Q2d (c9i c5_ y672 _)).trans (Q0e fun y675 => ?_)
    refine (Q0h).trans ?_
    kernel_rfl
noncomputable def cp62 : Q2g := Q2i cp61 89 [pI, pI, pI, (.one (.cell (.cons (.g (.int .i64)) (.cons (.g (.int .i64)) (.cons (.g (.int .i64)) (.cons (.g (.int .i64)) (.cons (.g (.int .i64)) (.cons (.g (.int .i64)) (.cons (.g (.sl (.one (.int .i8)))) .nil))))))))), (.one (.cell (.cons (.g (.int .i64)) (.cons (.g (.int .i64)) (.cons (.g (.int .i64)) (.cons (.g (.int .i64)) (.cons (.g (.int .i64)) (.cons (.g (.int .i64)) (.cons (.g (.sl (.one (.int .i8)))) .nil))))))))), (.one (.cell (.cons (.g (.int .i64)) (.cons (.g (.sl (.one (.int .i64)))) (.cons (.g (.int .i64)) (.cons (.g (.int .i64)) (.cons (.g (.int .i64)) (.cons (.g (.int .i64)) (.cons (.g (.int .i64)) (.cons (.g (.int .i64)) (.cons (.g (.int .i64)) (.cons (.g (.int .i64)) (.cons (.g (.int .i64)) (.cons (.g (.int .i64)) (.cons (.g (.sl (.one (.int .i8)))) (.cons (.g (.sl (.one (.int .i32)))) .nil))))))))))))))))] (.one pI) (fun y : Int => y) (fun x => b36 x.1 x.2.1 x.2.2.1 (x.2.2.2.1.1, x.2.2.2.1.2.1, x.2.2.2.1.2.2.1, x.2.2.2.1.2.2.2.1, x.2.2.2.1.2.2.2.2.1, x.2.2.2.1.2.2.2.2.2.1, x.2.2.2.1.2.2.2.2.2.2.1) (x.2.2.2.2.1.1, x.2.2.2.2.1.2.1, x.2.2.2.2.1.2.2.1, x.2.2.2.2.1.2.2.2.1, x.2.2.2.2.1.2.2.2.2.1, x.2.2.2.2.1.2.2.2.2.2.1, x.2.2.2.2.1.2.2.2.2.2.2.1) (x.2.2.2.2.2.1.1, x.2.2.2.2.2.1.2.1, x.2.2.2.2.2.1.2.2.1, x.2.2.2.2.2.1.2.2.2.1, x.2.2.2.2.2.1.2.2.2.2.1, x.2.2.2.2.2.1.2.2.2.2.2.1, x.2.2.2.2.2.1.2.2.2.2.2.2.1, x.2.2.2.2.2.1.2.2.2.2.2.2.2.1, x.2.2.2.2.2.1.2.2.2.2.2.2.2.2.1, x.2.2.2.2.2.1.2.2.2.2.2.2.2.2.2.1, x.2.2.2.2.2.1.2.2.2.2.2.2.2.2.2.2.1, x.2.2.2.2.2.1.2.2.2.2.2.2.2.2.2.2.2.1, x.2.2.2.2.2.1.2.2.2.2.2.2.2.2.2.2.2.2.1, x.2.2.2.2.2.1.2.2.2.2.2.2.2.2.2.2.2.2.2.1))
theorem e3v : Q0p E cp62 := conS eok e3u a0r fun x => Eq.mp (by kernel_rfl) (c9f x.1 x.2.1 x.2.2.1 (x.2.2.2.1.1, x.2.2.2.1.2.1, x.2.2.2.1.2.2.1, x.2.2.2.1.2.2.2.1, x.2.2.2.1.2.2.2.2.1, x.2.2.2.1.2.2.2.2.2.1, x.2.2.2.1.2.2.2.2.2.2.1) (x.2.2.2.2.1.1, x.2.2.2.2.1.2.1, x.2.2.2.2.1.2.2.1, x.2.2.2.2.1.2.2.2.1, x.2.2.2.2.1.2.2.2.2.1, x.2.2.2.2.1.2.2.2.2.2.1, x.2.2.2.2.1.2.2.2.2.2.2.1) (x.2.2.2.2.2.1.1, x.2.2.2.2.2.1.2.1, x.2.2.2.2.2.1.2.2.1, x.2.2.2.2.2.1.2.2.2.1, x.2.2.2.2.2.1.2.2.2.2.1, x.2.2.2.2.2.1.2.2.2.2.2.1, x.2.2.2.2.2.1.2.2.2.2.2.2.1, x.2.2.2.2.2.1.2.2.2.2.2.2.2.1, x.2.2.2.2.2.1.2.2.2.2.2.2.2.2.1, x.2.2.2.2.2.1.2.2.2.2.2.2.2.2.2.1, x.2.2.2.2.2.1.2.2.2.2.2.2.2.2.2.2.1, x.2.2.2.2.2.1.2.2.2.2.2.2.2.2.2.2.2.1, x.2.2.2.2.2.1.2.2.2.2.2.2.2.2.2.2.2.2.1, x.2.2.2.2.2.1.2.2.2.2.2.2.2.2.2.2.2.2.2.1))
end
section
variable {α β : Type} (n_ : Node) (in_ : (List I4)) (w_ : A6) (r_ : Int) (y357 : (I4 × Int)) (s454 : U8) (y478 : (Int × Int × Int × Int × Int × Int × (List Int) × Int × Int × Int × Int × Int × Int × (List Int))) (y479 : U8) (y481 : (I4 × Int)) (y506 : U26) (s1135 : ((List Int) × Int)) (s1254 : ((List Int) × Int)) (y1292 : (List Int)) (y1293 : ((List Int) × Int)) (y1294 : ((List Int) × Int)) (k : St → Option α) (q : Kont α)
noncomputable abbrev C66 := Q0r E.P 32
noncomputable abbrev P66 := @preK α E 32 cp62 ce4
noncomputable abbrev R66 := @Q0o α E 32 cp62 ce4
abbrev S66_0 : St := ⟨[(1, rl Q2n in_), (3, ri r_), (4, rC a01 n_), (6, rC tsA6 w_), (10, rF 0), (11, ri y357.2)], [(Q2n.leaves y357.1)], [], 89⟩
theorem d97 : P66 2 C66 ⟨[(0, rA a01 n_), (1, rl Q2n in_), (2, rA tsA6 w_), (3, ri r_)], [], [], 89⟩ k = Option.bind (a9y n_ in_ r_ (1 : Int)) fun y357 : (I4 × Int) => k (S66_0 n_ in_ w_ r_ y357) := by kernel_rfl
theorem c23 : P66 1 C66.r.r.l (S66_0 n_ in_ w_ r_ y357) k = k ⟨[(1, rl Q2n in_), (3, ri r_), (4, rC a01 n_), (6, rC tsA6 w_), (10, rF 0), (11, ri y357.2), (29, rb (y357.2 != 0))], [(Q2n.leaves y357.1)], [], 89⟩ := by kernel_rfl
theorem d94 : P66 1 C66.r.r.l.r.t (S66_0 n_ in_ w_ r_ y357) k = k ⟨[(8, .one (.ow (.one (.int .i8)) [] (.v 8))), (9, ri y357.2)], [[]], [], 89⟩ := by kernel_rfl
abbrev S66_1 : St := ⟨[(1, rl Q2n in_), (3, ri r_), (4, rC a01 n_), (6, rC tsA6 w_), (10, rF 0)], [(Q2n.leaves y357.1)], [], 89⟩
abbrev S66_2 : St := ⟨[(1, rl Q2n in_), (3, ri r_), (4, rC a01 n_), (6, rC tsA6 w_), (10, rF 0), (12, rF 1)], [(Q2n.leaves y357.1), [di 0, di 0, di 0, di 0, di 0, di 0, dl (.one (.int .i8)) [], di 0, di 0, di 0, di 0, di 0, di 0, dl (.one (.int .i8)) []]], [], 89⟩
theorem d92 : P66 1 C66.r.r.r (S66_1 n_ in_ w_ r_ y357) k = k (S66_2 n_ in_ w_ r_ y357) := by kernel_rfl
abbrev S66_3 : St := ⟨[(1, rl Q2n in_), (3, ri r_), (4, rC a01 n_), (6, rC tsA6 w_), (10, rF 0), (12, rF 1), (31, rl Q2n in_), (32, ri (in_.length : Int)), (33, ri 0)], [(Q2n.leaves y357.1), [di 0, di 0, di 0, di 0, di 0, di 0, dl (.one (.int .i8)) [], di 0, di 0, di 0, di 0, di 0, di 0, dl (.one (.int .i8)) []]], [], 89⟩
theorem d93 : P66 1 C66.r.r.r.r.l (S66_2 n_ in_ w_ r_ y357) k = k (S66_3 n_ in_ w_ r_ y357) := by kernel_rfl
abbrev S66_4 : St := ⟨[(1, rl Q2n in_), (3, ri r_), (4, rC a01 n_), (6, rC tsA6 w_), (10, rF 0), (12, rF 1), (31, rl Q2n in_), (32, ri (in_.length : Int)), (33, ri s454.1)], [(Q2n.leaves y357.1), (tsA9.leaves s454.2)], [], 89⟩
theorem d2f : P66 1 C66.r.r.r.r.l.r.b.b (S66_4 n_ in_ w_ r_ y357 s454) k = k ⟨[(1, rl Q2n in_), (3, ri r_), (4, rC a01 n_), (6, rC tsA6 w_), (10, rF 0), (12, rF 1), (31, rl Q2n in_), (32, ri (in_.length : Int)), (33, ri s454.1), (34, rb (decide (s454.1 < (in_.length : Int))))], [(Q2n.leaves y357.1), (tsA9.leaves s454.2)], [], 89⟩ := by kernel_rfl
def b7z : Option Unit := (bif (decide ((0 : Int) ≤ s454.1)) then (bif (decide (s454.1 < (in_.length : Int))) then (some ()) else none) else none)
abbrev S66_5 : St := ⟨[(1, rl Q2n in_), (3, ri r_), (4, rC a01 n_), (6, rC tsA6 w_), (10, rF 0), (12, rF 1), (13, ri s454.1), (14, rF 2), (31, rl Q2n in_), (32, ri (in_.length : Int)), (33, ri s454.1)], [(Q2n.leaves y357.1), (tsA9.leaves s454.2), (Q2n.leaves (gt in_ s454.1 dI4))], [], 89⟩
theorem d98 : P66 1 C66.r.r.r.r.l.r.b.b.r.r.l.b (S66_4 n_ in_ w_ r_ y357 s454) k = Option.bind (b7z in_ s454) (fun y467 : Unit => k (S66_5 n_ in_ w_ r_ y357 s454)) := .trans (by kernel_rfl) (Q2b (Q2b Q0b Q0n) Q0n)
def b80 : Option Bool := (bif (s454.1 == 0) then (bif (s454.1 == 0) then (Option.bind (a6b (gt in_ s454.1 dI4) (w_.1, w_.2.1, w_.2.2.1) (y357.1.1, y357.1.2.1)) (fun y473 : Bool => (some (!y473)))) else (bif (s454.1 == 1) then (Option.bind (a6b (gt in_ s454.1 dI4) (w_.1, w_.2.1, w_.2.2.1) y357.1.2.2) (fun y474 : Bool => (some (!y474)))) else none)) else (bif (s454.1 == 1) then (bif (s454.1 == 0) then (Option.bind (a6b (gt in_ s454.1 dI4) w_.2.2.2 (y357.1.1, y357.1.2.1)) (fun y475 : Bool => (some (!y475)))) else (bif (s454.1 == 1) then (Option.bind (a6b (gt in_ s454.1 dI4) w_.2.2.2 y357.1.2.2) (fun y476 : Bool => (some (!y476)))) else none)) else none))
theorem d99 : P66 1 C66.r.r.r.r.l.r.b.b.r.r.l.b.r.l (S66_5 n_ in_ w_ r_ y357 s454) k = Option.bind (b80 in_ w_ y357 s454) (fun y477 : Bool => k ⟨[(1, rl Q2n in_), (3, ri r_), (4, rC a01 n_), (6, rC tsA6 w_), (10, rF 0), (12, rF 1), (13, ri s454.1), (14, rF 2), (31, rl Q2n in_), (32, ri (in_.length : Int)), (33, ri s454.1), (46, rb y477)], [(Q2n.leaves y357.1), (tsA9.leaves s454.2), (Q2n.leaves (gt in_ s454.1 dI4))], [], 89⟩) := .trans (by kernel_rfl) (Q2b (Q2b (Q0d fun y473 => Q0b) (Q2b (Q0d fun y474 => Q0b) Q0n)) (Q2b (Q2b (Q0d fun y475 => Q0b) (Q2b (Q0d fun y476 => Q0b) Q0n)) Q0n))
abbrev S66_6 : St := ⟨[(8, .one (.ow (.one (.int .i8)) [] (.v 8))), (9, ri 1)], [[], [], []], [], 89⟩
theorem d2g : P66 1 C66.r.r.r.r.l.r.b.b.r.r.l.b.r.l.r.t (S66_5 n_ in_ w_ r_ y357 s454) k = k S66_6 := by kernel_rfl
def b4h : Option (Int × Int × Int × Int × Int × Int × (List Int) × Int × Int × Int × Int × Int × Int × (List Int)) := (bif (s454.1 == 0) then (bif (s454.1 == 0) then (some ((gt in_ s454.1 dI4).1, (gt in_ s454.1 dI4).2.1, (gt in_ s454.1 dI4).2.2.1, (gt in_ s454.1 dI4).2.2.2, w_.1, w_.2.1, w_.2.2.1, s454.2.2.2.2.2.2.2.2.1, s454.2.2.2.2.2.2.2.2.2.1, s454.2.2.2.2.2.2.2.2.2.2.1, s454.2.2.2.2.2.2.2.2.2.2.2.1, s454.2.2.2.2.2.2.2.2.2.2.2.2.1, s454.2.2.2.2.2.2.2.2.2.2.2.2.2.1, s454.2.2.2.2.2.2.2.2.2.2.2.2.2.2)) else (bif (s454.1 == 1) then (some (s454.2.1, s454.2.2.1, s454.2.2.2.1, s454.2.2.2.2.1, s454.2.2.2.2.2.1, s454.2.2.2.2.2.2.1, s454.2.2.2.2.2.2.2.1, (gt in_ s454.1 dI4).1, (gt in_ s454.1 dI4).2.1, (gt in_ s454.1 dI4).2.2.1, (gt in_ s454.1 dI4).2.2.2, w_.1, w_.2.1, w_.2.2.1)) else none)) else (bif (s454.1 == 1) then (bif (s454.1 == 0) then (some ((gt in_ s454.1 dI4).1, (gt in_ s454.1 dI4).2.1, (gt in_ s454.1 dI4).2.2.1, (gt in_ s454.1 dI4).2.2.2, w_.2.2.2.1, w_.2.2.2.2.1, w_.2.2.2.2.2, s454.2.2.2.2.2.2.2.2.1, s454.2.2.2.2.2.2.2.2.2.1, s454.2.2.2.2.2.2.2.2.2.2.1, s454.2.2.2.2.2.2.2.2.2.2.2.1, s454.2.2.2.2.2.2.2.2.2.2.2.2.1, s454.2.2.2.2.2.2.2.2.2.2.2.2.2.1, s454.2.2.2.2.2.2.2.2.2.2.2.2.2.2)) else (bif (s454.1 == 1) then (some (s454.2.1, s454.2.2.1, s454.2.2.2.1, s454.2.2.2.2.1, s454.2.2.2.2.2.1, s454.2.2.2.2.2.2.1, s454.2.2.2.2.2.2.2.1, (gt in_ s454.1 dI4).1, (gt in_ s454.1 dI4).2.1, (gt in_ s454.1 dI4).2.2.1, (gt in_ s454.1 dI4).2.2.2, w_.2.2.2.1, w_.2.2.2.2.1, w_.2.2.2.2.2)) else none)) else none))
abbrev S66_7 : St := ⟨[(1, rl Q2n in_), (3, ri r_), (4, rC a01 n_), (6, rC tsA6 w_), (10, rF 0), (12, rF 1), (31, rl Q2n in_), (32, ri (in_.length : Int)), (33, ri s454.1)], [(Q2n.leaves y357.1), (tsA9.leaves y478), []], [], 89⟩
theorem d6t : R66 C66.r.r.r.r.l.r.b.b.r.r.l.b.r.r (S66_5 n_ in_ w_ r_ y357 s454) q = Option.bind (b4h in_ w_ s454) (fun y478 : (Int × Int × Int × Int × Int × Int × (List Int) × Int × Int × Int × Int × Int × Int × (List Int)) => q .normal (S66_7 n_ in_ w_ r_ y357 s454 y478)) := .trans (by kernel_rfl) (Q2b (Q2b Q0b (Q2b Q0b Q0n)) (Q2b (Q2b Q0b (Q2b Q0b Q0n)) Q0n))
theorem d6u : R66 C66.r.r.r.r.l.r.b.b.r.r.r (S66_7 n_ in_ w_ r_ y357 s454 y478) q = q .normal ⟨[(1, rl Q2n in_), (3, ri r_), (4, rC a01 n_), (6, rC tsA6 w_), (10, rF 0), (12, rF 1), (31, rl Q2n in_), (32, ri (in_.length : Int)), (33, ri (IntKind.wrap .i64 (s454.1 + 1)))], [(Q2n.leaves y357.1), (tsA9.leaves y478), []], [], 89⟩ := by kernel_rfl
def a95 : Option (U8 ⊕ (U8 ⊕ Unit)) := (bif (decide (s454.1 < (in_.length : Int))) then (Option.bind (b7z in_ s454) (fun y467 : Unit => (Option.bind (b80 in_ w_ y357 s454) (fun y477 : Bool => (bif y477 then (some (Sum.inr (Sum.inr ()))) else (Option.bind (b4h in_ w_ s454) (fun y478 : (Int × Int × Int × Int × Int × Int × (List Int) × Int × Int × Int × Int × Int × Int × (List Int)) => (some (Sum.inl ((IntKind.wrap .i64 (s454.1 + 1)), y478.1, y478.2.1, y478.2.2.1, y478.2.2.2.1, y478.2.2.2.2.1, y478.2.2.2.2.2.1, y478.2.2.2.2.2.2.1, y478.2.2.2.2.2.2.2.1, y478.2.2.2.2.2.2.2.2.1, y478.2.2.2.2.2.2.2.2.2.1, y478.2.2.2.2.2.2.2.2.2.2.1, y478.2.2.2.2.2.2.2.2.2.2.2.1, y478.2.2.2.2.2.2.2.2.2.2.2.2.1, y478.2.2.2.2.2.2.2.2.2.2.2.2.2)))))))))) else (some (Sum.inr (Sum.inl s454))))
abbrev S66_8 : St := ⟨[(1, rl Q2n in_), (3, ri r_), (4, rC a01 n_), (6, rC tsA6 w_), (10, rF 0), (12, rF 1), (31, rl Q2n in_), (32, ri (in_.length : Int)), (33, ri y479.1)], [(Q2n.leaves y357.1), (tsA9.leaves y479.2)], [], 89⟩
theorem d2k : R66 C66.r.r.r.r.l.r.b.b (S66_4 n_ in_ w_ r_ y357 s454) (Q0w 2 q) = Option.bind (a95 in_ w_ y357 s454) (Q1z (fun y : U8 => q .normal ⟨[(1, rl Q2n in_), (3, ri r_), (4, rC a01 n_), (6, rC tsA6 w_), (10, rF 0), (12, rF 1), (31, rl Q2n in_), (32, ri (in_.length : Int)), (33, ri y.1)], [(Q2n.leaves y357.1), (tsA9.leaves y.2)], [], 89⟩) (Q1z (fun y479 : U8 => q (.exit 0) (S66_8 n_ in_ w_ r_ y357 y479)) (fun y480 : Unit => q .ret S66_6))) := by
  refine .trans ?_ (Q2b (Q0d fun y467 => (Q0d fun y477 => (Q2b e3_2 (Q0d fun y478 => e3_0)))) e3_1)
  refine (Q2d (d2f n_ in_ w_ r_ y357 s454 _)).trans ?_
  refine .trans Q0c ?_
  refine (Q0m (b := (decide (s454.1 < (in_.length : Int)))) (st' := (S66_4 n_ in_ w_ r_ y357 s454)) ).trans (Q2f ?_ ?_)
  · refine (Q0i).trans ?_
    refine (Q0a (st' := (S66_4 n_ in_ w_ r_ y357 s454))).trans ?_
    refine .trans Q0c ?_
    refine (Q0j (id := 1)).trans ?_
    refine (Q2d (d98 n_ in_ w_ r_ y357 s454 _)).trans (Q0e fun y467 => ?_)
    refine .trans Q0c ?_
    refine (Q2d (d99 n_ in_ w_ r_ y357 s454 _)).trans (Q0e fun y477 => ?_)
    refine (Q0m (b := y477) (st' := (S66_5 n_ in_ w_ r_ y357 s454)) ).trans (Q2f ?_ ?_)
    · refine (Q2d (d2g n_ in_ w_ r_ y357 s454 _)).trans ?_
      refine (Q0h).trans ?_
      refine Q0k.trans ?_
      refine Q0t.trans ?_
      refine Q0k.trans ?_
      kernel_rfl
    · refine (Q0i).trans ?_
      refine (Q0a (st' := (S66_5 n_ in_ w_ r_ y357 s454))).trans ?_
      refine (d6t n_ in_ w_ r_ y357 s454 _).trans (Q0e fun y478 => ?_)
      refine Q0f.trans ?_
      refine (Q0a (st' := (S66_7 n_ in_ w_ r_ y357 s454 y478))).trans ?_
      refine (d6u n_ in_ w_ r_ y357 s454 y478 _).trans ?_
      kernel_rfl
  · refine ((Q1f (j := 0))).trans ?_
    refine Q0v.trans ?_
    kernel_rfl
theorem d96 : R66 C66.r.r.r.r.l.r.b (S66_3 n_ in_ w_ r_ y357) q = Option.bind (iterN (a95 in_ w_ y357) LL ((0 : Int), (0 : Int), (0 : Int), (0 : Int), (0 : Int), (0 : Int), (0 : Int), [], (0 : Int), (0 : Int), (0 : Int), (0 : Int), (0 : Int), (0 : Int), [])) (Q1z (fun y479 : U8 => q (.exit 0) (S66_8 n_ in_ w_ r_ y357 y479)) (fun y480 : Unit => q .ret S66_6)) :=
  Eq.trans (by kernel_rfl) (loop_iter2 (S := fun s454 : U8 => (S66_4 n_ in_ w_ r_ y357 s454)) (Y1 := fun y479 : U8 => ((.exit 0), (S66_8 n_ in_ w_ r_ y357 y479))) (Y2 := fun y480 : Unit => (.ret, S66_6)) (fun s q => d2k n_ in_ w_ r_ y357 s q) (fun z => rfl) (fun z => rfl) LL ((0 : Int), (0 : Int), (0 : Int), (0 : Int), (0 : Int), (0 : Int), (0 : Int), [], (0 : Int), (0 : Int), (0 : Int), (0 : Int), (0 : Int), (0 : Int), []))
abbrev S66_9 : St := ⟨[(1, rl Q2n in_), (3, ri r_), (4, rC a01 n_), (12, rF 1)], [(Q2n.leaves y357.1), (tsA9.leaves y479.2)], [], 89⟩
abbrev e01 : St := ⟨[(3, ri r_), (4, rC a01 n_), (12, rF 1), (15, rF 2)], [(Q2n.leaves y357.1), (tsA9.leaves y479.2), (Q2n.leaves y481.1)], [], 89⟩
theorem d6v : P66 1 C66.r.r.r.r.r (S66_9 n_ in_ r_ y357 y479) k = Option.bind (a1z n_ in_) fun y481 : (I4 × Int) => k (e01 n_ r_ y357 y479 y481) := by kernel_rfl
def b4i (K : U26 → β) : β := ((Q1z (fun u496 : U13 => (K (Sum.inl ((u496.1.1, u496.1.2.1, u496.1.2.2.1, u496.1.2.2.2.1, u496.1.2.2.2.2.1, u496.1.2.2.2.2.2.1, u496.1.2.2.2.2.2.2.1, ()), (u496.2.1.1, u496.2.1.2.1, u496.2.1.2.2.1, u496.2.1.2.2.2.1, u496.2.1.2.2.2.2.1, u496.2.1.2.2.2.2.2.1, u496.2.1.2.2.2.2.2.2.1, u496.2.1.2.2.2.2.2.2.2.1, u496.2.1.2.2.2.2.2.2.2.2.1, u496.2.1.2.2.2.2.2.2.2.2.2.1, u496.2.1.2.2.2.2.2.2.2.2.2.2.1, u496.2.1.2.2.2.2.2.2.2.2.2.2.2.1, u496.2.1.2.2.2.2.2.2.2.2.2.2.2.2.1, u496.2.1.2.2.2.2.2.2.2.2.2.2.2.2.2.1, ()), ())))) (Q1z (fun u497 : U4 => (K (Sum.inr (Sum.inl ((u497.1.1, u497.1.2.1, u497.1.2.2.1, u497.1.2.2.2.1, u497.1.2.2.2.2.1, u497.1.2.2.2.2.2.1, u497.1.2.2.2.2.2.2.1, ()), ()))))) (Q1z (fun u498 : U12 => (K (Sum.inr (Sum.inr (Sum.inl ((u498.1.1, u498.1.2.1, u498.1.2.2.1, u498.1.2.2.2.1, u498.1.2.2.2.2.1, u498.1.2.2.2.2.2.1, u498.1.2.2.2.2.2.2.1, ()), (u498.2.1.1, u498.2.1.2.1, u498.2.1.2.2.1, u498.2.1.2.2.2.1, u498.2.1.2.2.2.2.1, u498.2.1.2.2.2.2.2.1, u498.2.1.2.2.2.2.2.2.1, u498.2.1.2.2.2.2.2.2.2.1, u498.2.1.2.2.2.2.2.2.2.2.1, u498.2.1.2.2.2.2.2.2.2.2.2.1, u498.2.1.2.2.2.2.2.2.2.2.2.2.1, u498.2.1.2.2.2.2.2.2.2.2.2.2.2.1, u498.2.1.2.2.2.2.2.2.2.2.2.2.2.2.1, u498.2.1.2.2.2.2.2.2.2.2.2.2.2.2.2.1, ()), ())))))) (Q1z (fun u499 : U7 => (K (Sum.inr (Sum.inr (Sum.inr (Sum.inl ((u499.1.1, u499.1.2.1, u499.1.2.2.1, u499.1.2.2.2.1, u499.1.2.2.2.2.1, u499.1.2.2.2.2.2.1, u499.1.2.2.2.2.2.2.1, ()), (u499.2.1.1, u499.2.1.2.1, u499.2.1.2.2.1, u499.2.1.2.2.2.1, ()), ()))))))) (Q1z (fun u500 : U14 => (K (Sum.inr (Sum.inr (Sum.inr (Sum.inr (Sum.inl ((u500.1.1, u500.1.2.1, u500.1.2.2.1, u500.1.2.2.2.1, u500.1.2.2.2.2.1, u500.1.2.2.2.2.2.1, u500.1.2.2.2.2.2.2.1, u500.1.2.2.2.2.2.2.2.1, u500.1.2.2.2.2.2.2.2.2.1, u500.1.2.2.2.2.2.2.2.2.2.1, u500.1.2.2.2.2.2.2.2.2.2.2.1, u500.1.2.2.2.2.2.2.2.2.2.2.2.1, u500.1.2.2.2.2.2.2.2.2.2.2.2.2.1, u500.1.2.2.2.2.2.2.2.2.2.2.2.2.2.1, ()), (u500.2.1.1, u500.2.1.2.1, u500.2.1.2.2.1, u500.2.1.2.2.2.1, u500.2.1.2.2.2.2.1, u500.2.1.2.2.2.2.2.1, u500.2.1.2.2.2.2.2.2.1, ()), ())))))))) (Q1z (fun u501 : U14 => (K (Sum.inr (Sum.inr (Sum.inr (Sum.inr (Sum.inr (Sum.inl ((u501.1.1, u501.1.2.1, u501.1.2.2.1, u501.1.2.2.2.1, u501.1.2.2.2.2.1, u501.1.2.2.2.2.2.1, u501.1.2.2.2.2.2.2.1, u501.1.2.2.2.2.2.2.2.1, u501.1.2.2.2.2.2.2.2.2.1, u501.1.2.2.2.2.2.2.2.2.2.1, u501.1.2.2.2.2.2.2.2.2.2.2.1, u501.1.2.2.2.2.2.2.2.2.2.2.2.1, u501.1.2.2.2.2.2.2.2.2.2.2.2.2.1, u501.1.2.2.2.2.2.2.2.2.2.2.2.2.2.1, ()), (u501.2.1.1, u501.2.1.2.1, u501.2.1.2.2.1, u501.2.1.2.2.2.1, u501.2.1.2.2.2.2.1, u501.2.1.2.2.2.2.2.1, u501.2.1.2.2.2.2.2.2.1, ()), ()))))))))) (Q1z (fun u502 : U14 => (K (Sum.inr (Sum.inr (Sum.inr (Sum.inr (Sum.inr (Sum.inr (Sum.inl ((u502.1.1, u502.1.2.1, u502.1.2.2.1, u502.1.2.2.2.1, u502.1.2.2.2.2.1, u502.1.2.2.2.2.2.1, u502.1.2.2.2.2.2.2.1, u502.1.2.2.2.2.2.2.2.1, u502.1.2.2.2.2.2.2.2.2.1, u502.1.2.2.2.2.2.2.2.2.2.1, u502.1.2.2.2.2.2.2.2.2.2.2.1, u502.1.2.2.2.2.2.2.2.2.2.2.2.1, u502.1.2.2.2.2.2.2.2.2.2.2.2.2.1, u502.1.2.2.2.2.2.2.2.2.2.2.2.2.2.1, ()), (u502.2.1.1, u502.2.1.2.1, u502.2.1.2.2.1, u502.2.1.2.2.2.1, u502.2.1.2.2.2.2.1, u502.2.1.2.2.2.2.2.1, u502.2.1.2.2.2.2.2.2.1, ()), ())))))))))) (Q1z (fun u503 : U14 => (K (Sum.inr (Sum.inr (Sum.inr (Sum.inr (Sum.inr (Sum.inr (Sum.inr (Sum.inl ((u503.1.1, u503.1.2.1, u503.1.2.2.1, u503.1.2.2.2.1, u503.1.2.2.2.2.1, u503.1.2.2.2.2.2.1, u503.1.2.2.2.2.2.2.1, u503.1.2.2.2.2.2.2.2.1, u503.1.2.2.2.2.2.2.2.2.1, u503.1.2.2.2.2.2.2.2.2.2.1, u503.1.2.2.2.2.2.2.2.2.2.2.1, u503.1.2.2.2.2.2.2.2.2.2.2.2.1, u503.1.2.2.2.2.2.2.2.2.2.2.2.2.1, u503.1.2.2.2.2.2.2.2.2.2.2.2.2.2.1, ()), (u503.2.1.1, u503.2.1.2.1, u503.2.1.2.2.1, u503.2.1.2.2.2.1, u503.2.1.2.2.2.2.1, u503.2.1.2.2.2.2.2.1, u503.2.1.2.2.2.2.2.2.1, ()), ()))))))))))) (fun u504 : U18 => (K (Sum.inr (Sum.inr (Sum.inr (Sum.inr (Sum.inr (Sum.inr (Sum.inr (Sum.inr ((u504.1.1, u504.1.2.1, u504.1.2.2.1, u504.1.2.2.2.1, u504.1.2.2.2.2.1, u504.1.2.2.2.2.2.1, u504.1.2.2.2.2.2.2.1, ()), (u504.2.1.1, u504.2.1.2.1, u504.2.1.2.2.1, u504.2.1.2.2.2.1, u504.2.1.2.2.2.2.1, u504.2.1.2.2.2.2.2.1, u504.2.1.2.2.2.2.2.2.1, ()), (u504.2.2.1.1, u504.2.2.1.2.1, u504.2.2.1.2.2.1, u504.2.2.1.2.2.2.1, u504.2.2.1.2.2.2.2.1, u504.2.2.1.2.2.2.2.2.1, u504.2.2.1.2.2.2.2.2.2.1, u504.2.2.1.2.2.2.2.2.2.2.1, u504.2.2.1.2.2.2.2.2.2.2.2.1, u504.2.2.1.2.2.2.2.2.2.2.2.2.1, u504.2.2.1.2.2.2.2.2.2.2.2.2.2.1, u504.2.2.1.2.2.2.2.2.2.2.2.2.2.2.1, u504.2.2.1.2.2.2.2.2.2.2.2.2.2.2.2.1, u504.2.2.1.2.2.2.2.2.2.2.2.2.2.2.2.2.1, ()), ()))))))))))))))))))) (a8y n_ y481.1 y479.2))
def a8d : U26 := b4i n_ y479 y481 (fun y => y)
theorem c8g (K : U26 → β) : b4i n_ y479 y481 K = K (a8d n_ y479 y481) := ((either_k (K := K) (fun u496 => rfl) (either_k (K := K) (fun u497 => rfl) (either_k (K := K) (fun u498 => rfl) (either_k (K := K) (fun u499 => rfl) (either_k (K := K) (fun u500 => rfl) (either_k (K := K) (fun u501 => rfl) (either_k (K := K) (fun u502 => rfl) (either_k (K := K) (fun u503 => rfl) (fun u504 => rfl))))))))) (a8y n_ y481.1 y479.2))
abbrev e02 : St := ⟨[(3, ri r_), (15, rF 2), (17, .one (Ps.enc Z9 y506))], [(Q2n.leaves y357.1), [], (Q2n.leaves y481.1)], [], 89⟩
theorem d6w : P66 1 C66.r.r.r.r.r.r (e01 n_ r_ y357 y479 y481) k = Option.bind (some (a8d n_ y479 y481)) (fun y506 : U26 => k (e02 r_ y357 y481 y506)) := Eq.trans (by kernel_rfl) (c8g n_ y479 y481 (fun y505 : U26 => k ⟨[(3, ri r_), (15, rF 2), (17, .one (Ps.enc Z9 y505))], [(Q2n.leaves y357.1), [], (Q2n.leaves y481.1)], [], 89⟩))
abbrev e03 : St := ⟨[(3, ri r_), (15, rF 2), (17, .one (Ps.enc Z9 y506)), (18, .one (.ow (.one (.int .i8)) [] (.v 18)))], [(Q2n.leaves y357.1), [], (Q2n.leaves y481.1)], [], 89⟩
theorem d6n : P66 1 C66.r.r.r.r.r.r.r (e02 r_ y357 y481 y506) k = k (e03 r_ y357 y481 y506) := by (rcases y506 with (_ | _ | _ | _ | _ | _ | _ | _ | _) <;> kernel_rfl)
abbrev e04 : St := ⟨[(3, ri r_), (15, rF 2), (17, .one (Ps.enc Z9 y506)), (18, .one (.ow (.one (.int .i8)) [] (.v 18))), (67, ri y481.1.2.1), (68, ri 0)], [(Q2n.leaves y357.1), [], (Q2n.leaves y481.1)], [], 89⟩
theorem d6o : P66 1 C66.r.r.r.r.r.r.r.r.l (e03 r_ y357 y481 y506) k = k (e04 r_ y357 y481 y506) := by (rcases y506 with (_ | _ | _ | _ | _ | _ | _ | _ | _) <;> kernel_rfl)
abbrev b3v : St := ⟨[(3, ri r_), (15, rF 2), (17, .one (Ps.enc Z9 y506)), (18, .one (.ow (.one (.int .i8)) s1135.1 (.v 18))), (67, ri y481.1.2.1), (68, ri s1135.2)], [(Q2n.leaves y357.1), [], (Q2n.leaves y481.1)], [], 89⟩
theorem d2h : P66 1 C66.r.r.r.r.r.r.r.r.l.r.b.b (b3v r_ y357 y481 y506 s1135) k = k ⟨[(3, ri r_), (15, rF 2), (17, .one (Ps.enc Z9 y506)), (18, .one (.ow (.one (.int .i8)) s1135.1 (.v 18))), (67, ri y481.1.2.1), (68, ri s1135.2), (69, rb (decide (s1135.2 < y481.1.2.1)))], [(Q2n.leaves y357.1), [], (Q2n.leaves y481.1)], [], 89⟩ := by (rcases y506 with (_ | _ | _ | _ | _ | _ | _ | _ | _) <;> kernel_rfl)
abbrev e05 : St := ⟨[(3, ri r_), (15, rF 2), (17, .one (Ps.enc Z9 y506)), (18, .one (.ow (.one (.int .i8)) s1135.1 (.v 18))), (19, ri s1135.2), (67, ri y481.1.2.1), (68, ri s1135.2), (73, ri y481.1.2.2.1), (74, ri 0)], [(Q2n.leaves y357.1), [], (Q2n.leaves y481.1)], [], 89⟩
theorem d6p : P66 2 C66.r.r.r.r.r.r.r.r.l.r.b.b.r.r.l.b (b3v r_ y357 y481 y506 s1135) k = k (e05 r_ y357 y481 y506 s1135) := by (rcases y506 with (_ | _ | _ | _ | _ | _ | _ | _ | _) <;> kernel_rfl)
abbrev b3w : St := ⟨[(3, ri r_), (15, rF 2), (17, .one (Ps.enc Z9 y506)), (18, .one (.ow (.one (.int .i8)) s1254.1 (.v 18))), (19, ri s1135.2), (67, ri y481.1.2.1), (68, ri s1135.2), (73, ri y481.1.2.2.1), (74, ri s1254.2)], [(Q2n.leaves y357.1), [], (Q2n.leaves y481.1)], [], 89⟩
theorem d2i : P66 1 C66.r.r.r.r.r.r.r.r.l.r.b.b.r.r.l.b.r.r.b.b (b3w r_ y357 y481 y506 s1135 s1254) k = k ⟨[(3, ri r_), (15, rF 2), (17, .one (Ps.enc Z9 y506)), (18, .one (.ow (.one (.int .i8)) s1254.1 (.v 18))), (19, ri s1135.2), (67, ri y481.1.2.1), (68, ri s1135.2), (73, ri y481.1.2.2.1), (74, ri s1254.2), (75, rb (decide (s1254.2 < y481.1.2.2.1)))], [(Q2n.leaves y357.1), [], (Q2n.leaves y481.1)], [], 89⟩ := by (rcases y506 with (_ | _ | _ | _ | _ | _ | _ | _ | _) <;> kernel_rfl)
abbrev e06 : St := ⟨[(3, ri r_), (15, rF 2), (17, .one (Ps.enc Z9 y506)), (18, .one (.ow (.one (.int .i8)) s1254.1 (.v 18))), (19, ri s1135.2), (20, ri s1254.2), (67, ri y481.1.2.1), (68, ri s1135.2), (73, ri y481.1.2.2.1), (74, ri s1254.2)], [(Q2n.leaves y357.1), [], (Q2n.leaves y481.1)], [], 89⟩
theorem d6q : P66 1 C66.r.r.r.r.r.r.r.r.l.r.b.b.r.r.l.b.r.r.b.b.r.r.l.b (b3w r_ y357 y481 y506 s1135 s1254) k = k (e06 r_ y357 y481 y506 s1135 s1254) := by (rcases y506 with (_ | _ | _ | _ | _ | _ | _ | _ | _) <;> kernel_rfl)
def b4j : Option (List Int) := ((Q1z (fun u1274 : U13 => (Option.bind (b2z r_ s1135.2 s1254.2 (u1274.1.1, u1274.1.2.1, u1274.1.2.2.1, u1274.1.2.2.2.1, u1274.1.2.2.2.2.1, u1274.1.2.2.2.2.2.1, u1274.1.2.2.2.2.2.2.1) (u1274.2.1.1, u1274.2.1.2.1, u1274.2.1.2.2.1, u1274.2.1.2.2.2.1, u1274.2.1.2.2.2.2.1, u1274.2.1.2.2.2.2.2.1, u1274.2.1.2.2.2.2.2.2.1, u1274.2.1.2.2.2.2.2.2.2.1, u1274.2.1.2.2.2.2.2.2.2.2.1, u1274.2.1.2.2.2.2.2.2.2.2.2.1, u1274.2.1.2.2.2.2.2.2.2.2.2.2.1, u1274.2.1.2.2.2.2.2.2.2.2.2.2.2.1, u1274.2.1.2.2.2.2.2.2.2.2.2.2.2.2.1, u1274.2.1.2.2.2.2.2.2.2.2.2.2.2.2.2.1)) (fun y1275 : Int => (bif (decide (s1254.1.length + ([(IntKind.wrap .i8 y1275)] : List Int).length ≤ maxL)) then (some (s1254.1 ++ [(IntKind.wrap .i8 y1275)])) else none)))) (Q1z (fun u1276 : U4 => (Option.bind (b30 r_ s1135.2 s1254.2 (u1276.1.1, u1276.1.2.1, u1276.1.2.2.1, u1276.1.2.2.2.1, u1276.1.2.2.2.2.1, u1276.1.2.2.2.2.2.1, u1276.1.2.2.2.2.2.2.1)) (fun y1277 : Int => (bif (decide (s1254.1.length + ([(IntKind.wrap .i8 y1277)] : List Int).length ≤ maxL)) then (some (s1254.1 ++ [(IntKind.wrap .i8 y1277)])) else none)))) (Q1z (fun u1278 : U12 => (Option.bind (b31 r_ s1135.2 s1254.2 (u1278.1.1, u1278.1.2.1, u1278.1.2.2.1, u1278.1.2.2.2.1, u1278.1.2.2.2.2.1, u1278.1.2.2.2.2.2.1, u1278.1.2.2.2.2.2.2.1) u1278.2.1.1 u1278.2.1.2.1 u1278.2.1.2.2.1 u1278.2.1.2.2.2.1 u1278.2.1.2.2.2.2.1 u1278.2.1.2.2.2.2.2.1 u1278.2.1.2.2.2.2.2.2.1 u1278.2.1.2.2.2.2.2.2.2.1 u1278.2.1.2.2.2.2.2.2.2.2.1 u1278.2.1.2.2.2.2.2.2.2.2.2.1 u1278.2.1.2.2.2.2.2.2.2.2.2.2.1 u1278.2.1.2.2.2.2.2.2.2.2.2.2.2.1 u1278.2.1.2.2.2.2.2.2.2.2.2.2.2.2.1 u1278.2.1.2.2.2.2.2.2.2.2.2.2.2.2.2.1) (fun y1279 : Int => (bif (decide (s1254.1.length + ([(IntKind.wrap .i8 y1279)] : List Int).length ≤ maxL)) then (some (s1254.1 ++ [(IntKind.wrap .i8 y1279)])) else none)))) (Q1z (fun u1280 : U7 => (Option.bind (b33 r_ s1135.2 s1254.2 (u1280.1.1, u1280.1.2.1, u1280.1.2.2.1, u1280.1.2.2.2.1, u1280.1.2.2.2.2.1, u1280.1.2.2.2.2.2.1, u1280.1.2.2.2.2.2.2.1) (u1280.2.1.1, u1280.2.1.2.1, u1280.2.1.2.2.1, u1280.2.1.2.2.2.1)) (fun y1281 : Int => (bif (decide (s1254.1.length + ([(IntKind.wrap .i8 y1281)] : List Int).length ≤ maxL)) then (some (s1254.1 ++ [(IntKind.wrap .i8 y1281)])) else none)))) (Q1z (fun u1282 : U14 => (Option.bind (b34 r_ s1135.2 s1254.2 (u1282.1.1, u1282.1.2.1, u1282.1.2.2.1, u1282.1.2.2.2.1, u1282.1.2.2.2.2.1, u1282.1.2.2.2.2.2.1, u1282.1.2.2.2.2.2.2.1, u1282.1.2.2.2.2.2.2.2.1, u1282.1.2.2.2.2.2.2.2.2.1, u1282.1.2.2.2.2.2.2.2.2.2.1, u1282.1.2.2.2.2.2.2.2.2.2.2.1, u1282.1.2.2.2.2.2.2.2.2.2.2.2.1, u1282.1.2.2.2.2.2.2.2.2.2.2.2.2.1, u1282.1.2.2.2.2.2.2.2.2.2.2.2.2.2.1) (u1282.2.1.1, u1282.2.1.2.1, u1282.2.1.2.2.1, u1282.2.1.2.2.2.1, u1282.2.1.2.2.2.2.1, u1282.2.1.2.2.2.2.2.1, u1282.2.1.2.2.2.2.2.2.1)) (fun y1283 : Int => (bif (decide (s1254.1.length + ([(IntKind.wrap .i8 y1283)] : List Int).length ≤ maxL)) then (some (s1254.1 ++ [(IntKind.wrap .i8 y1283)])) else none)))) (Q1z (fun u1284 : U14 => (Option.bind (b2u r_ s1135.2 s1254.2 (u1284.1.1, u1284.1.2.1, u1284.1.2.2.1, u1284.1.2.2.2.1, u1284.1.2.2.2.2.1, u1284.1.2.2.2.2.2.1, u1284.1.2.2.2.2.2.2.1, u1284.1.2.2.2.2.2.2.2.1, u1284.1.2.2.2.2.2.2.2.2.1, u1284.1.2.2.2.2.2.2.2.2.2.1, u1284.1.2.2.2.2.2.2.2.2.2.2.1, u1284.1.2.2.2.2.2.2.2.2.2.2.2.1, u1284.1.2.2.2.2.2.2.2.2.2.2.2.2.1, u1284.1.2.2.2.2.2.2.2.2.2.2.2.2.2.1) (u1284.2.1.1, u1284.2.1.2.1, u1284.2.1.2.2.1, u1284.2.1.2.2.2.1, u1284.2.1.2.2.2.2.1, u1284.2.1.2.2.2.2.2.1, u1284.2.1.2.2.2.2.2.2.1)) (fun y1285 : Int => (bif (decide (s1254.1.length + ([(IntKind.wrap .i8 y1285)] : List Int).length ≤ maxL)) then (some (s1254.1 ++ [(IntKind.wrap .i8 y1285)])) else none)))) (Q1z (fun u1286 : U14 => (Option.bind (b2x r_ s1135.2 s1254.2 (u1286.1.1, u1286.1.2.1, u1286.1.2.2.1, u1286.1.2.2.2.1, u1286.1.2.2.2.2.1, u1286.1.2.2.2.2.2.1, u1286.1.2.2.2.2.2.2.1, u1286.1.2.2.2.2.2.2.2.1, u1286.1.2.2.2.2.2.2.2.2.1, u1286.1.2.2.2.2.2.2.2.2.2.1, u1286.1.2.2.2.2.2.2.2.2.2.2.1, u1286.1.2.2.2.2.2.2.2.2.2.2.2.1, u1286.1.2.2.2.2.2.2.2.2.2.2.2.2.1, u1286.1.2.2.2.2.2.2.2.2.2.2.2.2.2.1) (u1286.2.1.1, u1286.2.1.2.1, u1286.2.1.2.2.1, u1286.2.1.2.2.2.1, u1286.2.1.2.2.2.2.1, u1286.2.1.2.2.2.2.2.1, u1286.2.1.2.2.2.2.2.2.1)) (fun y1287 : Int => (bif (decide (s1254.1.length + ([(IntKind.wrap .i8 y1287)] : List Int).length ≤ maxL)) then (some (s1254.1 ++ [(IntKind.wrap .i8 y1287)])) else none)))) (Q1z (fun u1288 : U14 => (Option.bind (b38 r_ s1135.2 s1254.2 (u1288.1.1, u1288.1.2.1, u1288.1.2.2.1, u1288.1.2.2.2.1, u1288.1.2.2.2.2.1, u1288.1.2.2.2.2.2.1, u1288.1.2.2.2.2.2.2.1, u1288.1.2.2.2.2.2.2.2.1, u1288.1.2.2.2.2.2.2.2.2.1, u1288.1.2.2.2.2.2.2.2.2.2.1, u1288.1.2.2.2.2.2.2.2.2.2.2.1, u1288.1.2.2.2.2.2.2.2.2.2.2.2.1, u1288.1.2.2.2.2.2.2.2.2.2.2.2.2.1, u1288.1.2.2.2.2.2.2.2.2.2.2.2.2.2.1) (u1288.2.1.1, u1288.2.1.2.1, u1288.2.1.2.2.1, u1288.2.1.2.2.2.1, u1288.2.1.2.2.2.2.1, u1288.2.1.2.2.2.2.2.1, u1288.2.1.2.2.2.2.2.2.1)) (fun y1289 : Int => (bif (decide (s1254.1.length + ([(IntKind.wrap .i8 y1289)] : List Int).length ≤ maxL)) then (some (s1254.1 ++ [(IntKind.wrap .i8 y1289)])) else none)))) (fun u1290 : U18 => (Option.bind (b36 r_ s1135.2 s1254.2 (u1290.1.1, u1290.1.2.1, u1290.1.2.2.1, u1290.1.2.2.2.1, u1290.1.2.2.2.2.1, u1290.1.2.2.2.2.2.1, u1290.1.2.2.2.2.2.2.1) (u1290.2.1.1, u1290.2.1.2.1, u1290.2.1.2.2.1, u1290.2.1.2.2.2.1, u1290.2.1.2.2.2.2.1, u1290.2.1.2.2.2.2.2.1, u1290.2.1.2.2.2.2.2.2.1) (u1290.2.2.1.1, u1290.2.2.1.2.1, u1290.2.2.1.2.2.1, u1290.2.2.1.2.2.2.1, u1290.2.2.1.2.2.2.2.1, u1290.2.2.1.2.2.2.2.2.1, u1290.2.2.1.2.2.2.2.2.2.1, u1290.2.2.1.2.2.2.2.2.2.2.1, u1290.2.2.1.2.2.2.2.2.2.2.2.1, u1290.2.2.1.2.2.2.2.2.2.2.2.2.1, u1290.2.2.1.2.2.2.2.2.2.2.2.2.2.1, u1290.2.2.1.2.2.2.2.2.2.2.2.2.2.2.1, u1290.2.2.1.2.2.2.2.2.2.2.2.2.2.2.2.1, u1290.2.2.1.2.2.2.2.2.2.2.2.2.2.2.2.2.1)) (fun y1291 : Int => (bif (decide (s1254.1.length + ([(IntKind.wrap .i8 y1291)] : List Int).length ≤ maxL)) then (some (s1254.1 ++ [(IntKind.wrap .i8 y1291)])) else none)))))))))))) y506)
abbrev d4q : St := ⟨[(3, ri r_), (15, rF 2), (17, .one (Ps.enc Z9 y506)), (18, .one (.ow (.one (.int .i8)) y1292 (.v 18))), (19, ri s1135.2), (67, ri y481.1.2.1), (68, ri s1135.2), (73, ri y481.1.2.2.1), (74, ri s1254.2)], [(Q2n.leaves y357.1), [], (Q2n.leaves y481.1)], [], 89⟩
theorem d6x : R66 C66.r.r.r.r.r.r.r.r.l.r.b.b.r.r.l.b.r.r.b.b.r.r.l.b.r (e06 r_ y357 y481 y506 s1135 s1254) q = Option.bind (b4j r_ y506 s1135 s1254) (fun y1292 : (List Int) => q .normal (d4q r_ y357 y481 y506 s1135 s1254 y1292)) := .trans (by (rcases y506 with (_ | _ | _ | _ | _ | _ | _ | _ | _) <;> kernel_rfl)) ((Q0g (fun u1274 => (Q0d fun y1275 => (Q2b Q0b Q0n))) (Q0g (fun u1276 => (Q0d fun y1277 => (Q2b Q0b Q0n))) (Q0g (fun u1278 => (Q0d fun y1279 => (Q2b Q0b Q0n))) (Q0g (fun u1280 => (Q0d fun y1281 => (Q2b Q0b Q0n))) (Q0g (fun u1282 => (Q0d fun y1283 => (Q2b Q0b Q0n))) (Q0g (fun u1284 => (Q0d fun y1285 => (Q2b Q0b Q0n))) (Q0g (fun u1286 => (Q0d fun y1287 => (Q2b Q0b Q0n))) (Q0g (fun u1288 => (Q0d fun y1289 => (Q2b Q0b Q0n))) (fun u1290 => (Q0d fun y1291 => (Q2b Q0b Q0n))))))))))) y506)
theorem d6y : R66 C66.r.r.r.r.r.r.r.r.l.r.b.b.r.r.l.b.r.r.b.b.r.r.r (d4q r_ y357 y481 y506 s1135 s1254 y1292) q = q .normal ⟨[(3, ri r_), (15, rF 2), (17, .one (Ps.enc Z9 y506)), (18, .one (.ow (.one (.int .i8)) y1292 (.v 18))), (19, ri s1135.2), (67, ri y481.1.2.1), (68, ri s1135.2), (73, ri y481.1.2.2.1), (74, ri (IntKind.wrap .i64 (s1254.2 + 1)))], [(Q2n.leaves y357.1), [], (Q2n.leaves y481.1)], [], 89⟩ := by (rcases y506 with (_ | _ | _ | _ | _ | _ | _ | _ | _) <;> kernel_rfl)
def a8c : Option (((List Int) × Int) ⊕ ((List Int) × Int)) := (bif (decide (s1254.2 < y481.1.2.2.1)) then (Option.bind (b4j r_ y506 s1135 s1254) (fun y1292 : (List Int) => (some (Sum.inl (y1292, (IntKind.wrap .i64 (s1254.2 + 1))))))) else (some (Sum.inr s1254)))
abbrev d4r : St := ⟨[(3, ri r_), (15, rF 2), (17, .one (Ps.enc Z9 y506)), (18, .one (.ow (.one (.int .i8)) y1293.1 (.v 18))), (19, ri s1135.2), (67, ri y481.1.2.1), (68, ri s1135.2), (73, ri y481.1.2.2.1), (74, ri y1293.2)], [(Q2n.leaves y357.1), [], (Q2n.leaves y481.1)], [], 89⟩
theorem c8f : R66 C66.r.r.r.r.r.r.r.r.l.r.b.b.r.r.l.b.r.r.b.b (b3w r_ y357 y481 y506 s1135 s1254) (Q0w 3 q) = Option.bind (a8c r_ y481 y506 s1135 s1254) (Q1z (fun y : ((List Int) × Int) => q .normal ⟨[(3, ri r_), (15, rF 2), (17, .one (Ps.enc Z9 y506)), (18, .one (.ow (.one (.int .i8)) y.1 (.v 18))), (19, ri s1135.2), (67, ri y481.1.2.1), (68, ri s1135.2), (73, ri y481.1.2.2.1), (74, ri y.2)], [(Q2n.leaves y357.1), [], (Q2n.leaves y481.1)], [], 89⟩) (fun y1293 : ((List Int) × Int) => q (.exit 4) (d4r r_ y357 y481 y506 s1135 y1293))) := by
  refine .trans ?_ (Q2b (Q0d fun y1292 => e2_0) e2_1)
  refine (Q2d (d2i r_ y357 y481 y506 s1135 s1254 _)).trans ?_
  refine .trans Q0c ?_
  refine (Q0m (b := (decide (s1254.2 < y481.1.2.2.1))) (st' := (b3w r_ y357 y481 y506 s1135 s1254)) (hs := by (rcases y506 with (_ | _ | _ | _ | _ | _ | _ | _ | _) <;> kernel_rfl))).trans (Q2f ?_ ?_)
  · refine (Q0i).trans ?_
    refine (Q0a (st' := (b3w r_ y357 y481 y506 s1135 s1254)) (hs := by (rcases y506 with (_ | _ | _ | _ | _ | _ | _ | _ | _) <;> kernel_rfl))).trans ?_
    refine .trans Q0c ?_
    refine (Q0j (id := 5)).trans ?_
    refine (Q2d (d6q r_ y357 y481 y506 s1135 s1254 _)).trans ?_
    refine (d6x r_ y357 y481 y506 s1135 s1254 _).trans (Q0e fun y1292 => ?_)
    refine Q0f.trans ?_
    refine (Q0a (st' := (d4q r_ y357 y481 y506 s1135 s1254 y1292)) (hs := by (rcases y506 with (_ | _ | _ | _ | _ | _ | _ | _ | _) <;> kernel_rfl))).trans ?_
    refine (d6y r_ y357 y481 y506 s1135 s1254 y1292 _).trans ?_
    (rcases y506 with (_ | _ | _ | _ | _ | _ | _ | _ | _) <;> kernel_rfl)
  · refine ((Q1f (j := 4))).trans ?_
    refine Q0v.trans ?_
    (rcases y506 with (_ | _ | _ | _ | _ | _ | _ | _ | _) <;> kernel_rfl)
theorem d6s : R66 C66.r.r.r.r.r.r.r.r.l.r.b.b.r.r.l.b.r.r.b (e05 r_ y357 y481 y506 s1135) q = Option.bind (iterN (a8c r_ y481 y506 s1135) LL (s1135.1, (0 : Int))) (fun y1293 : ((List Int) × Int) => q (.exit 4) (d4r r_ y357 y481 y506 s1135 y1293)) :=
  Eq.trans (by kernel_rfl) (Q1a (S := fun s1254 : ((List Int) × Int) => (b3w r_ y357 y481 y506 s1135 s1254)) (Y1 := fun y1293 : ((List Int) × Int) => ((.exit 4), (d4r r_ y357 y481 y506 s1135 y1293))) (fun s q => c8f r_ y357 y481 y506 s1135 s q) (fun z => rfl) LL (s1135.1, (0 : Int)))
abbrev e07 : St := ⟨[(3, ri r_), (15, rF 2), (17, .one (Ps.enc Z9 y506)), (18, .one (.ow (.one (.int .i8)) y1293.1 (.v 18))), (67, ri y481.1.2.1), (68, ri s1135.2)], [(Q2n.leaves y357.1), [], (Q2n.leaves y481.1)], [], 89⟩
theorem d6z : R66 C66.r.r.r.r.r.r.r.r.l.r.b.b.r.r.r (e07 r_ y357 y481 y506 s1135 y1293) q = q .normal ⟨[(3, ri r_), (15, rF 2), (17, .one (Ps.enc Z9 y506)), (18, .one (.ow (.one (.int .i8)) y1293.1 (.v 18))), (67, ri y481.1.2.1), (68, ri (IntKind.wrap .i64 (s1135.2 + 1)))], [(Q2n.leaves y357.1), [], (Q2n.leaves y481.1)], [], 89⟩ := by (rcases y506 with (_ | _ | _ | _ | _ | _ | _ | _ | _) <;> kernel_rfl)
def a8b : Option (((List Int) × Int) ⊕ ((List Int) × Int)) := (bif (decide (s1135.2 < y481.1.2.1)) then (Option.bind (iterN (a8c r_ y481 y506 s1135) LL (s1135.1, (0 : Int))) (fun y1293 : ((List Int) × Int) => (some (Sum.inl (y1293.1, (IntKind.wrap .i64 (s1135.2 + 1))))))) else (some (Sum.inr s1135)))
abbrev d4s : St := ⟨[(3, ri r_), (15, rF 2), (17, .one (Ps.enc Z9 y506)), (18, .one (.ow (.one (.int .i8)) y1294.1 (.v 18))), (67, ri y481.1.2.1), (68, ri y1294.2)], [(Q2n.leaves y357.1), [], (Q2n.leaves y481.1)], [], 89⟩
theorem c8e : R66 C66.r.r.r.r.r.r.r.r.l.r.b.b (b3v r_ y357 y481 y506 s1135) (Q0w 3 q) = Option.bind (a8b r_ y481 y506 s1135) (Q1z (fun y : ((List Int) × Int) => q .normal ⟨[(3, ri r_), (15, rF 2), (17, .one (Ps.enc Z9 y506)), (18, .one (.ow (.one (.int .i8)) y.1 (.v 18))), (67, ri y481.1.2.1), (68, ri y.2)], [(Q2n.leaves y357.1), [], (Q2n.leaves y481.1)], [], 89⟩) (fun y1294 : ((List Int) × Int) => q (.exit 2) (d4s r_ y357 y481 y506 y1294))) := by
  refine .trans ?_ (Q2b (Q0d fun y1293 => e2_0) e2_1)
  refine (Q2d (d2h r_ y357 y481 y506 s1135 _)).trans ?_
  refine .trans Q0c ?_
  refine (Q0m (b := (decide (s1135.2 < y481.1.2.1))) (st' := (b3v r_ y357 y481 y506 s1135)) (hs := by (rcases y506 with (_ | _ | _ | _ | _ | _ | _ | _ | _) <;> kernel_rfl))).trans (Q2f ?_ ?_)
  · refine (Q0i).trans ?_
    refine (Q0a (st' := (b3v r_ y357 y481 y506 s1135)) (hs := by (rcases y506 with (_ | _ | _ | _ | _ | _ | _ | _ | _) <;> kernel_rfl))).trans ?_
    refine .trans Q0c ?_
    refine (Q0j (id := 3)).trans ?_
    refine (pre2 (d6p r_ y357 y481 y506 s1135 _)).trans ?_
    refine (Q0j (id := 4)).trans ?_
    refine (d6s r_ y357 y481 y506 s1135 _).trans (Q0e fun y1293 => ?_)
    refine Q0u.trans ?_
    refine Q0f.trans ?_
    refine (Q0a (st' := (e07 r_ y357 y481 y506 s1135 y1293)) (hs := by (rcases y506 with (_ | _ | _ | _ | _ | _ | _ | _ | _) <;> kernel_rfl))).trans ?_
    refine (d6z r_ y357 y481 y506 s1135 y1293 _).trans ?_
    (rcases y506 with (_ | _ | _ | _ | _ | _ | _ | _ | _) <;> kernel_rfl)
  · refine ((Q1f (j := 2))).trans ?_
    refine Q0v.trans ?_
    (rcases y506 with (_ | _ | _ | _ | _ | _ | _ | _ | _) <;> kernel_rfl)
theorem d6r : R66 C66.r.r.r.r.r.r.r.r.l.r.b (e04 r_ y357 y481 y506) q = Option.bind (iterN (a8b r_ y481 y506) LL ([], (0 : Int))) (fun y1294 : ((List Int) × Int) => q (.exit 2) (d4s r_ y357 y481 y506 y1294)) :=
  Eq.trans (by kernel_rfl) (Q1a (S := fun s1135 : ((List Int) × Int) => (b3v r_ y357 y481 y506 s1135)) (Y1 := fun y1294 : ((List Int) × Int) => ((.exit 2), (d4s r_ y357 y481 y506 y1294))) (fun s q => c8e r_ y357 y481 y506 s q) (fun z => rfl) LL ([], (0 : Int)))
abbrev e08 : St := ⟨[(18, .one (.ow (.one (.int .i8)) y1294.1 (.v 18)))], [(Q2n.leaves y357.1), [], (Q2n.leaves y481.1)], [], 89⟩
theorem d2j : P66 1 C66.r.r.r.r.r.r.r.r.r (e08 y357 y481 y1294) k = k ⟨[(8, .one (.ow (.one (.int .i8)) y1294.1 (.v 18))), (9, ri 0)], [(Q2n.leaves y357.1), [], (Q2n.leaves y481.1)], [], 89⟩ := by kernel_rfl
def b5t : Option ((List Int) × Int) := (Option.bind (a9y n_ in_ r_ (1 : Int)) (fun y357 : (I4 × Int) => (bif (y357.2 != 0) then (some ([], y357.2)) else (Option.bind (iterN (a95 in_ w_ y357) LL ((0 : Int), (0 : Int), (0 : Int), (0 : Int), (0 : Int), (0 : Int), (0 : Int), [], (0 : Int), (0 : Int), (0 : Int), (0 : Int), (0 : Int), (0 : Int), [])) (Q1z (fun y479 : U8 => (Option.bind (a1z n_ in_) (fun y481 : (I4 × Int) => (Option.bind (some (a8d n_ y479 y481)) (fun y506 : U26 => (Option.bind (iterN (a8b r_ y481 y506) LL ([], (0 : Int))) (fun y1294 : ((List Int) × Int) => (some (y1294.1, (0 : Int)))))))))) (fun y480 : Unit => (some ([], (1 : Int)))))))))
theorem d95 : stepO E cp62 ce4 32 [rA a01 n_, rl Q2n in_, rA tsA6 w_, ri r_] = Option.bind (b5t n_ in_ w_ r_) (fun y : ((List Int) × Int) => some (.tup [.one (.ow (.one (.int .i8)) y.1 (.s 0)), ri y.2] : R)) := by
  refine .trans ?_ (Q0d fun y357 => (Q2b Q0b (Q0d (Q0g (fun y479 => (Q0d fun y481 => (Q0d fun y506 => (Q0d fun y1294 => Q0b)))) (fun y480 => Q0b)))))
  refine (Q0l (nt := 89) (regs := [(0, rA a01 n_), (1, rl Q2n in_), (2, rA tsA6 w_), (3, ri r_)])).trans ?_
  refine (pre2 (d97 n_ in_ w_ r_ _)).trans (Q0e fun y357 => ?_)
  refine .trans Q0c ?_
  refine (Q2d (c23 n_ in_ w_ r_ y357 _)).trans ?_
  refine (Q0m (b := (y357.2 != 0)) (st' := (S66_0 n_ in_ w_ r_ y357)) ).trans (Q2f ?_ ?_)
  · refine (Q2d (d94 n_ in_ w_ r_ y357 _)).trans ?_
    refine (Q0h).trans ?_
    refine Q0k.trans ?_
    kernel_rfl
  · refine (Q0i).trans ?_
    refine (Q0a (st' := (S66_1 n_ in_ w_ r_ y357))).trans ?_
    refine (Q2d (d92 n_ in_ w_ r_ y357 _)).trans ?_
    refine .trans Q0c ?_
    refine (Q2d (d93 n_ in_ w_ r_ y357 _)).trans ?_
    refine (Q0j (id := 0)).trans ?_
    refine (d96 n_ in_ w_ r_ y357 _).trans (Q0e (Q1d (fun y479 => ?_) (fun y480 => ?_)))
    · refine Q0u.trans ?_
      refine (Q0a (st' := (S66_9 n_ in_ r_ y357 y479))).trans ?_
      refine (Q2d (d6v n_ in_ r_ y357 y479 _)).trans (Q0e fun y481 => ?_)
      refine (Q2d (d6w n_ r_ y357 y479 y481 _)).trans (Q0e fun y506 => ?_)
      refine (Q2d (d6n r_ y357 y481 y506 _)).trans ?_
      refine .trans Q0c ?_
      refine (Q2d (d6o r_ y357 y481 y506 _)).trans ?_
      refine (Q0j (id := 2)).trans ?_
      refine (d6r r_ y357 y481 y506 _).trans (Q0e fun y1294 => ?_)
      refine Q0u.trans ?_
      refine (Q0a (st' := (e08 y357 y481 y1294)) (hs := by (rcases y506 with (_ | _ | _ | _ | _ | _ | _ | _ | _) <;> kernel_rfl))).trans ?_
      refine (Q2d (d2j y357 y481 y1294 _)).trans ?_
      refine (Q0h).trans ?_
      (rcases y506 with (_ | _ | _ | _ | _ | _ | _ | _ | _) <;> kernel_rfl)
    · refine Q0t.trans ?_
      refine Q0k.trans ?_
      kernel_rfl
noncomputable def cp63 : Q2g := Q2i cp62 32 [(.agg a01), (pL Q2n), (.agg tsA6), pI] (.tup [(.one (.ow (.one (.int .i8)))), pI]) (fun y : ((List Int) × Int) => (y.1, y.2, ())) (fun x => b5t x.1 x.2.1 x.2.2.1 x.2.2.2.1)
theorem e3w : Q0p E cp63 := conO eok e3v a0r fun x => Eq.mp (by kernel_rfl) (d95 x.1 x.2.1 x.2.2.1 x.2.2.2.1)
end
section
variable {α : Type} (n_ : Node) (in_ : (List I4)) (data : A4) (y247 : (I4 × Int)) (s264 : U0) (y266 : (Int × (List Int) × Int × (List Int))) (y267 : U0) (s1311 : ((List Int) × Int)) (y1314 : ((List Int) × Int)) (y1316 : ((List Int) × Int)) (k : St → Option α) (q : Kont α)
noncomputable abbrev C67 := Q0r E.P 19
noncomputable abbrev P67 := @preK α E 19 cp63 ce4
noncomputable abbrev R67 := @Q0o α E 19 cp63 ce4
abbrev S67_0 : St := ⟨[(1, rl Q2n in_), (3, rC a01 n_), (5, rC Q2p data), (8, rF 0), (9, ri y247.2)], [(Q2n.leaves y247.1)], [], 65⟩
theorem d8z : P67 2 C67 ⟨[(0, rA a01 n_), (1, rl Q2n in_), (2, rA Q2p data)], [], [], 65⟩ k = Option.bind (a1z n_ in_) fun y247 : (I4 × Int) => k (S67_0 n_ in_ data y247) := by kernel_rfl
theorem c21 : P67 1 C67.r.r.l (S67_0 n_ in_ data y247) k = k ⟨[(1, rl Q2n in_), (3, rC a01 n_), (5, rC Q2p data), (8, rF 0), (9, ri y247.2), (23, rb (y247.2 != 0))], [(Q2n.leaves y247.1)], [], 65⟩ := by kernel_rfl
theorem d8w : P67 1 C67.r.r.l.r.t (S67_0 n_ in_ data y247) k = k ⟨[(6, .one (.ow (.one (.int .i8)) [] (.v 6))), (7, ri y247.2)], [[]], [], 65⟩ := by kernel_rfl
abbrev S67_1 : St := ⟨[(1, rl Q2n in_), (3, rC a01 n_), (5, rC Q2p data), (8, rF 0)], [(Q2n.leaves y247.1)], [], 65⟩
abbrev S67_2 : St := ⟨[(1, rl Q2n in_), (3, rC a01 n_), (5, rC Q2p data), (8, rF 0), (10, rF 1)], [(Q2n.leaves y247.1), [di 0, di 0, dl (.one (.int .i8)) [], di 0, di 0, dl (.one (.int .i8)) []]], [], 65⟩
theorem d8t : P67 1 C67.r.r.r (S67_1 n_ in_ data y247) k = k (S67_2 n_ in_ data y247) := by kernel_rfl
abbrev S67_3 : St := ⟨[(1, rl Q2n in_), (3, rC a01 n_), (5, rC Q2p data), (8, rF 0), (10, rF 1), (26, ri (in_.length : Int)), (27, ri 0)], [(Q2n.leaves y247.1), [di 0, di 0, dl (.one (.int .i8)) [], di 0, di 0, dl (.one (.int .i8)) []]], [], 65⟩
theorem d8u : P67 1 C67.r.r.r.r.l (S67_2 n_ in_ data y247) k = k (S67_3 n_ in_ data y247) := by kernel_rfl
abbrev S67_4 : St := ⟨[(1, rl Q2n in_), (3, rC a01 n_), (5, rC Q2p data), (8, rF 0), (10, rF 1), (26, ri (in_.length : Int)), (27, ri s264.1)], [(Q2n.leaves y247.1), [di 0, di s264.2.1, dl (.one (.int .i8)) s264.2.2.1, di 0, di s264.2.2.2.1, dl (.one (.int .i8)) s264.2.2.2.2]], [], 65⟩
theorem d22 : P67 1 C67.r.r.r.r.l.r.b.b (S67_4 n_ in_ data y247 s264) k = k ⟨[(1, rl Q2n in_), (3, rC a01 n_), (5, rC Q2p data), (8, rF 0), (10, rF 1), (26, ri (in_.length : Int)), (27, ri s264.1), (28, rb (decide (s264.1 < (in_.length : Int))))], [(Q2n.leaves y247.1), [di 0, di s264.2.1, dl (.one (.int .i8)) s264.2.2.1, di 0, di s264.2.2.2.1, dl (.one (.int .i8)) s264.2.2.2.2]], [], 65⟩ := by kernel_rfl
abbrev S67_5 : St := ⟨[(1, rl Q2n in_), (3, rC a01 n_), (5, rC Q2p data), (8, rF 0), (10, rF 1), (11, ri s264.1), (26, ri (in_.length : Int)), (27, ri s264.1)], [(Q2n.leaves y247.1), [di 0, di s264.2.1, dl (.one (.int .i8)) s264.2.2.1, di 0, di s264.2.2.2.1, dl (.one (.int .i8)) s264.2.2.2.2]], [], 65⟩
theorem d8v : P67 1 C67.r.r.r.r.l.r.b.b.r.r.l.b (S67_4 n_ in_ data y247 s264) k = k (S67_5 n_ in_ data y247 s264) := by kernel_rfl
def b7y : Option (Int × (List Int) × Int × (List Int)) := (bif (decide ((0 : Int) ≤ s264.1)) then (bif (decide (s264.1 < (in_.length : Int))) then (bif (s264.1 == 0) then (bif (s264.1 == 0) then (some ((gt in_ s264.1 dI4).1, data.1, s264.2.2.2.1, s264.2.2.2.2)) else (bif (s264.1 == 1) then (some (s264.2.1, s264.2.2.1, (gt in_ s264.1 dI4).1, data.1)) else none)) else (bif (s264.1 == 1) then (bif (s264.1 == 0) then (some ((gt in_ s264.1 dI4).1, data.2, s264.2.2.2.1, s264.2.2.2.2)) else (bif (s264.1 == 1) then (some (s264.2.1, s264.2.2.1, (gt in_ s264.1 dI4).1, data.2)) else none)) else none)) else none) else none)
abbrev S67_6 : St := ⟨[(1, rl Q2n in_), (3, rC a01 n_), (5, rC Q2p data), (8, rF 0), (10, rF 1), (26, ri (in_.length : Int)), (27, ri s264.1)], [(Q2n.leaves y247.1), [di 0, di y266.1, dl (.one (.int .i8)) y266.2.1, di 0, di y266.2.2.1, dl (.one (.int .i8)) y266.2.2.2]], [], 65⟩
theorem d90 : R67 C67.r.r.r.r.l.r.b.b.r.r.l.b.r (S67_5 n_ in_ data y247 s264) q = Option.bind (b7y in_ data s264) (fun y266 : (Int × (List Int) × Int × (List Int)) => q .normal (S67_6 n_ in_ data y247 s264 y266)) := .trans (by kernel_rfl) (Q2b (Q2b (Q2b (Q2b Q0b (Q2b Q0b Q0n)) (Q2b (Q2b Q0b (Q2b Q0b Q0n)) Q0n)) Q0n) Q0n)
theorem d91 : R67 C67.r.r.r.r.l.r.b.b.r.r.r (S67_6 n_ in_ data y247 s264 y266) q = q .normal ⟨[(1, rl Q2n in_), (3, rC a01 n_), (5, rC Q2p data), (8, rF 0), (10, rF 1), (26, ri (in_.length : Int)), (27, ri (IntKind.wrap .i64 (s264.1 + 1)))], [(Q2n.leaves y247.1), [di 0, di y266.1, dl (.one (.int .i8)) y266.2.1, di 0, di y266.2.2.1, dl (.one (.int .i8)) y266.2.2.2]], [], 65⟩ := by kernel_rfl
def a94 : Option (U0 ⊕ U0) := (bif (decide (s264.1 < (in_.length : Int))) then (Option.bind (b7y in_ data s264) (fun y266 : (Int × (List Int) × Int × (List Int)) => (some (Sum.inl ((IntKind.wrap .i64 (s264.1 + 1)), y266.1, y266.2.1, y266.2.2.1, y266.2.2.2))))) else (some (Sum.inr s264)))
abbrev S67_7 : St := ⟨[(1, rl Q2n in_), (3, rC a01 n_), (5, rC Q2p data), (8, rF 0), (10, rF 1), (26, ri (in_.length : Int)), (27, ri y267.1)], [(Q2n.leaves y247.1), [di 0, di y267.2.1, dl (.one (.int .i8)) y267.2.2.1, di 0, di y267.2.2.2.1, dl (.one (.int .i8)) y267.2.2.2.2]], [], 65⟩
theorem d26 : R67 C67.r.r.r.r.l.r.b.b (S67_4 n_ in_ data y247 s264) (Q0w 2 q) = Option.bind (a94 in_ data s264) (Q1z (fun y : U0 => q .normal ⟨[(1, rl Q2n in_), (3, rC a01 n_), (5, rC Q2p data), (8, rF 0), (10, rF 1), (26, ri (in_.length : Int)), (27, ri y.1)], [(Q2n.leaves y247.1), [di 0, di y.2.1, dl (.one (.int .i8)) y.2.2.1, di 0, di y.2.2.2.1, dl (.one (.int .i8)) y.2.2.2.2]], [], 65⟩) (fun y267 : U0 => q (.exit 0) (S67_7 n_ in_ data y247 y267))) := by
  refine .trans ?_ (Q2b (Q0d fun y266 => e2_0) e2_1)
  refine (Q2d (d22 n_ in_ data y247 s264 _)).trans ?_
  refine .trans Q0c ?_
  refine (Q0m (b := (decide (s264.1 < (in_.length : Int)))) (st' := (S67_4 n_ in_ data y247 s264)) ).trans (Q2f ?_ ?_)
  · refine (Q0i).trans ?_
    refine (Q0a (st' := (S67_4 n_ in_ data y247 s264))).trans ?_
    refine .trans Q0c ?_
    refine (Q0j (id := 1)).trans ?_
    refine (Q2d (d8v n_ in_ data y247 s264 _)).trans ?_
    refine (d90 n_ in_ data y247 s264 _).trans (Q0e fun y266 => ?_)
    refine Q0f.trans ?_
    refine (Q0a (st' := (S67_6 n_ in_ data y247 s264 y266))).trans ?_
    refine (d91 n_ in_ data y247 s264 y266 _).trans ?_
    kernel_rfl
  · refine ((Q1f (j := 0))).trans ?_
    refine Q0v.trans ?_
    kernel_rfl
theorem d8y : R67 C67.r.r.r.r.l.r.b (S67_3 n_ in_ data y247) q = Option.bind (iterN (a94 in_ data) LL ((0 : Int), (0 : Int), [], (0 : Int), [])) (fun y267 : U0 => q (.exit 0) (S67_7 n_ in_ data y247 y267)) :=
  Eq.trans (by kernel_rfl) (Q1a (S := fun s264 : U0 => (S67_4 n_ in_ data y247 s264)) (Y1 := fun y267 : U0 => ((.exit 0), (S67_7 n_ in_ data y247 y267))) (fun s q => d26 n_ in_ data y247 s q) (fun z => rfl) LL ((0 : Int), (0 : Int), [], (0 : Int), []))
abbrev S67_8 : St := ⟨[(1, rl Q2n in_), (3, rC a01 n_), (8, rF 0), (10, rF 1)], [(Q2n.leaves y247.1), [di 0, di y267.2.1, dl (.one (.int .i8)) y267.2.2.1, di 0, di y267.2.2.2.1, dl (.one (.int .i8)) y267.2.2.2.2]], [], 65⟩
abbrev S67_9 : St := ⟨[(1, rl Q2n in_), (3, rC a01 n_), (8, rF 0), (10, rF 1), (12, .one (.ow (.one (.int .i8)) [] (.v 12)))], [(Q2n.leaves y247.1), [di 0, di y267.2.1, dl (.one (.int .i8)) y267.2.2.1, di 0, di y267.2.2.2.1, dl (.one (.int .i8)) y267.2.2.2.2]], [], 65⟩
theorem d6h : P67 1 C67.r.r.r.r.r (S67_8 n_ in_ y247 y267) k = k (S67_9 n_ in_ y247 y267) := by kernel_rfl
abbrev e09 : St := ⟨[(1, rl Q2n in_), (3, rC a01 n_), (10, rF 1), (12, .one (.ow (.one (.int .i8)) [] (.v 12))), (45, ri y247.1.1), (46, ri 0)], [[], [di 0, di y267.2.1, dl (.one (.int .i8)) y267.2.2.1, di 0, di y267.2.2.2.1, dl (.one (.int .i8)) y267.2.2.2.2]], [], 65⟩
theorem d6i : P67 1 C67.r.r.r.r.r.r.l (S67_9 n_ in_ y247 y267) k = k (e09 n_ in_ y247 y267) := by kernel_rfl
abbrev b3x : St := ⟨[(1, rl Q2n in_), (3, rC a01 n_), (10, rF 1), (12, .one (.ow (.one (.int .i8)) s1311.1 (.v 12))), (45, ri y247.1.1), (46, ri s1311.2)], [[], [di 0, di y267.2.1, dl (.one (.int .i8)) y267.2.2.1, di 0, di y267.2.2.2.1, dl (.one (.int .i8)) y267.2.2.2.2]], [], 65⟩
theorem d23 : P67 1 C67.r.r.r.r.r.r.l.r.b.b (b3x n_ in_ y247 y267 s1311) k = k ⟨[(1, rl Q2n in_), (3, rC a01 n_), (10, rF 1), (12, .one (.ow (.one (.int .i8)) s1311.1 (.v 12))), (45, ri y247.1.1), (46, ri s1311.2), (47, rb (decide (s1311.2 < y247.1.1)))], [[], [di 0, di y267.2.1, dl (.one (.int .i8)) y267.2.2.1, di 0, di y267.2.2.2.1, dl (.one (.int .i8)) y267.2.2.2.2]], [], 65⟩ := by kernel_rfl
abbrev c4u : St := ⟨[(1, rl Q2n in_), (3, rC a01 n_), (10, rF 1), (12, .one (.ow (.one (.int .i8)) s1311.1 (.v 12))), (14, .one (.ow (.one (.int .i8)) y1314.1 (.v 14))), (15, ri y1314.2), (45, ri y247.1.1), (46, ri s1311.2)], [[], [di 0, di y267.2.1, dl (.one (.int .i8)) y267.2.2.1, di 0, di y267.2.2.2.1, dl (.one (.int .i8)) y267.2.2.2.2]], [], 65⟩
theorem d6k : P67 2 C67.r.r.r.r.r.r.l.r.b.b.r.r.l.b (b3x n_ in_ y247 y267 s1311) k = Option.bind (b5t n_ in_ ((0 : Int), y267.2.1, y267.2.2.1, (0 : Int), y267.2.2.2.1, y267.2.2.2.2) s1311.2) fun y1314 : ((List Int) × Int) => k (c4u n_ in_ y247 y267 s1311 y1314) := by kernel_rfl
theorem c22 : P67 1 C67.r.r.r.r.r.r.l.r.b.b.r.r.l.b.r.r.l (c4u n_ in_ y247 y267 s1311 y1314) k = k ⟨[(1, rl Q2n in_), (3, rC a01 n_), (10, rF 1), (12, .one (.ow (.one (.int .i8)) s1311.1 (.v 12))), (14, .one (.ow (.one (.int .i8)) y1314.1 (.v 14))), (15, ri y1314.2), (45, ri y247.1.1), (46, ri s1311.2), (58, rb (y1314.2 != 0))], [[], [di 0, di y267.2.1, dl (.one (.int .i8)) y267.2.2.1, di 0, di y267.2.2.2.1, dl (.one (.int .i8)) y267.2.2.2.2]], [], 65⟩ := by kernel_rfl
theorem d24 : P67 1 C67.r.r.r.r.r.r.l.r.b.b.r.r.l.b.r.r.l.r.t (c4u n_ in_ y247 y267 s1311 y1314) k = k ⟨[(6, .one (.ow (.one (.int .i8)) [] (.v 6))), (7, ri y1314.2)], [[], []], [], 65⟩ := by kernel_rfl
def b4g : Option Unit := (bif (decide (s1311.1.length + y1314.1.length ≤ maxL)) then (some ()) else none)
abbrev e0a : St := ⟨[(1, rl Q2n in_), (3, rC a01 n_), (10, rF 1), (12, .one (.ow (.one (.int .i8)) s1311.1 (.v 12))), (14, .one (.ow (.one (.int .i8)) y1314.1 (.v 14))), (45, ri y247.1.1), (46, ri s1311.2)], [[], [di 0, di y267.2.1, dl (.one (.int .i8)) y267.2.2.1, di 0, di y267.2.2.2.1, dl (.one (.int .i8)) y267.2.2.2.2]], [], 65⟩
abbrev d4t : St := ⟨[(1, rl Q2n in_), (3, rC a01 n_), (10, rF 1), (12, .one (.ow (.one (.int .i8)) (s1311.1 ++ y1314.1) (.v 12))), (45, ri y247.1.1), (46, ri s1311.2)], [[], [di 0, di y267.2.1, dl (.one (.int .i8)) y267.2.2.1, di 0, di y267.2.2.2.1, dl (.one (.int .i8)) y267.2.2.2.2]], [], 65⟩
theorem d6l : R67 C67.r.r.r.r.r.r.l.r.b.b.r.r.l.b.r.r.r (e0a n_ in_ y247 y267 s1311 y1314) q = Option.bind (b4g s1311 y1314) (fun y1315 : Unit => q .normal (d4t n_ in_ y247 y267 s1311 y1314)) := .trans (by kernel_rfl) (Q2b Q0b Q0n)
theorem d6m : R67 C67.r.r.r.r.r.r.l.r.b.b.r.r.r (d4t n_ in_ y247 y267 s1311 y1314) q = q .normal ⟨[(1, rl Q2n in_), (3, rC a01 n_), (10, rF 1), (12, .one (.ow (.one (.int .i8)) (s1311.1 ++ y1314.1) (.v 12))), (45, ri y247.1.1), (46, ri (IntKind.wrap .i64 (s1311.2 + 1)))], [[], [di 0, di y267.2.1, dl (.one (.int .i8)) y267.2.2.1, di 0, di y267.2.2.2.1, dl (.one (.int .i8)) y267.2.2.2.2]], [], 65⟩ := by kernel_rfl
def a8a : Option (((List Int) × Int) ⊕ (((List Int) × Int) ⊕ Int)) := (bif (decide (s1311.2 < y247.1.1)) then (Option.bind (b5t n_ in_ ((0 : Int), y267.2.1, y267.2.2.1, (0 : Int), y267.2.2.2.1, y267.2.2.2.2) s1311.2) (fun y1314 : ((List Int) × Int) => (bif (y1314.2 != 0) then (some (Sum.inr (Sum.inr y1314.2))) else (Option.bind (b4g s1311 y1314) (fun y1315 : Unit => (some (Sum.inl ((s1311.1 ++ y1314.1), (IntKind.wrap .i64 (s1311.2 + 1)))))))))) else (some (Sum.inr (Sum.inl s1311))))
abbrev d4u : St := ⟨[(1, rl Q2n in_), (3, rC a01 n_), (10, rF 1), (12, .one (.ow (.one (.int .i8)) y1316.1 (.v 12))), (45, ri y247.1.1), (46, ri y1316.2)], [[], [di 0, di y267.2.1, dl (.one (.int .i8)) y267.2.2.1, di 0, di y267.2.2.2.1, dl (.one (.int .i8)) y267.2.2.2.2]], [], 65⟩
abbrev d4v (y1317 : Int) : St := ⟨[(6, .one (.ow (.one (.int .i8)) [] (.v 6))), (7, ri y1317)], [[], []], [], 65⟩
theorem c83 : R67 C67.r.r.r.r.r.r.l.r.b.b (b3x n_ in_ y247 y267 s1311) (Q0w 2 q) = Option.bind (a8a n_ in_ y247 y267 s1311) (Q1z (fun y : ((List Int) × Int) => q .normal ⟨[(1, rl Q2n in_), (3, rC a01 n_), (10, rF 1), (12, .one (.ow (.one (.int .i8)) y.1 (.v 12))), (45, ri y247.1.1), (46, ri y.2)], [[], [di 0, di y267.2.1, dl (.one (.int .i8)) y267.2.2.1, di 0, di y267.2.2.2.1, dl (.one (.int .i8)) y267.2.2.2.2]], [], 65⟩) (Q1z (fun y1316 : ((List Int) × Int) => q (.exit 2) (d4u n_ in_ y247 y267 y1316)) (fun y1317 : Int => q .ret (d4v y1317)))) := by
  refine .trans ?_ (Q2b (Q0d fun y1314 => (Q2b e3_2 (Q0d fun y1315 => e3_0))) e3_1)
  refine (Q2d (d23 n_ in_ y247 y267 s1311 _)).trans ?_
  refine .trans Q0c ?_
  refine (Q0m (b := (decide (s1311.2 < y247.1.1))) (st' := (b3x n_ in_ y247 y267 s1311)) ).trans (Q2f ?_ ?_)
  · refine (Q0i).trans ?_
    refine (Q0a (st' := (b3x n_ in_ y247 y267 s1311))).trans ?_
    refine .trans Q0c ?_
    refine (Q0j (id := 3)).trans ?_
    refine (pre2 (d6k n_ in_ y247 y267 s1311 _)).trans (Q0e fun y1314 => ?_)
    refine .trans Q0c ?_
    refine (Q2d (c22 n_ in_ y247 y267 s1311 y1314 _)).trans ?_
    refine (Q0m (b := (y1314.2 != 0)) (st' := (c4u n_ in_ y247 y267 s1311 y1314)) ).trans (Q2f ?_ ?_)
    · refine (Q2d (d24 n_ in_ y247 y267 s1311 y1314 _)).trans ?_
      refine (Q0h).trans ?_
      refine Q0k.trans ?_
      refine Q0t.trans ?_
      refine Q0k.trans ?_
      kernel_rfl
    · refine (Q0i).trans ?_
      refine (Q0a (st' := (e0a n_ in_ y247 y267 s1311 y1314))).trans ?_
      refine (d6l n_ in_ y247 y267 s1311 y1314 _).trans (Q0e fun y1315 => ?_)
      refine Q0f.trans ?_
      refine (Q0a (st' := (d4t n_ in_ y247 y267 s1311 y1314))).trans ?_
      refine (d6m n_ in_ y247 y267 s1311 y1314 _).trans ?_
      kernel_rfl
  · refine ((Q1f (j := 2))).trans ?_
    refine Q0v.trans ?_
    kernel_rfl
theorem d6j : R67 C67.r.r.r.r.r.r.l.r.b (e09 n_ in_ y247 y267) q = Option.bind (iterN (a8a n_ in_ y247 y267) LL ([], (0 : Int))) (Q1z (fun y1316 : ((List Int) × Int) => q (.exit 2) (d4u n_ in_ y247 y267 y1316)) (fun y1317 : Int => q .ret (d4v y1317))) :=
  Eq.trans (by kernel_rfl) (loop_iter2 (S := fun s1311 : ((List Int) × Int) => (b3x n_ in_ y247 y267 s1311)) (Y1 := fun y1316 : ((List Int) × Int) => ((.exit 2), (d4u n_ in_ y247 y267 y1316))) (Y2 := fun y1317 : Int => (.ret, (d4v y1317))) (fun s q => c83 n_ in_ y247 y267 s q) (fun z => rfl) (fun z => rfl) LL ([], (0 : Int)))
abbrev e0b : St := ⟨[(12, .one (.ow (.one (.int .i8)) y1316.1 (.v 12)))], [[], [di 0, di y267.2.1, dl (.one (.int .i8)) y267.2.2.1, di 0, di y267.2.2.2.1, dl (.one (.int .i8)) y267.2.2.2.2]], [], 65⟩
theorem d25 : P67 1 C67.r.r.r.r.r.r.r (e0b y267 y1316) k = k ⟨[(6, .one (.ow (.one (.int .i8)) y1316.1 (.v 12))), (7, ri 0)], [[], [di 0, di y267.2.1, dl (.one (.int .i8)) y267.2.2.1, di 0, di y267.2.2.2.1, dl (.one (.int .i8)) y267.2.2.2.2]], [], 65⟩ := by kernel_rfl
def a0c : Option ((List Int) × Int) := (Option.bind (a1z n_ in_) (fun y247 : (I4 × Int) => (bif (y247.2 != 0) then (some ([], y247.2)) else (Option.bind (iterN (a94 in_ data) LL ((0 : Int), (0 : Int), [], (0 : Int), [])) (fun y267 : U0 => (Option.bind (iterN (a8a n_ in_ y247 y267) LL ([], (0 : Int))) (Q1z (fun y1316 : ((List Int) × Int) => (some (y1316.1, (0 : Int)))) (fun y1317 : Int => (some ([], y1317))))))))))
theorem d8x : stepO E cp63 ce4 19 [rA a01 n_, rl Q2n in_, rA Q2p data] = Option.bind (a0c n_ in_ data) (fun y : ((List Int) × Int) => some (.tup [.one (.ow (.one (.int .i8)) y.1 (.s 0)), ri y.2] : R)) := by
  refine .trans ?_ (Q0d fun y247 => (Q2b Q0b (Q0d fun y267 => (Q0d (Q0g (fun y1316 => Q0b) (fun y1317 => Q0b))))))
  refine (Q0l (nt := 65) (regs := [(0, rA a01 n_), (1, rl Q2n in_), (2, rA Q2p data)])).trans ?_
  refine (pre2 (d8z n_ in_ data _)).trans (Q0e fun y247 => ?_)
  refine .trans Q0c ?_
  refine (Q2d (c21 n_ in_ data y247 _)).trans ?_
  refine (Q0m (b := (y247.2 != 0)) (st' := (S67_0 n_ in_ data y247)) ).trans (Q2f ?_ ?_)
  · refine (Q2d (d8w n_ in_ data y247 _)).trans ?_
    refine (Q0h).trans ?_
    refine Q0k.trans ?_
    kernel_rfl
  · refine (Q0i).trans ?_
    refine (Q0a (st' := (S67_1 n_ in_ data y247))).trans ?_
    refine (Q2d (d8t n_ in_ data y247 _)).trans ?_
    refine .trans Q0c ?_
    refine (Q2d (d8u n_ in_ data y247 _)).trans ?_
    refine (Q0j (id := 0)).trans ?_
    refine (d8y n_ in_ data y247 _).trans (Q0e fun y267 => ?_)
    refine Q0u.trans ?_
    refine (Q0a (st' := (S67_8 n_ in_ y247 y267))).trans ?_
    refine (Q2d (d6h n_ in_ y247 y267 _)).trans ?_
    refine .trans Q0c ?_
    refine (Q2d (d6i n_ in_ y247 y267 _)).trans ?_
    refine (Q0j (id := 2)).trans ?_
    refine (d6j n_ in_ y247 y267 _).trans (Q0e (Q1d (fun y1316 => ?_) (fun y1317 => ?_)))
    · refine Q0u.trans ?_
      refine (Q0a (st' := (e0b y267 y1316))).trans ?_
      refine (Q2d (d25 y267 y1316 _)).trans ?_
      refine (Q0h).trans ?_
      kernel_rfl
    · refine Q0t.trans ?_
      refine Q0k.trans ?_
      kernel_rfl
noncomputable def cp64 : Q2g := Q2i cp63 19 [(.agg a01), (pL Q2n), (.agg Q2p)] (.tup [(.one (.ow (.one (.int .i8)))), pI]) (fun y : ((List Int) × Int) => (y.1, y.2, ())) (fun x => a0c x.1 x.2.1 x.2.2.1)
theorem e3x : Q0p E cp64 := conO eok e3w a0r fun x => Eq.mp (by kernel_rfl) (d8x x.1 x.2.1 x.2.2.1)
end
noncomputable abbrev C68 := Q0r E.P 12
noncomputable abbrev P68 {α : Type} := @preK α E 12 cp64 ce4
abbrev S68_0 (y1318 : ((List Int) × Int)) : St := ⟨[(2, .one (.ow (.one (.int .i8)) y1318.1 (.v 2))), (3, ri y1318.2)], [[]], [], 34⟩
theorem c9o {α : Type} (k : St → Option α) : P68 3 C68 ⟨[], [], [], 34⟩ k = Option.bind (a0c ((8 : Int), [], (0 : Int), (0 : Int), (0 : Int), (0 : Int), (1 : Int), (0 : Int), (0 : Int), (0 : Int), (0 : Int), (0 : Int), [], []) [((1 : Int), (2 : Int), (1 : Int), (0 : Int))] ([(-1 : Int), (2 : Int)], [])) fun y1318 : ((List Int) × Int) => k (S68_0 y1318) := by kernel_rfl
def b0y (y1318 : ((List Int) × Int)) : Option Bool := (bif ((y1318.1.length : Int) == 2) then (bif (decide ((0 : Int) < (y1318.1.length : Int))) then (bif ((gt y1318.1 (0 : Int) (0 : Int)) == 0) then (bif (decide ((1 : Int) < (y1318.1.length : Int))) then (bif ((gt y1318.1 (1 : Int) (0 : Int)) == 2) then (some (y1318.2 == 0)) else (some false)) else none) else (some false)) else none) else (some false))
theorem c9p {α : Type} (y1318 : ((List Int) × Int)) (k : St → Option α) : P68 1 C68.r.r.r (S68_0 y1318) k = Option.bind (b0y y1318) (fun y1319 : Bool => k ⟨[(0, rb y1319)], [[]], [], 34⟩) := .trans (by kernel_rfl) (Q2b (Q2b (Q2b (Q2b (Q2b Q0b Q0b) Q0n) Q0b) Q0n) Q0b)
def a3i : Option Bool := (Option.bind (a0c ((8 : Int), [], (0 : Int), (0 : Int), (0 : Int), (0 : Int), (1 : Int), (0 : Int), (0 : Int), (0 : Int), (0 : Int), (0 : Int), [], []) [((1 : Int), (2 : Int), (1 : Int), (0 : Int))] ([(-1 : Int), (2 : Int)], [])) (fun y1318 : ((List Int) × Int) => (Option.bind (b0y y1318) (fun y1319 : Bool => (some y1319)))))
theorem c9n : Q2j E cp64 ce4 12 [] = Option.bind (a3i) (fun y : Bool => some (rb y : R)) := by
  refine .trans ?_ (Q0d fun y1318 => (Q0d fun y1319 => Q0b))
  refine (Q0l (nt := 34) (regs := [])).trans ?_
  refine (pre3 (c9o _)).trans (Q0e fun y1318 => ?_)
  refine (Q2d (c9p y1318 _)).trans (Q0e fun y1319 => ?_)
  refine (Q0h).trans ?_
  kernel_rfl
noncomputable def cp65 : Q2g := Q2i cp64 12 [] (.one pB) (fun y : Bool => y) (fun x => a3i)
theorem e3y : Q0p E cp65 := conS eok e3x a0r fun x => Eq.mp (by kernel_rfl) (c9n)
noncomputable abbrev C69 := Q0r E.P 15
noncomputable abbrev P69 {α : Type} := @preK α E 15 cp65 ce4
abbrev S69_0 (l_ : (List I4)) : St := ⟨[(0, rl Q2n l_)], [], [], 9⟩
theorem d3e {α : Type} (l_ : (List I4)) (k : St → Option α) : P69 1 C69 (S69_0 l_) k = k (S69_0 l_) := by kernel_rfl
theorem b8s {α : Type} (l_ : (List I4)) (k : St → Option α) : P69 1 C69.r.l (S69_0 l_) k = k ⟨[(0, rl Q2n l_), (5, rb (decide ((l_.length : Int) > 3)))], [], [], 9⟩ := by kernel_rfl
def b2i (l_ : (List I4)) : Option Unit := (bif (decide ((3 : Int) ≤ (l_.length : Int))) then (some ()) else none)
theorem d3h {α : Type} (l_ : (List I4)) (k : St → Option α) : P69 1 C69.r.l.r.t (S69_0 l_) k = Option.bind (b2i l_) (fun y1322 : Unit => k ⟨[(2, rl Q2n ((l_.take (Int.toNat (3 : Int))).drop (Int.toNat (0 : Int))))], [], [], 9⟩) := .trans (by kernel_rfl) (Q2b Q0b Q0n)
theorem d3f {α : Type} (l_ : (List I4)) (k : St → Option α) : P69 1 C69.r.r (S69_0 l_) k = k ⟨[(2, rl Q2n l_)], [], [], 9⟩ := by kernel_rfl
def b04 (l_ : (List I4)) : Option (List I4) := (bif (decide ((l_.length : Int) > 3)) then (Option.bind (b2i l_) (fun y1322 : Unit => (some ((l_.take (Int.toNat (3 : Int))).drop (Int.toNat (0 : Int)))))) else (some l_))
theorem d3g (l_ : (List I4)) : Q2j E cp65 ce4 15 [rl Q2n l_] = Option.bind (b04 l_) (fun y : (List I4) => some (rl Q2n y : R)) := by
  refine .trans ?_ (Q2b (Q0d fun y1322 => Q0b) Q0b)
  refine (Q0l (nt := 9) (regs := [(0, rl Q2n l_)])).trans ?_
  refine (Q2d (d3e l_ _)).trans ?_
  refine .trans Q0c ?_
  refine (Q2d (b8s l_ _)).trans ?_
  refine (Q0m (b := (decide ((l_.length : Int) > 3))) (st' := (S69_0 l_)) ).trans (Q2f ?_ ?_)
  · refine (Q2d (d3h l_ _)).trans (Q0e fun y1322 => ?_)
    refine (Q0h).trans ?_
    refine Q0k.trans ?_
    kernel_rfl
  · refine (Q0i).trans ?_
    refine (Q0a (st' := (S69_0 l_))).trans ?_
    refine (Q2d (d3f l_ _)).trans ?_
    refine (Q0h).trans ?_
    kernel_rfl
noncomputable def cp66 : Q2g := Q2i cp65 15 [(pL Q2n)] (.one (pL Q2n)) (fun y : (List I4) => y) (fun x => b04 x.1)
theorem e3z : Q0p E cp66 := conS eok e3y a0r fun x => Eq.mp (by kernel_rfl) (d3g x.1)
end Go.V.P
