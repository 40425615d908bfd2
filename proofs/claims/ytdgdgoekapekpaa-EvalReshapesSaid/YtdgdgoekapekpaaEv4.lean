/- What functions compute. -/
import Derived.Test.YtdgdgoekapekpaaEv3
namespace Go.V.P
open Go.RowKit Go.V Go.Proofs
set_option linter.unusedVariables false
set_option maxRecDepth 100000
section
variable {α : Type} (k_ : Int) (do_ : Int) (do_' : Node) (do_'' : Int) (do_''' : Int) (do_'''' : pane) (c2_ : Int) (s788 : (Int × Int)) (s799 : (Int × Int)) (y801 : Int) (y802 : (Int × Int)) (k : St → Option α) (q : Kont α)
noncomputable abbrev C59 := codeOf E.P 84
noncomputable abbrev P59 := @preK α E 84 cp58 ce1
noncomputable abbrev R59 := @runCode α E 84 cp58 ce1
abbrev S59_0 : St := ⟨[(0, ri k_), (1, .one (.fn 85 [.cell [di do_], .cell (a00.leaves do_'), .cell [di do_''], .cell [di do_'''], .ref 0 0, .cell (a04.leaves do_'''')])), (6, ri k_), (7, ri 0)], [[di c2_]], [], 20⟩
theorem d4l : P59 1 C59 ⟨[(0, ri k_), (1, .one (.fn 85 [.cell [di do_], .cell (a00.leaves do_'), .cell [di do_''], .cell [di do_'''], .ref 0 0, .cell (a04.leaves do_'''')]))], [[di c2_]], [], 20⟩ k = k (S59_0 k_ do_ do_' do_'' do_''' do_'''' c2_) := by kernel_rfl
abbrev S59_1 : St := ⟨[(0, ri k_), (1, .one (.fn 85 [.cell [di do_], .cell (a00.leaves do_'), .cell [di do_''], .cell [di do_'''], .ref 0 0, .cell (a04.leaves do_'''')])), (6, ri k_), (7, ri s788.1)], [[di s788.2]], [], 20⟩
theorem d4o : P59 1 C59.r.b.b (S59_1 k_ do_ do_' do_'' do_''' do_'''' s788) k = k ⟨[(0, ri k_), (1, .one (.fn 85 [.cell [di do_], .cell (a00.leaves do_'), .cell [di do_''], .cell [di do_'''], .ref 0 0, .cell (a04.leaves do_'''')])), (6, ri k_), (7, ri s788.1), (8, rb (decide (s788.1 < k_)))], [[di s788.2]], [], 20⟩ := by kernel_rfl
abbrev S59_2 : St := ⟨[(0, ri k_), (1, .one (.fn 85 [.cell [di do_], .cell (a00.leaves do_'), .cell [di do_''], .cell [di do_'''], .ref 0 0, .cell (a04.leaves do_'''')])), (4, ri s788.1), (6, ri k_), (7, ri s788.1), (10, ri k_), (11, ri 0)], [[di s788.2]], [], 20⟩
theorem d4m : P59 2 C59.r.b.b.r.r.l.b (S59_1 k_ do_ do_' do_'' do_''' do_'''' s788) k = k (S59_2 k_ do_ do_' do_'' do_''' do_'''' s788) := by kernel_rfl
abbrev S59_3 : St := ⟨[(0, ri k_), (1, .one (.fn 85 [.cell [di do_], .cell (a00.leaves do_'), .cell [di do_''], .cell [di do_'''], .ref 0 0, .cell (a04.leaves do_'''')])), (4, ri s788.1), (6, ri k_), (7, ri s788.1), (10, ri k_), (11, ri s799.1)], [[di s799.2]], [], 20⟩
theorem c6m : P59 1 C59.r.b.b.r.r.l.b.r.r.b.b (S59_3 k_ do_ do_' do_'' do_''' do_'''' s788 s799) k = k ⟨[(0, ri k_), (1, .one (.fn 85 [.cell [di do_], .cell (a00.leaves do_'), .cell [di do_''], .cell [di do_'''], .ref 0 0, .cell (a04.leaves do_'''')])), (4, ri s788.1), (6, ri k_), (7, ri s788.1), (10, ri k_), (11, ri s799.1), (12, rb (decide (s799.1 < k_)))], [[di s799.2]], [], 20⟩ := by kernel_rfl
abbrev S59_4 : St := ⟨[(0, ri k_), (1, .one (.fn 85 [.cell [di do_], .cell (a00.leaves do_'), .cell [di do_''], .cell [di do_'''], .ref 0 0, .cell (a04.leaves do_'''')])), (4, ri s788.1), (5, ri s799.1), (6, ri k_), (7, ri s788.1), (10, ri k_), (11, ri s799.1)], [[di s799.2]], [], 20⟩
theorem d4n : P59 1 C59.r.b.b.r.r.l.b.r.r.b.b.r.r.l.b (S59_3 k_ do_ do_' do_'' do_''' do_'''' s788 s799) k = k (S59_4 k_ do_ do_' do_'' do_''' do_'''' s788 s799) := by kernel_rfl
abbrev S59_5 : St := ⟨[(0, ri k_), (1, .one (.fn 85 [.cell [di do_], .cell (a00.leaves do_'), .cell [di do_''], .cell [di do_'''], .ref 0 0, .cell (a04.leaves do_'''')])), (4, ri s788.1), (6, ri k_), (7, ri s788.1), (10, ri k_), (11, ri s799.1)], [[di y801]], [], 20⟩
theorem d4s : R59 C59.r.b.b.r.r.l.b.r.r.b.b.r.r.l.b.r (S59_4 k_ do_ do_' do_'' do_''' do_'''' s788 s799) q = Option.bind (a5s s788.1 s799.1 do_ do_' do_'' do_''' do_'''' s799.2) fun y801 : Int => q .normal (S59_5 k_ do_ do_' do_'' do_''' do_'''' s788 s799 y801) := by kernel_rfl
theorem d4t : R59 C59.r.b.b.r.r.l.b.r.r.b.b.r.r.r (S59_5 k_ do_ do_' do_'' do_''' do_'''' s788 s799 y801) q = q .normal ⟨[(0, ri k_), (1, .one (.fn 85 [.cell [di do_], .cell (a00.leaves do_'), .cell [di do_''], .cell [di do_'''], .ref 0 0, .cell (a04.leaves do_'''')])), (4, ri s788.1), (6, ri k_), (7, ri s788.1), (10, ri k_), (11, ri (IntKind.wrap .i64 (s799.1 + 1)))], [[di y801]], [], 20⟩ := by kernel_rfl
def a78 : Option ((Int × Int) ⊕ (Int × Int)) := (bif (decide (s799.1 < k_)) then (Option.bind (a5s s788.1 s799.1 do_ do_' do_'' do_''' do_'''' s799.2) (fun y801 : Int => (some (Sum.inl ((IntKind.wrap .i64 (s799.1 + 1)), y801))))) else (some (Sum.inr s799)))
abbrev S59_6 : St := ⟨[(0, ri k_), (1, .one (.fn 85 [.cell [di do_], .cell (a00.leaves do_'), .cell [di do_''], .cell [di do_'''], .ref 0 0, .cell (a04.leaves do_'''')])), (4, ri s788.1), (6, ri k_), (7, ri s788.1), (10, ri k_), (11, ri y802.1)], [[di y802.2]], [], 20⟩
theorem c6o : R59 C59.r.b.b.r.r.l.b.r.r.b.b (S59_3 k_ do_ do_' do_'' do_''' do_'''' s788 s799) (loopKont 1 q) = Option.bind (a78 k_ do_ do_' do_'' do_''' do_'''' s788 s799) (either (fun y : (Int × Int) => q .normal ⟨[(0, ri k_), (1, .one (.fn 85 [.cell [di do_], .cell (a00.leaves do_'), .cell [di do_''], .cell [di do_'''], .ref 0 0, .cell (a04.leaves do_'''')])), (4, ri s788.1), (6, ri k_), (7, ri s788.1), (10, ri k_), (11, ri y.1)], [[di y.2]], [], 20⟩) (fun y802 : (Int × Int) => q (.exit 2) (S59_6 k_ do_ do_' do_'' do_''' do_'''' s788 y802))) := by
  refine .trans ?_ (bif_b (bind_b fun y801 => e2_0) e2_1)
  refine (pre1 (c6m k_ do_ do_' do_'' do_''' do_'''' s788 s799 _)).trans ?_
  refine .trans seq_push ?_
  refine (cond_e (b := (decide (s799.1 < k_))) (st' := (S59_3 k_ do_ do_' do_'' do_''' do_'''' s788 s799)) ).trans (bif_g ?_ ?_)
  · refine (skip_eq).trans ?_
    refine (seqC_normal (st' := (S59_3 k_ do_ do_' do_'' do_''' do_'''' s788 s799))).trans ?_
    refine .trans seq_push ?_
    refine (block_push (id := 3)).trans ?_
    refine (pre1 (d4n k_ do_ do_' do_'' do_''' do_'''' s788 s799 _)).trans ?_
    refine (d4s k_ do_ do_' do_'' do_''' do_'''' s788 s799 _).trans (bind_g fun y801 => ?_)
    refine block_normal.trans ?_
    refine (seqC_normal (st' := (S59_5 k_ do_ do_' do_'' do_''' do_'''' s788 s799 y801))).trans ?_
    refine (d4t k_ do_ do_' do_'' do_''' do_'''' s788 s799 y801 _).trans ?_
    kernel_rfl
  · refine ((exit_eq (j := 2))).trans ?_
    refine seqC_exit.trans ?_
    kernel_rfl
theorem d4r : R59 C59.r.b.b.r.r.l.b.r.r.b (S59_2 k_ do_ do_' do_'' do_''' do_'''' s788) q = Option.bind (iterN (a78 k_ do_ do_' do_'' do_''' do_'''' s788) LL ((0 : Int), s788.2)) (fun y802 : (Int × Int) => q (.exit 2) (S59_6 k_ do_ do_' do_'' do_''' do_'''' s788 y802)) :=
  Eq.trans (by kernel_rfl) (loop_iter1 (S := fun s799 : (Int × Int) => (S59_3 k_ do_ do_' do_'' do_''' do_'''' s788 s799)) (Y1 := fun y802 : (Int × Int) => ((.exit 2), (S59_6 k_ do_ do_' do_'' do_''' do_'''' s788 y802))) (fun s q => c6o k_ do_ do_' do_'' do_''' do_'''' s788 s q) (fun z => rfl) LL ((0 : Int), s788.2))
abbrev S59_7 : St := ⟨[(0, ri k_), (1, .one (.fn 85 [.cell [di do_], .cell (a00.leaves do_'), .cell [di do_''], .cell [di do_'''], .ref 0 0, .cell (a04.leaves do_'''')])), (6, ri k_), (7, ri s788.1)], [[di y802.2]], [], 20⟩
theorem d4u : R59 C59.r.b.b.r.r.r (S59_7 k_ do_ do_' do_'' do_''' do_'''' s788 y802) q = q .normal ⟨[(0, ri k_), (1, .one (.fn 85 [.cell [di do_], .cell (a00.leaves do_'), .cell [di do_''], .cell [di do_'''], .ref 0 0, .cell (a04.leaves do_'''')])), (6, ri k_), (7, ri (IntKind.wrap .i64 (s788.1 + 1)))], [[di y802.2]], [], 20⟩ := by kernel_rfl
def a77 : Option ((Int × Int) ⊕ (Int × Int)) := (bif (decide (s788.1 < k_)) then (Option.bind (iterN (a78 k_ do_ do_' do_'' do_''' do_'''' s788) LL ((0 : Int), s788.2)) (fun y802 : (Int × Int) => (some (Sum.inl ((IntKind.wrap .i64 (s788.1 + 1)), y802.2))))) else (some (Sum.inr s788)))
abbrev S59_8 (y803 : (Int × Int)) : St := ⟨[(0, ri k_), (1, .one (.fn 85 [.cell [di do_], .cell (a00.leaves do_'), .cell [di do_''], .cell [di do_'''], .ref 0 0, .cell (a04.leaves do_'''')])), (6, ri k_), (7, ri y803.1)], [[di y803.2]], [], 20⟩
theorem c6n : R59 C59.r.b.b (S59_1 k_ do_ do_' do_'' do_''' do_'''' s788) (loopKont 1 q) = Option.bind (a77 k_ do_ do_' do_'' do_''' do_'''' s788) (either (fun y : (Int × Int) => q .normal ⟨[(0, ri k_), (1, .one (.fn 85 [.cell [di do_], .cell (a00.leaves do_'), .cell [di do_''], .cell [di do_'''], .ref 0 0, .cell (a04.leaves do_'''')])), (6, ri k_), (7, ri y.1)], [[di y.2]], [], 20⟩) (fun y803 : (Int × Int) => q (.exit 0) (S59_8 k_ do_ do_' do_'' do_''' do_'''' y803))) := by
  refine .trans ?_ (bif_b (bind_b fun y802 => e2_0) e2_1)
  refine (pre1 (d4o k_ do_ do_' do_'' do_''' do_'''' s788 _)).trans ?_
  refine .trans seq_push ?_
  refine (cond_e (b := (decide (s788.1 < k_))) (st' := (S59_1 k_ do_ do_' do_'' do_''' do_'''' s788)) ).trans (bif_g ?_ ?_)
  · refine (skip_eq).trans ?_
    refine (seqC_normal (st' := (S59_1 k_ do_ do_' do_'' do_''' do_'''' s788))).trans ?_
    refine .trans seq_push ?_
    refine (block_push (id := 1)).trans ?_
    refine (pre2 (d4m k_ do_ do_' do_'' do_''' do_'''' s788 _)).trans ?_
    refine (block_push (id := 2)).trans ?_
    refine (d4r k_ do_ do_' do_'' do_''' do_'''' s788 _).trans (bind_g fun y802 => ?_)
    refine block_same.trans ?_
    refine block_normal.trans ?_
    refine (seqC_normal (st' := (S59_7 k_ do_ do_' do_'' do_''' do_'''' s788 y802))).trans ?_
    refine (d4u k_ do_ do_' do_'' do_''' do_'''' s788 y802 _).trans ?_
    kernel_rfl
  · refine ((exit_eq (j := 0))).trans ?_
    refine seqC_exit.trans ?_
    kernel_rfl
theorem d4q : R59 C59.r.b (S59_0 k_ do_ do_' do_'' do_''' do_'''' c2_) q = Option.bind (iterN (a77 k_ do_ do_' do_'' do_''' do_'''') LL ((0 : Int), c2_)) (fun y803 : (Int × Int) => q (.exit 0) (S59_8 k_ do_ do_' do_'' do_''' do_'''' y803)) :=
  Eq.trans (by kernel_rfl) (loop_iter1 (S := fun s788 : (Int × Int) => (S59_1 k_ do_ do_' do_'' do_''' do_'''' s788)) (Y1 := fun y803 : (Int × Int) => ((.exit 0), (S59_8 k_ do_ do_' do_'' do_''' do_'''' y803))) (fun s q => c6n k_ do_ do_' do_'' do_''' do_'''' s q) (fun z => rfl) LL ((0 : Int), c2_))
/-- quilt/kern.slide -/
def b0k : Option Int := (Option.bind (iterN (a77 k_ do_ do_' do_'' do_''' do_'''') LL ((0 : Int), c2_)) (fun y803 : (Int × Int) => (some y803.2)))
theorem d4p (k : R → Heap → Option α) : callBody E cp58 ce1 α 84 [ri k_, .one (.fn 85 [.cell [di do_], .cell (a00.leaves do_'), .cell [di do_''], .cell [di do_'''], .ref 0 0, .cell (a04.leaves do_'''')])] [[di c2_]] k = Option.bind (b0k k_ do_ do_' do_'' do_''' do_'''' c2_) (fun y : Int => k (.tup []) [[di y]]) := by
  refine .trans ?_ (bind_b fun y803 => some_b)
  refine (body_is (nt := 20) (regs := [(0, ri k_), (1, .one (.fn 85 [.cell [di do_], .cell (a00.leaves do_'), .cell [di do_''], .cell [di do_'''], .ref 0 0, .cell (a04.leaves do_'''')]))]) (by kernel_rfl) (by kernel_rfl)).trans ?_
  refine (pre1 (d4l k_ do_ do_' do_'' do_''' do_'''' c2_ _)).trans ?_
  refine (block_push (id := 0)).trans ?_
  refine (d4q k_ do_ do_' do_'' do_''' do_'''' c2_ _).trans (bind_g fun y803 => ?_)
  refine block_same.trans ?_
  kernel_rfl
noncomputable def ce2 : CallE := withE ce1 84 (decA [pI, (.one (.fn 85 (.cons (.cell (.cons (.g (.int .i64)) .nil)) (.cons (.cell (.cons (.g (.int .i64)) (.cons (.g (.sl (.one (.int .i64)))) (.cons (.g (.int .i64)) (.cons (.g (.int .i64)) (.cons (.g (.int .i64)) (.cons (.g (.int .i64)) (.cons (.g (.int .i64)) (.cons (.g (.int .i64)) (.cons (.g (.int .i64)) (.cons (.g (.int .i64)) (.cons (.g (.int .i64)) (.cons (.g (.int .i64)) (.cons (.g (.sl (.one (.int .i8)))) (.cons (.g (.sl (.one (.int .i32)))) .nil))))))))))))))) (.cons (.cell (.cons (.g (.int .i64)) .nil)) (.cons (.cell (.cons (.g (.int .i64)) .nil)) (.cons (.ref 0 0) (.cons (.cell (.cons (.g (.int .i64)) (.cons (.g (.int .i64)) (.cons (.g (.int .i64)) (.cons (.g (.int .i64)) (.cons (.g (.int .i64)) (.cons (.g (.int .i64)) (.cons (.g (.sl (.one (.int .i8)))) .nil)))))))) .nil))))))))] [(.cons (.g (.int .i64)) .nil)]) .unit (fun y : Int => ()) (fun x y => [[di y]]) (fun x => b0k x.1.1 x.1.2.1.1.1 (x.1.2.1.2.1.1, x.1.2.1.2.1.2.1, x.1.2.1.2.1.2.2.1, x.1.2.1.2.1.2.2.2.1, x.1.2.1.2.1.2.2.2.2.1, x.1.2.1.2.1.2.2.2.2.2.1, x.1.2.1.2.1.2.2.2.2.2.2.1, x.1.2.1.2.1.2.2.2.2.2.2.2.1, x.1.2.1.2.1.2.2.2.2.2.2.2.2.1, x.1.2.1.2.1.2.2.2.2.2.2.2.2.2.1, x.1.2.1.2.1.2.2.2.2.2.2.2.2.2.2.1, x.1.2.1.2.1.2.2.2.2.2.2.2.2.2.2.2.1, x.1.2.1.2.1.2.2.2.2.2.2.2.2.2.2.2.2.1, x.1.2.1.2.1.2.2.2.2.2.2.2.2.2.2.2.2.2.1) x.1.2.1.2.2.1.1 x.1.2.1.2.2.2.1.1 (x.1.2.1.2.2.2.2.2.1.1, x.1.2.1.2.2.2.2.2.1.2.1, x.1.2.1.2.2.2.2.2.1.2.2.1, x.1.2.1.2.2.2.2.2.1.2.2.2.1, x.1.2.1.2.2.2.2.2.1.2.2.2.2.1, x.1.2.1.2.2.2.2.2.1.2.2.2.2.2.1, x.1.2.1.2.2.2.2.2.1.2.2.2.2.2.2.1) x.2.1.1)
theorem a3q : EffOK E ce2 := conE eok c8i e68 fun α x k => Eq.mp (by kernel_rfl) (d4p x.1.1 x.1.2.1.1.1 (x.1.2.1.2.1.1, x.1.2.1.2.1.2.1, x.1.2.1.2.1.2.2.1, x.1.2.1.2.1.2.2.2.1, x.1.2.1.2.1.2.2.2.2.1, x.1.2.1.2.1.2.2.2.2.2.1, x.1.2.1.2.1.2.2.2.2.2.2.1, x.1.2.1.2.1.2.2.2.2.2.2.2.1, x.1.2.1.2.1.2.2.2.2.2.2.2.2.1, x.1.2.1.2.1.2.2.2.2.2.2.2.2.2.1, x.1.2.1.2.1.2.2.2.2.2.2.2.2.2.2.1, x.1.2.1.2.1.2.2.2.2.2.2.2.2.2.2.2.1, x.1.2.1.2.1.2.2.2.2.2.2.2.2.2.2.2.2.1, x.1.2.1.2.1.2.2.2.2.2.2.2.2.2.2.2.2.2.1) x.1.2.1.2.2.1.1 x.1.2.1.2.2.2.1.1 (x.1.2.1.2.2.2.2.2.1.1, x.1.2.1.2.2.2.2.2.1.2.1, x.1.2.1.2.2.2.2.2.1.2.2.1, x.1.2.1.2.2.2.2.2.1.2.2.2.1, x.1.2.1.2.2.2.2.2.1.2.2.2.2.1, x.1.2.1.2.2.2.2.2.1.2.2.2.2.2.1, x.1.2.1.2.2.2.2.2.1.2.2.2.2.2.2.1) x.2.1.1 k)
end
section
variable {α β : Type} (low : Int) (high : Int) (k : St → Option α)
noncomputable abbrev C60 := codeOf E.P 96
noncomputable abbrev P60 := @preK α E 96 cp58 ce2
theorem d35 : P60 2 C60 ⟨[(0, ri low), (1, ri high)], [], [], 6⟩ k = k ⟨[(4, .one (.fn 97 [.cell [di low], .cell [di high]]))], [], [], 6⟩ := by kernel_rfl
/-- quilt/fixed.held -/
def b0t (K : ((Int × Unit) × (Int × Unit) × Unit) → β) : β := (K ((low, ()), (high, ()), ()))
def a0r : ((Int × Unit) × (Int × Unit) × Unit) := b0t low high (fun y => y)
theorem d8a (K : ((Int × Unit) × (Int × Unit) × Unit) → β) : b0t low high K = K (a0r low high) := rfl
theorem d36 : stepS E cp58 ce2 96 [ri low, ri high] = (fun y : ((Int × Unit) × (Int × Unit) × Unit) => some (.one (.fn 97 [.cell [di y.1.1], .cell [di y.2.1.1]]) : R)) (a0r low high) := by
  refine Eq.trans ?_ (d8a low high (fun y : ((Int × Unit) × (Int × Unit) × Unit) => some (.one (.fn 97 [.cell [di y.1.1], .cell [di y.2.1.1]]) : R)))
  refine (stepG_is (nt := 6) (regs := [(0, ri low), (1, ri high)])).trans ?_
  unfold b0t
  refine (pre2 (d35 low high _)).trans ?_
  refine (ret_eq).trans ?_
  kernel_rfl
noncomputable def cp59 : CallP := withC cp58 96 [pI, pI] (.one (.one (.fn 97 (.cons (.cell (.cons (.g (.int .i64)) .nil)) (.cons (.cell (.cons (.g (.int .i64)) .nil)) .nil))))) (fun y : ((Int × Unit) × (Int × Unit) × Unit) => y) (fun x => some (a0r x.1 x.2.1))
theorem e5d : PureOK E cp59 := conS eok c8i a3q fun x => Eq.mp (by kernel_rfl) (d36 x.1 x.2.1)
end
section
variable {α β : Type} (x_ : Int) (c1_ : Int) (c2_ : Int) (k : St → Option α)
noncomputable abbrev C61 := codeOf E.P 97
noncomputable abbrev P61 := @preK α E 97 cp59 ce2
theorem c52 : P61 2 C61 ⟨[(0, ri x_), (1, .one (.cell [di c1_])), (2, .one (.cell [di c2_]))], [], [], 10⟩ k = k ⟨[(4, ri (min (max x_ c1_) c2_))], [], [], 10⟩ := by kernel_rfl
/-- quilt/fixed.held$1 -/
def a87 (K : Int → β) : β := (K (min (max x_ c1_) c2_))
def a1e : Int := a87 x_ c1_ c2_ (fun y => y)
theorem c94 (K : Int → β) : a87 x_ c1_ c2_ K = K (a1e x_ c1_ c2_) := rfl
theorem c53 : stepS E cp59 ce2 97 [ri x_, .one (.cell [di c1_]), .one (.cell [di c2_])] = (fun y : Int => some (ri y : R)) (a1e x_ c1_ c2_) := by
  refine Eq.trans ?_ (c94 x_ c1_ c2_ (fun y : Int => some (ri y : R)))
  refine (stepG_is (nt := 10) (regs := [(0, ri x_), (1, .one (.cell [di c1_])), (2, .one (.cell [di c2_]))])).trans ?_
  unfold a87
  refine (pre2 (c52 x_ c1_ c2_ _)).trans ?_
  refine (ret_eq).trans ?_
  kernel_rfl
noncomputable def cp60 : CallP := withC cp59 97 [pI, (.one (.cell (.cons (.g (.int .i64)) .nil))), (.one (.cell (.cons (.g (.int .i64)) .nil)))] (.one pI) (fun y : Int => y) (fun x => some (a1e x.1 x.2.1.1 x.2.2.1.1))
theorem e5e : PureOK E cp60 := conS eok e5d a3q fun x => Eq.mp (by kernel_rfl) (c53 x.1 x.2.1.1 x.2.2.1.1)
end
noncomputable abbrev C62 := codeOf E.P 93
noncomputable abbrev P62 {α : Type} := @preK α E 93 cp60 ce2
def b0r {β : Type} (x_ : Int) (K : Int → β) : β := (K (a1e x_ (((a0r (-128 : Int) (127 : Int)).1).1) (((a0r (-128 : Int) (127 : Int)).2.1).1)))
def a5w (x_ : Int) : Int := b0r x_ (fun y => y)
theorem c1v {β : Type} (x_ : Int) (K : Int → β) : b0r x_ K = K (a5w x_) := rfl
theorem c8y {α : Type} (x_ : Int) (k : St → Option α) : P62 2 C62 ⟨[(0, ri x_)], [], [], 6⟩ k = k ⟨[(2, ri (a5w x_))], [], [], 6⟩ := Eq.trans (by kernel_rfl) (c1v x_ (fun y805 : Int => k ⟨[(2, ri y805)], [], [], 6⟩))
/-- quilt/fixed.Clamp -/
def a9h {β : Type} (x_ : Int) (K : Int → β) : β := (K (a5w x_))
def a2g (x_ : Int) : Int := a9h x_ (fun y => y)
theorem d34 {β : Type} (x_ : Int) (K : Int → β) : a9h x_ K = K (a2g x_) := rfl
theorem c8x (x_ : Int) : stepS E cp60 ce2 93 [ri x_] = (fun y : Int => some (ri y : R)) (a2g x_) := by
  refine Eq.trans ?_ (d34 x_ (fun y : Int => some (ri y : R)))
  refine (stepG_is (nt := 6) (regs := [(0, ri x_)])).trans ?_
  unfold a9h
  refine (pre2 (c8y x_ _)).trans ?_
  refine (ret_eq).trans ?_
  kernel_rfl
noncomputable def cp61 : CallP := withC cp60 93 [pI] (.one pI) (fun y : Int => y) (fun x => some (a2g x.1))
theorem e5f : PureOK E cp61 := conS eok e5e a3q fun x => Eq.mp (by kernel_rfl) (c8x x.1)
noncomputable abbrev C63 := codeOf E.P 95
noncomputable abbrev P63 {α : Type} := @preK α E 95 cp61 ce2
def b53 {β : Type} (x_ : Int) (K : Int → β) : β := (K (a1e x_ (((a0r (-2147483648 : Int) (2147483647 : Int)).1).1) (((a0r (-2147483648 : Int) (2147483647 : Int)).2.1).1)))
def a86 (x_ : Int) : Int := b53 x_ (fun y => y)
theorem c8z {β : Type} (x_ : Int) (K : Int → β) : b53 x_ K = K (a86 x_) := rfl
theorem d89 {α : Type} (x_ : Int) (k : St → Option α) : P63 2 C63 ⟨[(0, ri x_)], [], [], 6⟩ k = k ⟨[(2, ri (a86 x_))], [], [], 6⟩ := Eq.trans (by kernel_rfl) (c8z x_ (fun y806 : Int => k ⟨[(2, ri y806)], [], [], 6⟩))
/-- quilt/fixed.Sat -/
def b3r {β : Type} (x_ : Int) (K : Int → β) : β := (K (a86 x_))
def a8v (x_ : Int) : Int := b3r x_ (fun y => y)
theorem e1d {β : Type} (x_ : Int) (K : Int → β) : b3r x_ K = K (a8v x_) := rfl
theorem d88 (x_ : Int) : stepS E cp61 ce2 95 [ri x_] = (fun y : Int => some (ri y : R)) (a8v x_) := by
  refine Eq.trans ?_ (e1d x_ (fun y : Int => some (ri y : R)))
  refine (stepG_is (nt := 6) (regs := [(0, ri x_)])).trans ?_
  unfold b3r
  refine (pre2 (d89 x_ _)).trans ?_
  refine (ret_eq).trans ?_
  kernel_rfl
noncomputable def cp62 : CallP := withC cp61 95 [pI] (.one pI) (fun y : Int => y) (fun x => some (a8v x.1))
theorem e2c : PureOK E cp62 := conS eok e5f a3q fun x => Eq.mp (by kernel_rfl) (d88 x.1)
def a9i (x_ : Int) (by_ : Int) : Option Int := none
noncomputable def cp63 : CallP := withC cp62 90 [(.one (.g (.int .i64))), (.one (.g (.int .i64)))] (.one (.one (.g (.int .i64)))) (fun y : Int => y) (fun x => a9i x.1 x.2.1)
theorem e5g : PureOK E cp63 := withC_ok e2c (stepS_ok eok e2c a3q) fun x y h => by cases h
section
variable {α : Type} (x_ : Int) (by_ : Int) (k : St → Option α)
noncomputable abbrev C65 := codeOf E.P 90
noncomputable abbrev P65 := @preK α E 90 cp63 ce2
abbrev S65_0 : St := ⟨[(0, ri x_), (1, ri (max by_ (1 : Int)))], [], [], 21⟩
theorem c1w : P65 2 C65 ⟨[(0, ri x_), (1, ri by_)], [], [], 21⟩ k = k (S65_0 x_ by_) := by kernel_rfl
theorem b3q : P65 1 C65.r.r.l (S65_0 x_ by_) k = k ⟨[(0, ri x_), (1, ri (max by_ (1 : Int))), (8, rb (decide (x_ < 0)))], [], [], 21⟩ := by kernel_rfl
theorem c1y : P65 1 C65.r.r.l.r.t (S65_0 x_ by_) k = Option.bind (a9i (max (IntKind.wrap .i64 (0 - x_)) (0 : Int)) (max by_ (1 : Int))) fun y808 : Int => k ⟨[(4, ri (IntKind.wrap .i64 (0 - y808)))], [], [], 21⟩ := by kernel_rfl
def a8u : Option Int := (bif ((max by_ (1 : Int)) == 0) then none else (some (IntKind.wrap .i64 (Int.tdiv (IntKind.wrap .i64 (x_ + (IntKind.wrap .i64 (Int.tdiv (max by_ (1 : Int)) (2 : Int))))) (max by_ (1 : Int))))))
theorem c1z : P65 1 C65.r.r.r (S65_0 x_ by_) k = Option.bind (a8u x_ by_) (fun y809 : Int => k ⟨[(4, ri y809)], [], [], 21⟩) := .trans (by kernel_rfl) (bif_b none_b some_b)
/-- quilt/fixed.Div -/
def a5r : Option Int := (bif (decide (x_ < 0)) then (Option.bind (a9i (max (IntKind.wrap .i64 (0 - x_)) (0 : Int)) (max by_ (1 : Int))) (fun y808 : Int => (some (IntKind.wrap .i64 (0 - y808))))) else (Option.bind (a8u x_ by_) (fun y809 : Int => (some y809))))
theorem c1x : stepS E cp63 ce2 90 [ri x_, ri by_] = Option.bind (a5r x_ by_) (fun y : Int => some (ri y : R)) := by
  refine .trans ?_ (bif_b (bind_b fun y808 => some_b) (bind_b fun y809 => some_b))
  refine (stepG_is (nt := 21) (regs := [(0, ri x_), (1, ri by_)])).trans ?_
  refine (pre2 (c1w x_ by_ _)).trans ?_
  refine .trans seq_push ?_
  refine (pre1 (b3q x_ by_ _)).trans ?_
  refine (cond_e (b := (decide (x_ < 0))) (st' := (S65_0 x_ by_)) ).trans (bif_g ?_ ?_)
  · refine (pre1 (c1y x_ by_ _)).trans (bind_g fun y808 => ?_)
    refine (ret_eq).trans ?_
    refine seqC_ret.trans ?_
    kernel_rfl
  · refine (skip_eq).trans ?_
    refine (seqC_normal (st' := (S65_0 x_ by_))).trans ?_
    refine (pre1 (c1z x_ by_ _)).trans (bind_g fun y809 => ?_)
    refine (ret_eq).trans ?_
    kernel_rfl
noncomputable def cp64 : CallP := withC cp63 90 [pI, pI] (.one pI) (fun y : Int => y) (fun x => a5r x.1 x.2.1)
theorem e5h : PureOK E cp64 := conS eok e5g a3q fun x => Eq.mp (by kernel_rfl) (c1x x.1 x.2.1)
end
section
variable {α : Type} (x_ : Int) (by_ : Int) (k : St → Option α)
noncomputable abbrev C66 := codeOf E.P 90
noncomputable abbrev P66 := @preK α E 90 cp64 ce2
abbrev S66_0 : St := ⟨[(0, ri x_), (1, ri (max by_ (1 : Int)))], [], [], 21⟩
theorem d84 : P66 2 C66 ⟨[(0, ri x_), (1, ri by_)], [], [], 21⟩ k = k (S66_0 x_ by_) := by kernel_rfl
theorem b8o : P66 1 C66.r.r.l (S66_0 x_ by_) k = k ⟨[(0, ri x_), (1, ri (max by_ (1 : Int))), (8, rb (decide (x_ < 0)))], [], [], 21⟩ := by kernel_rfl
theorem d86 : P66 1 C66.r.r.l.r.t (S66_0 x_ by_) k = Option.bind (a5r (max (IntKind.wrap .i64 (0 - x_)) (0 : Int)) (max by_ (1 : Int))) fun y811 : Int => k ⟨[(4, ri (IntKind.wrap .i64 (0 - y811)))], [], [], 21⟩ := by kernel_rfl
def b52 : Option Int := (bif ((max by_ (1 : Int)) == 0) then none else (some (IntKind.wrap .i64 (Int.tdiv (IntKind.wrap .i64 (x_ + (IntKind.wrap .i64 (Int.tdiv (max by_ (1 : Int)) (2 : Int))))) (max by_ (1 : Int))))))
theorem d87 : P66 1 C66.r.r.r (S66_0 x_ by_) k = Option.bind (b52 x_ by_) (fun y812 : Int => k ⟨[(4, ri y812)], [], [], 21⟩) := .trans (by kernel_rfl) (bif_b none_b some_b)
/-- quilt/fixed.Div -/
def a8t : Option Int := (bif (decide (x_ < 0)) then (Option.bind (a5r (max (IntKind.wrap .i64 (0 - x_)) (0 : Int)) (max by_ (1 : Int))) (fun y811 : Int => (some (IntKind.wrap .i64 (0 - y811))))) else (Option.bind (b52 x_ by_) (fun y812 : Int => (some y812))))
theorem d85 : stepS E cp64 ce2 90 [ri x_, ri by_] = Option.bind (a8t x_ by_) (fun y : Int => some (ri y : R)) := by
  refine .trans ?_ (bif_b (bind_b fun y811 => some_b) (bind_b fun y812 => some_b))
  refine (stepG_is (nt := 21) (regs := [(0, ri x_), (1, ri by_)])).trans ?_
  refine (pre2 (d84 x_ by_ _)).trans ?_
  refine .trans seq_push ?_
  refine (pre1 (b8o x_ by_ _)).trans ?_
  refine (cond_e (b := (decide (x_ < 0))) (st' := (S66_0 x_ by_)) ).trans (bif_g ?_ ?_)
  · refine (pre1 (d86 x_ by_ _)).trans (bind_g fun y811 => ?_)
    refine (ret_eq).trans ?_
    refine seqC_ret.trans ?_
    kernel_rfl
  · refine (skip_eq).trans ?_
    refine (seqC_normal (st' := (S66_0 x_ by_))).trans ?_
    refine (pre1 (d87 x_ by_ _)).trans (bind_g fun y812 => ?_)
    refine (ret_eq).trans ?_
    kernel_rfl
noncomputable def cp65 : CallP := withC cp64 90 [pI, pI] (.one pI) (fun y : Int => y) (fun x => a8t x.1 x.2.1)
theorem e5i : PureOK E cp65 := conS eok e5h a3q fun x => Eq.mp (by kernel_rfl) (d85 x.1 x.2.1)
end
section
variable {α : Type} (x_ : Int) (shift : Int) (k : St → Option α)
noncomputable abbrev C67 := codeOf E.P 94
noncomputable abbrev P67 := @preK α E 94 cp65 ce2
def b0s : Option Int := (bif (decide ((0:Int) ≤ (a1e shift (((a0r (0 : Int) (31 : Int)).1).1) (((a0r (0 : Int) (31 : Int)).2.1).1)))) then (Option.bind (a8t x_ (IntKind.wrap .i64 ((1 : Int) * 2 ^ min (Int.toNat (a1e shift (((a0r (0 : Int) (31 : Int)).1).1) (((a0r (0 : Int) (31 : Int)).2.1).1))) (IntKind.bits .i64)))) (fun y813 : Int => (some y813))) else none)
theorem c93 : P67 2 C67 ⟨[(0, ri x_), (1, ri shift)], [], [], 11⟩ k = Option.bind (b0s x_ shift) (fun y814 : Int => k ⟨[(4, ri y814)], [], [], 11⟩) := .trans (by kernel_rfl) (bif_b (bind_b fun y813 => some_b) none_b)
/-- quilt/fixed.Shift -/
def a8o : Option Int := (Option.bind (b0s x_ shift) (fun y814 : Int => (some y814)))
theorem c92 : stepS E cp65 ce2 94 [ri x_, ri shift] = Option.bind (a8o x_ shift) (fun y : Int => some (ri y : R)) := by
  refine .trans ?_ (bind_b fun y814 => some_b)
  refine (stepG_is (nt := 11) (regs := [(0, ri x_), (1, ri shift)])).trans ?_
  refine (pre2 (c93 x_ shift _)).trans (bind_g fun y814 => ?_)
  refine (ret_eq).trans ?_
  kernel_rfl
noncomputable def cp66 : CallP := withC cp65 94 [pI, pI] (.one pI) (fun y : Int => y) (fun x => a8o x.1 x.2.1)
theorem e5j : PureOK E cp66 := conS eok e5i a3q fun x => Eq.mp (by kernel_rfl) (c92 x.1 x.2.1)
end
section
variable {α : Type} (acc : Int) (mul : Int) (shift : Int) (zero : Int) (k : St → Option α)
noncomputable abbrev C68 := codeOf E.P 86
noncomputable abbrev P68 := @preK α E 86 cp66 ce2
theorem c91 : P68 2 C68 ⟨[(0, ri acc), (1, ri mul), (2, ri shift), (3, ri zero)], [], [], 21⟩ k = Option.bind (a8o (IntKind.wrap .i64 ((a8v acc) * (a1e mul (((a0r (1 : Int) (32767 : Int)).1).1) (((a0r (1 : Int) (32767 : Int)).2.1).1)))) shift) fun y815 : Int => k ⟨[(8, ri (a2g (IntKind.wrap .i64 ((a2g zero) + y815))))], [], [], 21⟩ := by kernel_rfl
/-- quilt/fixed.Scale -/
def a1c : Option Int := (Option.bind (a8o (IntKind.wrap .i64 ((a8v acc) * (a1e mul (((a0r (1 : Int) (32767 : Int)).1).1) (((a0r (1 : Int) (32767 : Int)).2.1).1)))) shift) (fun y815 : Int => (some (a2g (IntKind.wrap .i64 ((a2g zero) + y815))))))
theorem c90 : stepS E cp66 ce2 86 [ri acc, ri mul, ri shift, ri zero] = Option.bind (a1c acc mul shift zero) (fun y : Int => some (ri y : R)) := by
  refine .trans ?_ (bind_b fun y815 => some_b)
  refine (stepG_is (nt := 21) (regs := [(0, ri acc), (1, ri mul), (2, ri shift), (3, ri zero)])).trans ?_
  refine (pre2 (c91 acc mul shift zero _)).trans (bind_g fun y815 => ?_)
  refine (ret_eq).trans ?_
  kernel_rfl
noncomputable def cp67 : CallP := withC cp66 86 [pI, pI, pI, pI] (.one pI) (fun y : Int => y) (fun x => a1c x.1 x.2.1 x.2.2.1 x.2.2.2.1)
theorem e5k : PureOK E cp67 := conS eok e5j a3q fun x => Eq.mp (by kernel_rfl) (c90 x.1 x.2.1 x.2.2.1 x.2.2.2.1)
end
section
variable {α : Type} (y_ : Int) (x_ : Int) (c_ : Int) (c3_ : Node) (c4_ : pane) (y804 : Int) (k : St → Option α)
noncomputable abbrev C69 := codeOf E.P 83
noncomputable abbrev P69 := @preK α E 83 cp67 ce2
def b1f : Option Unit := (bif (decide ((0 : Int) ≤ c_)) then (bif (decide (c_ < (c3_.2.2.2.2.2.2.2.2.2.2.2.2.2.length : Int))) then (some ()) else none) else none)
abbrev S69_0 : St := ⟨[(3, rC a00 c3_), (4, rC a04 c4_), (5, .one (.cell [di y_])), (6, .one (.cell [di x_])), (7, .one (.cell [di c_])), (9, rF 0)], [[di (IntKind.wrap .i64 (gt c3_.2.2.2.2.2.2.2.2.2.2.2.2.2 c_ (0 : Int)))]], [], 28⟩
theorem c9y : P69 2 C69 ⟨[(0, ri y_), (1, ri x_), (2, ri c_), (3, rC a00 c3_), (4, rC a04 c4_)], [], [], 28⟩ k = Option.bind (b1f c_ c3_) (fun y756 : Unit => k (S69_0 y_ x_ c_ c3_ c4_)) := .trans (by kernel_rfl) (bif_b (bif_b some_b none_b) none_b)
abbrev S69_1 : St := ⟨[(3, rC a00 c3_), (9, rF 0)], [[di y804]], [], 28⟩
theorem c9z : P69 1 C69.r.r (S69_0 y_ x_ c_ c3_ c4_) k = Option.bind (b0k c3_.2.2.1 y_ c3_ x_ c_ c4_ (IntKind.wrap .i64 (gt c3_.2.2.2.2.2.2.2.2.2.2.2.2.2 c_ (0 : Int)))) fun y804 : Int => k (S69_1 c3_ y804) := by kernel_rfl
theorem d00 : P69 1 C69.r.r.r (S69_1 c3_ y804) k = Option.bind (a1c y804 c3_.2.2.2.2.2.2.1 c3_.2.2.2.2.2.2.2.1 c3_.2.2.2.2.2.2.2.2.1) fun y816 : Int => k ⟨[(8, ri y816)], [[]], [], 28⟩ := by kernel_rfl
/-- quilt/kern.conv$1 -/
def b3s : Option Int := (Option.bind (b1f c_ c3_) (fun y756 : Unit => (Option.bind (b0k c3_.2.2.1 y_ c3_ x_ c_ c4_ (IntKind.wrap .i64 (gt c3_.2.2.2.2.2.2.2.2.2.2.2.2.2 c_ (0 : Int)))) (fun y804 : Int => (Option.bind (a1c y804 c3_.2.2.2.2.2.2.1 c3_.2.2.2.2.2.2.2.1 c3_.2.2.2.2.2.2.2.2.1) (fun y816 : Int => (some y816)))))))
theorem c9x : stepS E cp67 ce2 83 [ri y_, ri x_, ri c_, rC a00 c3_, rC a04 c4_] = Option.bind (b3s y_ x_ c_ c3_ c4_) (fun y : Int => some (ri y : R)) := by
  refine .trans ?_ (bind_b fun y756 => (bind_b fun y804 => (bind_b fun y816 => some_b)))
  refine (stepG_is (nt := 28) (regs := [(0, ri y_), (1, ri x_), (2, ri c_), (3, rC a00 c3_), (4, rC a04 c4_)])).trans ?_
  refine (pre2 (c9y y_ x_ c_ c3_ c4_ _)).trans (bind_g fun y756 => ?_)
  refine (pre1 (c9z y_ x_ c_ c3_ c4_ _)).trans (bind_g fun y804 => ?_)
  refine (pre1 (d00 c3_ y804 _)).trans (bind_g fun y816 => ?_)
  refine (ret_eq).trans ?_
  kernel_rfl
noncomputable def cp68 : CallP := withC cp67 83 [pI, pI, pI, (.one (.cell (.cons (.g (.int .i64)) (.cons (.g (.sl (.one (.int .i64)))) (.cons (.g (.int .i64)) (.cons (.g (.int .i64)) (.cons (.g (.int .i64)) (.cons (.g (.int .i64)) (.cons (.g (.int .i64)) (.cons (.g (.int .i64)) (.cons (.g (.int .i64)) (.cons (.g (.int .i64)) (.cons (.g (.int .i64)) (.cons (.g (.int .i64)) (.cons (.g (.sl (.one (.int .i8)))) (.cons (.g (.sl (.one (.int .i32)))) .nil)))))))))))))))), (.one (.cell (.cons (.g (.int .i64)) (.cons (.g (.int .i64)) (.cons (.g (.int .i64)) (.cons (.g (.int .i64)) (.cons (.g (.int .i64)) (.cons (.g (.int .i64)) (.cons (.g (.sl (.one (.int .i8)))) .nil)))))))))] (.one pI) (fun y : Int => y) (fun x => b3s x.1 x.2.1 x.2.2.1 (x.2.2.2.1.1, x.2.2.2.1.2.1, x.2.2.2.1.2.2.1, x.2.2.2.1.2.2.2.1, x.2.2.2.1.2.2.2.2.1, x.2.2.2.1.2.2.2.2.2.1, x.2.2.2.1.2.2.2.2.2.2.1, x.2.2.2.1.2.2.2.2.2.2.2.1, x.2.2.2.1.2.2.2.2.2.2.2.2.1, x.2.2.2.1.2.2.2.2.2.2.2.2.2.1, x.2.2.2.1.2.2.2.2.2.2.2.2.2.2.1, x.2.2.2.1.2.2.2.2.2.2.2.2.2.2.2.1, x.2.2.2.1.2.2.2.2.2.2.2.2.2.2.2.2.1, x.2.2.2.1.2.2.2.2.2.2.2.2.2.2.2.2.2.1) (x.2.2.2.2.1.1, x.2.2.2.2.1.2.1, x.2.2.2.2.1.2.2.1, x.2.2.2.2.1.2.2.2.1, x.2.2.2.2.1.2.2.2.2.1, x.2.2.2.2.1.2.2.2.2.2.1, x.2.2.2.2.1.2.2.2.2.2.2.1))
theorem e5l : PureOK E cp68 := conS eok e5k a3q fun x => Eq.mp (by kernel_rfl) (c9x x.1 x.2.1 x.2.2.1 (x.2.2.2.1.1, x.2.2.2.1.2.1, x.2.2.2.1.2.2.1, x.2.2.2.1.2.2.2.1, x.2.2.2.1.2.2.2.2.1, x.2.2.2.1.2.2.2.2.2.1, x.2.2.2.1.2.2.2.2.2.2.1, x.2.2.2.1.2.2.2.2.2.2.2.1, x.2.2.2.1.2.2.2.2.2.2.2.2.1, x.2.2.2.1.2.2.2.2.2.2.2.2.2.1, x.2.2.2.1.2.2.2.2.2.2.2.2.2.2.1, x.2.2.2.1.2.2.2.2.2.2.2.2.2.2.2.1, x.2.2.2.1.2.2.2.2.2.2.2.2.2.2.2.2.1, x.2.2.2.1.2.2.2.2.2.2.2.2.2.2.2.2.2.1) (x.2.2.2.2.1.1, x.2.2.2.2.1.2.1, x.2.2.2.2.1.2.2.1, x.2.2.2.2.1.2.2.2.1, x.2.2.2.2.1.2.2.2.2.1, x.2.2.2.2.1.2.2.2.2.2.1, x.2.2.2.2.1.2.2.2.2.2.2.1))
end
section
variable {α : Type} (a0 : Int) (a1 : Int) (c_ : Int) (c3_ : Node) (c4_ : pane) (y820 : Int) (s837 : (Int × Int)) (y841 : Int) (y842 : (Int × Int)) (k : St → Option α) (q : Kont α)
noncomputable abbrev C70 := codeOf E.P 87
noncomputable abbrev P70 := @preK α E 87 cp68 ce2
noncomputable abbrev R70 := @runCode α E 87 cp68 ce2
def b1g : Option Int := (bif (decide ((0 : Int) ≤ c_)) then (bif (decide (c_ < (c3_.2.2.2.2.2.2.2.2.2.2.2.2.2.length : Int))) then (Option.bind (a1s (c4_.1, c4_.2.1, c4_.2.2.1)) (fun y819 : Int => (some y819))) else none) else none)
abbrev S70_0 : St := ⟨[(2, ri c_), (3, rC a00 c3_), (4, rC a04 c4_), (9, ri (IntKind.wrap .i64 (gt c3_.2.2.2.2.2.2.2.2.2.2.2.2.2 c_ (0 : Int)))), (10, ri y820)], [], [], 60⟩
theorem d06 : P70 2 C70 ⟨[(0, ri a0), (1, ri a1), (2, ri c_), (3, rC a00 c3_), (4, rC a04 c4_)], [], [], 60⟩ k = Option.bind (b1g c_ c3_ c4_) (fun y820 : Int => k (S70_0 c_ c3_ c4_ y820)) := .trans (by kernel_rfl) (bif_b (bif_b (bind_b fun y819 => some_b) none_b) none_b)
abbrev S70_1 : St := ⟨[(2, ri c_), (3, rC a00 c3_), (4, rC a04 c4_), (9, ri (IntKind.wrap .i64 (gt c3_.2.2.2.2.2.2.2.2.2.2.2.2.2 c_ (0 : Int)))), (10, ri y820), (25, rl (.one (.int .i8)) c4_.2.2.2.2.2.2), (26, ri (c4_.2.2.2.2.2.2.length : Int)), (27, ri 0)], [], [], 60⟩
theorem d02 : P70 1 C70.r.r.l (S70_0 c_ c3_ c4_ y820) k = k (S70_1 c_ c3_ c4_ y820) := by kernel_rfl
abbrev S70_2 : St := ⟨[(2, ri c_), (3, rC a00 c3_), (4, rC a04 c4_), (9, ri s837.1), (10, ri y820), (25, rl (.one (.int .i8)) c4_.2.2.2.2.2.2), (26, ri (c4_.2.2.2.2.2.2.length : Int)), (27, ri s837.2)], [], [], 60⟩
theorem d03 : P70 1 C70.r.r.l.r.b.b (S70_2 c_ c3_ c4_ y820 s837) k = k ⟨[(2, ri c_), (3, rC a00 c3_), (4, rC a04 c4_), (9, ri s837.1), (10, ri y820), (25, rl (.one (.int .i8)) c4_.2.2.2.2.2.2), (26, ri (c4_.2.2.2.2.2.2.length : Int)), (27, ri s837.2), (28, rb (decide (s837.2 < (c4_.2.2.2.2.2.2.length : Int))))], [], [], 60⟩ := by kernel_rfl
def b1h : Option Unit := (bif (decide ((0 : Int) ≤ s837.2)) then (bif (decide (s837.2 < (c4_.2.2.2.2.2.2.length : Int))) then (some ()) else none) else none)
abbrev S70_3 : St := ⟨[(2, ri c_), (3, rC a00 c3_), (4, rC a04 c4_), (9, ri s837.1), (10, ri y820), (11, ri s837.2), (12, rk .i8 (gt c4_.2.2.2.2.2.2 s837.2 (0 : Int))), (25, rl (.one (.int .i8)) c4_.2.2.2.2.2.2), (26, ri (c4_.2.2.2.2.2.2.length : Int)), (27, ri s837.2)], [], [], 60⟩
theorem d07 : P70 1 C70.r.r.l.r.b.b.r.r.l.b (S70_2 c_ c3_ c4_ y820 s837) k = Option.bind (b1h c4_ s837) (fun y840 : Unit => k (S70_3 c_ c3_ c4_ y820 s837)) := .trans (by kernel_rfl) (bif_b (bif_b some_b none_b) none_b)
def b1i : Option Int := (bif (decide ((0 : Int) ≤ (IntKind.wrap .i64 ((IntKind.wrap .i64 (c_ * y820)) + s837.2)))) then (bif (decide ((IntKind.wrap .i64 ((IntKind.wrap .i64 (c_ * y820)) + s837.2)) < (c3_.2.2.2.2.2.2.2.2.2.2.2.2.1.length : Int))) then (some (IntKind.wrap .i64 (s837.1 + (IntKind.wrap .i64 ((IntKind.wrap .i64 ((IntKind.wrap .i64 (gt c4_.2.2.2.2.2.2 s837.2 (0 : Int))) - c4_.2.2.2.1)) * (IntKind.wrap .i64 (gt c3_.2.2.2.2.2.2.2.2.2.2.2.2.1 (IntKind.wrap .i64 ((IntKind.wrap .i64 (c_ * y820)) + s837.2)) (0 : Int)))))))) else none) else none)
abbrev S70_4 : St := ⟨[(2, ri c_), (3, rC a00 c3_), (4, rC a04 c4_), (9, ri y841), (10, ri y820), (25, rl (.one (.int .i8)) c4_.2.2.2.2.2.2), (26, ri (c4_.2.2.2.2.2.2.length : Int)), (27, ri s837.2)], [], [], 60⟩
theorem d08 : R70 C70.r.r.l.r.b.b.r.r.l.b.r (S70_3 c_ c3_ c4_ y820 s837) q = Option.bind (b1i c_ c3_ c4_ y820 s837) (fun y841 : Int => q .normal (S70_4 c_ c3_ c4_ y820 s837 y841)) := .trans (by kernel_rfl) (bif_b (bif_b some_b none_b) none_b)
theorem d09 : R70 C70.r.r.l.r.b.b.r.r.r (S70_4 c_ c3_ c4_ y820 s837 y841) q = q .normal ⟨[(2, ri c_), (3, rC a00 c3_), (4, rC a04 c4_), (9, ri y841), (10, ri y820), (25, rl (.one (.int .i8)) c4_.2.2.2.2.2.2), (26, ri (c4_.2.2.2.2.2.2.length : Int)), (27, ri (IntKind.wrap .i64 (s837.2 + 1)))], [], [], 60⟩ := by kernel_rfl
def a60 : Option ((Int × Int) ⊕ (Int × Int)) := (bif (decide (s837.2 < (c4_.2.2.2.2.2.2.length : Int))) then (Option.bind (b1h c4_ s837) (fun y840 : Unit => (Option.bind (b1i c_ c3_ c4_ y820 s837) (fun y841 : Int => (some (Sum.inl (y841, (IntKind.wrap .i64 (s837.2 + 1))))))))) else (some (Sum.inr s837)))
abbrev S70_5 : St := ⟨[(2, ri c_), (3, rC a00 c3_), (4, rC a04 c4_), (9, ri y842.1), (10, ri y820), (25, rl (.one (.int .i8)) c4_.2.2.2.2.2.2), (26, ri (c4_.2.2.2.2.2.2.length : Int)), (27, ri y842.2)], [], [], 60⟩
theorem c2v : R70 C70.r.r.l.r.b.b (S70_2 c_ c3_ c4_ y820 s837) (loopKont 0 q) = Option.bind (a60 c_ c3_ c4_ y820 s837) (either (fun y : (Int × Int) => q .normal ⟨[(2, ri c_), (3, rC a00 c3_), (4, rC a04 c4_), (9, ri y.1), (10, ri y820), (25, rl (.one (.int .i8)) c4_.2.2.2.2.2.2), (26, ri (c4_.2.2.2.2.2.2.length : Int)), (27, ri y.2)], [], [], 60⟩) (fun y842 : (Int × Int) => q (.exit 0) (S70_5 c_ c3_ c4_ y820 y842))) := by
  refine .trans ?_ (bif_b (bind_b fun y840 => (bind_b fun y841 => e2_0)) e2_1)
  refine (pre1 (d03 c_ c3_ c4_ y820 s837 _)).trans ?_
  refine .trans seq_push ?_
  refine (cond_e (b := (decide (s837.2 < (c4_.2.2.2.2.2.2.length : Int)))) (st' := (S70_2 c_ c3_ c4_ y820 s837)) ).trans (bif_g ?_ ?_)
  · refine (skip_eq).trans ?_
    refine (seqC_normal (st' := (S70_2 c_ c3_ c4_ y820 s837))).trans ?_
    refine .trans seq_push ?_
    refine (block_push (id := 1)).trans ?_
    refine (pre1 (d07 c_ c3_ c4_ y820 s837 _)).trans (bind_g fun y840 => ?_)
    refine (d08 c_ c3_ c4_ y820 s837 _).trans (bind_g fun y841 => ?_)
    refine block_normal.trans ?_
    refine (seqC_normal (st' := (S70_4 c_ c3_ c4_ y820 s837 y841))).trans ?_
    refine (d09 c_ c3_ c4_ y820 s837 y841 _).trans ?_
    kernel_rfl
  · refine ((exit_eq (j := 0))).trans ?_
    refine seqC_exit.trans ?_
    kernel_rfl
theorem d05 : R70 C70.r.r.l.r.b (S70_1 c_ c3_ c4_ y820) q = Option.bind (iterN (a60 c_ c3_ c4_ y820) LL ((IntKind.wrap .i64 (gt c3_.2.2.2.2.2.2.2.2.2.2.2.2.2 c_ (0 : Int))), (0 : Int))) (fun y842 : (Int × Int) => q (.exit 0) (S70_5 c_ c3_ c4_ y820 y842)) :=
  Eq.trans (by kernel_rfl) (loop_iter1 (S := fun s837 : (Int × Int) => (S70_2 c_ c3_ c4_ y820 s837)) (Y1 := fun y842 : (Int × Int) => ((.exit 0), (S70_5 c_ c3_ c4_ y820 y842))) (fun s q => c2v c_ c3_ c4_ y820 s q) (fun z => rfl) LL ((IntKind.wrap .i64 (gt c3_.2.2.2.2.2.2.2.2.2.2.2.2.2 c_ (0 : Int))), (0 : Int)))
theorem d0a : P70 1 C70.r.r.r ⟨[(3, rC a00 c3_), (9, ri y842.1)], [], [], 60⟩ k = Option.bind (a1c y842.1 c3_.2.2.2.2.2.2.1 c3_.2.2.2.2.2.2.2.1 c3_.2.2.2.2.2.2.2.2.1) fun y843 : Int => k ⟨[(8, ri y843)], [], [], 60⟩ := by kernel_rfl
/-- quilt/kern.full$1 -/
def b3v (a0 : Int) (a1 : Int) (c_ : Int) (c3_ : Node) (c4_ : pane) : Option Int := (Option.bind (b1g c_ c3_ c4_) (fun y820 : Int => (Option.bind (iterN (a60 c_ c3_ c4_ y820) LL ((IntKind.wrap .i64 (gt c3_.2.2.2.2.2.2.2.2.2.2.2.2.2 c_ (0 : Int))), (0 : Int))) (fun y842 : (Int × Int) => (Option.bind (a1c y842.1 c3_.2.2.2.2.2.2.1 c3_.2.2.2.2.2.2.2.1 c3_.2.2.2.2.2.2.2.2.1) (fun y843 : Int => (some y843)))))))
theorem d04 : stepS E cp68 ce2 87 [ri a0, ri a1, ri c_, rC a00 c3_, rC a04 c4_] = Option.bind (b3v a0 a1 c_ c3_ c4_) (fun y : Int => some (ri y : R)) := by
  refine .trans ?_ (bind_b fun y820 => (bind_b fun y842 => (bind_b fun y843 => some_b)))
  refine (stepG_is (nt := 60) (regs := [(0, ri a0), (1, ri a1), (2, ri c_), (3, rC a00 c3_), (4, rC a04 c4_)])).trans ?_
  refine (pre2 (d06 a0 a1 c_ c3_ c4_ _)).trans (bind_g fun y820 => ?_)
  refine .trans seq_push ?_
  refine (pre1 (d02 c_ c3_ c4_ y820 _)).trans ?_
  refine (block_push (id := 0)).trans ?_
  refine (d05 c_ c3_ c4_ y820 _).trans (bind_g fun y842 => ?_)
  refine block_same.trans ?_
  refine (seqC_normal (st' := ⟨[(3, rC a00 c3_), (9, ri y842.1)], [], [], 60⟩)).trans ?_
  refine (pre1 (d0a c3_ y842 _)).trans (bind_g fun y843 => ?_)
  refine (ret_eq).trans ?_
  kernel_rfl
noncomputable def cp69 : CallP := withC cp68 87 [pI, pI, pI, (.one (.cell (.cons (.g (.int .i64)) (.cons (.g (.sl (.one (.int .i64)))) (.cons (.g (.int .i64)) (.cons (.g (.int .i64)) (.cons (.g (.int .i64)) (.cons (.g (.int .i64)) (.cons (.g (.int .i64)) (.cons (.g (.int .i64)) (.cons (.g (.int .i64)) (.cons (.g (.int .i64)) (.cons (.g (.int .i64)) (.cons (.g (.int .i64)) (.cons (.g (.sl (.one (.int .i8)))) (.cons (.g (.sl (.one (.int .i32)))) .nil)))))))))))))))), (.one (.cell (.cons (.g (.int .i64)) (.cons (.g (.int .i64)) (.cons (.g (.int .i64)) (.cons (.g (.int .i64)) (.cons (.g (.int .i64)) (.cons (.g (.int .i64)) (.cons (.g (.sl (.one (.int .i8)))) .nil)))))))))] (.one pI) (fun y : Int => y) (fun x => b3v x.1 x.2.1 x.2.2.1 (x.2.2.2.1.1, x.2.2.2.1.2.1, x.2.2.2.1.2.2.1, x.2.2.2.1.2.2.2.1, x.2.2.2.1.2.2.2.2.1, x.2.2.2.1.2.2.2.2.2.1, x.2.2.2.1.2.2.2.2.2.2.1, x.2.2.2.1.2.2.2.2.2.2.2.1, x.2.2.2.1.2.2.2.2.2.2.2.2.1, x.2.2.2.1.2.2.2.2.2.2.2.2.2.1, x.2.2.2.1.2.2.2.2.2.2.2.2.2.2.1, x.2.2.2.1.2.2.2.2.2.2.2.2.2.2.2.1, x.2.2.2.1.2.2.2.2.2.2.2.2.2.2.2.2.1, x.2.2.2.1.2.2.2.2.2.2.2.2.2.2.2.2.2.1) (x.2.2.2.2.1.1, x.2.2.2.2.1.2.1, x.2.2.2.2.1.2.2.1, x.2.2.2.2.1.2.2.2.1, x.2.2.2.2.1.2.2.2.2.1, x.2.2.2.2.1.2.2.2.2.2.1, x.2.2.2.2.1.2.2.2.2.2.2.1))
theorem c8j : PureOK E cp69 := conS eok e5l a3q fun x => Eq.mp (by kernel_rfl) (d04 x.1 x.2.1 x.2.2.1 (x.2.2.2.1.1, x.2.2.2.1.2.1, x.2.2.2.1.2.2.1, x.2.2.2.1.2.2.2.1, x.2.2.2.1.2.2.2.2.1, x.2.2.2.1.2.2.2.2.2.1, x.2.2.2.1.2.2.2.2.2.2.1, x.2.2.2.1.2.2.2.2.2.2.2.1, x.2.2.2.1.2.2.2.2.2.2.2.2.1, x.2.2.2.1.2.2.2.2.2.2.2.2.2.1, x.2.2.2.1.2.2.2.2.2.2.2.2.2.2.1, x.2.2.2.1.2.2.2.2.2.2.2.2.2.2.2.1, x.2.2.2.1.2.2.2.2.2.2.2.2.2.2.2.2.1, x.2.2.2.1.2.2.2.2.2.2.2.2.2.2.2.2.2.1) (x.2.2.2.2.1.1, x.2.2.2.2.1.2.1, x.2.2.2.2.1.2.2.1, x.2.2.2.2.1.2.2.2.1, x.2.2.2.2.1.2.2.2.2.1, x.2.2.2.2.1.2.2.2.2.2.1, x.2.2.2.2.1.2.2.2.2.2.2.1))
end
section
variable {α : Type} (i_ : Int) (j_ : Int) (c2_ : pane) (c3_ : Int) (c4_ : Node) (c5_ : Int) (c6_ : Int) (c9_ : Int) (c10_ : Int) (y848 : Int) (k : St → Option α) (q : Kont α)
noncomputable abbrev C71 := codeOf E.P 89
noncomputable abbrev P71 := @preK α E 89 cp69 ce2
noncomputable abbrev R71 := @runCode α E 89 cp69 ce2
abbrev S71_0 : St := ⟨[(7, rF 0), (8, rF 1), (11, ri y848)], [[di c9_], [di c10_]], [], 33⟩
theorem c2x : P71 1 C71 ⟨[(0, ri i_), (1, ri j_), (2, rC a04 c2_), (3, .one (.cell [di c3_])), (4, rC a00 c4_), (5, .one (.cell [di c5_])), (6, .one (.cell [di c6_])), (7, rF 0), (8, rF 1)], [[di c9_], [di c10_]], [], 33⟩ k = Option.bind (a0h c2_ (IntKind.wrap .i64 ((IntKind.wrap .i64 (c3_ * c4_.2.2.2.1)) + i_)) (IntKind.wrap .i64 ((IntKind.wrap .i64 (c5_ * c4_.2.2.2.1)) + j_)) c6_) fun y848 : Int => k (S71_0 c9_ c10_ y848) := by kernel_rfl
theorem c2y : R71 C71.r (S71_0 c9_ c10_ y848) q = q .normal ⟨[], [[di (max c9_ y848)], [di (IntKind.wrap .i64 (c10_ + y848))]], [], 33⟩ := by kernel_rfl
/-- quilt/kern.pool$1$1 -/
def a5t : Option (Int × Int) := (Option.bind (a0h c2_ (IntKind.wrap .i64 ((IntKind.wrap .i64 (c3_ * c4_.2.2.2.1)) + i_)) (IntKind.wrap .i64 ((IntKind.wrap .i64 (c5_ * c4_.2.2.2.1)) + j_)) c6_) (fun y848 : Int => (some ((max c9_ y848), (IntKind.wrap .i64 (c10_ + y848))))))
theorem c2w (k : R → Heap → Option α) : callBody E cp69 ce2 α 89 [ri i_, ri j_, rC a04 c2_, .one (.cell [di c3_]), rC a00 c4_, .one (.cell [di c5_]), .one (.cell [di c6_]), rF 0, rF 1] [[di c9_], [di c10_]] k = Option.bind (a5t i_ j_ c2_ c3_ c4_ c5_ c6_ c9_ c10_) (fun y : (Int × Int) => k (.tup []) [[di y.1], [di y.2]]) := by
  refine .trans ?_ (bind_b fun y848 => some_b)
  refine (body_is (nt := 33) (regs := [(0, ri i_), (1, ri j_), (2, rC a04 c2_), (3, .one (.cell [di c3_])), (4, rC a00 c4_), (5, .one (.cell [di c5_])), (6, .one (.cell [di c6_])), (7, rF 0), (8, rF 1)]) (by kernel_rfl) (by kernel_rfl)).trans ?_
  refine (pre1 (c2x i_ j_ c2_ c3_ c4_ c5_ c6_ c9_ c10_ _)).trans (bind_g fun y848 => ?_)
  refine (c2y c9_ c10_ y848 _).trans ?_
  kernel_rfl
noncomputable def ce3 : CallE := withE ce2 89 (decA [pI, pI, (.one (.cell (.cons (.g (.int .i64)) (.cons (.g (.int .i64)) (.cons (.g (.int .i64)) (.cons (.g (.int .i64)) (.cons (.g (.int .i64)) (.cons (.g (.int .i64)) (.cons (.g (.sl (.one (.int .i8)))) .nil))))))))), (.one (.cell (.cons (.g (.int .i64)) .nil))), (.one (.cell (.cons (.g (.int .i64)) (.cons (.g (.sl (.one (.int .i64)))) (.cons (.g (.int .i64)) (.cons (.g (.int .i64)) (.cons (.g (.int .i64)) (.cons (.g (.int .i64)) (.cons (.g (.int .i64)) (.cons (.g (.int .i64)) (.cons (.g (.int .i64)) (.cons (.g (.int .i64)) (.cons (.g (.int .i64)) (.cons (.g (.int .i64)) (.cons (.g (.sl (.one (.int .i8)))) (.cons (.g (.sl (.one (.int .i32)))) .nil)))))))))))))))), (.one (.cell (.cons (.g (.int .i64)) .nil))), (.one (.cell (.cons (.g (.int .i64)) .nil))), (.one (.ref 0 0)), (.one (.ref 1 0))] [(.cons (.g (.int .i64)) .nil), (.cons (.g (.int .i64)) .nil)]) .unit (fun y : (Int × Int) => ()) (fun x y => [[di y.1], [di y.2]]) (fun x => a5t x.1.1 x.1.2.1 (x.1.2.2.1.1, x.1.2.2.1.2.1, x.1.2.2.1.2.2.1, x.1.2.2.1.2.2.2.1, x.1.2.2.1.2.2.2.2.1, x.1.2.2.1.2.2.2.2.2.1, x.1.2.2.1.2.2.2.2.2.2.1) x.1.2.2.2.1.1 (x.1.2.2.2.2.1.1, x.1.2.2.2.2.1.2.1, x.1.2.2.2.2.1.2.2.1, x.1.2.2.2.2.1.2.2.2.1, x.1.2.2.2.2.1.2.2.2.2.1, x.1.2.2.2.2.1.2.2.2.2.2.1, x.1.2.2.2.2.1.2.2.2.2.2.2.1, x.1.2.2.2.2.1.2.2.2.2.2.2.2.1, x.1.2.2.2.2.1.2.2.2.2.2.2.2.2.1, x.1.2.2.2.2.1.2.2.2.2.2.2.2.2.2.1, x.1.2.2.2.2.1.2.2.2.2.2.2.2.2.2.2.1, x.1.2.2.2.2.1.2.2.2.2.2.2.2.2.2.2.2.1, x.1.2.2.2.2.1.2.2.2.2.2.2.2.2.2.2.2.2.1, x.1.2.2.2.2.1.2.2.2.2.2.2.2.2.2.2.2.2.2.1) x.1.2.2.2.2.2.1.1 x.1.2.2.2.2.2.2.1.1 x.2.1.1 x.2.2.1.1)
theorem e69 : EffOK E ce3 := conE eok c8j a3q fun α x k => Eq.mp (by kernel_rfl) (c2w x.1.1 x.1.2.1 (x.1.2.2.1.1, x.1.2.2.1.2.1, x.1.2.2.1.2.2.1, x.1.2.2.1.2.2.2.1, x.1.2.2.1.2.2.2.2.1, x.1.2.2.1.2.2.2.2.2.1, x.1.2.2.1.2.2.2.2.2.2.1) x.1.2.2.2.1.1 (x.1.2.2.2.2.1.1, x.1.2.2.2.2.1.2.1, x.1.2.2.2.2.1.2.2.1, x.1.2.2.2.2.1.2.2.2.1, x.1.2.2.2.2.1.2.2.2.2.1, x.1.2.2.2.2.1.2.2.2.2.2.1, x.1.2.2.2.2.1.2.2.2.2.2.2.1, x.1.2.2.2.2.1.2.2.2.2.2.2.2.1, x.1.2.2.2.2.1.2.2.2.2.2.2.2.2.1, x.1.2.2.2.2.1.2.2.2.2.2.2.2.2.2.1, x.1.2.2.2.2.1.2.2.2.2.2.2.2.2.2.2.1, x.1.2.2.2.2.1.2.2.2.2.2.2.2.2.2.2.2.1, x.1.2.2.2.2.1.2.2.2.2.2.2.2.2.2.2.2.2.1, x.1.2.2.2.2.1.2.2.2.2.2.2.2.2.2.2.2.2.2.1) x.1.2.2.2.2.2.1.1 x.1.2.2.2.2.2.2.1.1 x.2.1.1 x.2.2.1.1 k)
end
section
variable {α : Type} (k_ : Int) (do_ : pane) (do_' : Int) (do_'' : Node) (do_''' : Int) (do_'''' : Int) (c2_ : Int) (c3_ : Int) (s862 : (Int × Int × Int)) (s873 : (Int × Int × Int)) (y875 : (Int × Int)) (y876 : (Int × Int × Int)) (k : St → Option α) (q : Kont α)
noncomputable abbrev C72 := codeOf E.P 84
noncomputable abbrev P72 := @preK α E 84 cp69 ce3
noncomputable abbrev R72 := @runCode α E 84 cp69 ce3
abbrev S72_0 : St := ⟨[(0, ri k_), (1, .one (.fn 89 [.cell (a04.leaves do_), .cell [di do_'], .cell (a00.leaves do_''), .cell [di do_'''], .cell [di do_''''], .ref 0 0, .ref 1 0])), (6, ri k_), (7, ri 0)], [[di c2_], [di c3_]], [], 20⟩
theorem c2z : P72 1 C72 ⟨[(0, ri k_), (1, .one (.fn 89 [.cell (a04.leaves do_), .cell [di do_'], .cell (a00.leaves do_''), .cell [di do_'''], .cell [di do_''''], .ref 0 0, .ref 1 0]))], [[di c2_], [di c3_]], [], 20⟩ k = k (S72_0 k_ do_ do_' do_'' do_''' do_'''' c2_ c3_) := by kernel_rfl
abbrev S72_1 : St := ⟨[(0, ri k_), (1, .one (.fn 89 [.cell (a04.leaves do_), .cell [di do_'], .cell (a00.leaves do_''), .cell [di do_'''], .cell [di do_''''], .ref 0 0, .ref 1 0])), (6, ri k_), (7, ri s862.1)], [[di s862.2.1], [di s862.2.2]], [], 20⟩
theorem c32 : P72 1 C72.r.b.b (S72_1 k_ do_ do_' do_'' do_''' do_'''' s862) k = k ⟨[(0, ri k_), (1, .one (.fn 89 [.cell (a04.leaves do_), .cell [di do_'], .cell (a00.leaves do_''), .cell [di do_'''], .cell [di do_''''], .ref 0 0, .ref 1 0])), (6, ri k_), (7, ri s862.1), (8, rb (decide (s862.1 < k_)))], [[di s862.2.1], [di s862.2.2]], [], 20⟩ := by kernel_rfl
abbrev S72_2 : St := ⟨[(0, ri k_), (1, .one (.fn 89 [.cell (a04.leaves do_), .cell [di do_'], .cell (a00.leaves do_''), .cell [di do_'''], .cell [di do_''''], .ref 0 0, .ref 1 0])), (4, ri s862.1), (6, ri k_), (7, ri s862.1), (10, ri k_), (11, ri 0)], [[di s862.2.1], [di s862.2.2]], [], 20⟩
theorem c30 : P72 2 C72.r.b.b.r.r.l.b (S72_1 k_ do_ do_' do_'' do_''' do_'''' s862) k = k (S72_2 k_ do_ do_' do_'' do_''' do_'''' s862) := by kernel_rfl
abbrev S72_3 : St := ⟨[(0, ri k_), (1, .one (.fn 89 [.cell (a04.leaves do_), .cell [di do_'], .cell (a00.leaves do_''), .cell [di do_'''], .cell [di do_''''], .ref 0 0, .ref 1 0])), (4, ri s862.1), (6, ri k_), (7, ri s862.1), (10, ri k_), (11, ri s873.1)], [[di s873.2.1], [di s873.2.2]], [], 20⟩
theorem b92 : P72 1 C72.r.b.b.r.r.l.b.r.r.b.b (S72_3 k_ do_ do_' do_'' do_''' do_'''' s862 s873) k = k ⟨[(0, ri k_), (1, .one (.fn 89 [.cell (a04.leaves do_), .cell [di do_'], .cell (a00.leaves do_''), .cell [di do_'''], .cell [di do_''''], .ref 0 0, .ref 1 0])), (4, ri s862.1), (6, ri k_), (7, ri s862.1), (10, ri k_), (11, ri s873.1), (12, rb (decide (s873.1 < k_)))], [[di s873.2.1], [di s873.2.2]], [], 20⟩ := by kernel_rfl
abbrev S72_4 : St := ⟨[(0, ri k_), (1, .one (.fn 89 [.cell (a04.leaves do_), .cell [di do_'], .cell (a00.leaves do_''), .cell [di do_'''], .cell [di do_''''], .ref 0 0, .ref 1 0])), (4, ri s862.1), (5, ri s873.1), (6, ri k_), (7, ri s862.1), (10, ri k_), (11, ri s873.1)], [[di s873.2.1], [di s873.2.2]], [], 20⟩
theorem c31 : P72 1 C72.r.b.b.r.r.l.b.r.r.b.b.r.r.l.b (S72_3 k_ do_ do_' do_'' do_''' do_'''' s862 s873) k = k (S72_4 k_ do_ do_' do_'' do_''' do_'''' s862 s873) := by kernel_rfl
abbrev S72_5 : St := ⟨[(0, ri k_), (1, .one (.fn 89 [.cell (a04.leaves do_), .cell [di do_'], .cell (a00.leaves do_''), .cell [di do_'''], .cell [di do_''''], .ref 0 0, .ref 1 0])), (4, ri s862.1), (6, ri k_), (7, ri s862.1), (10, ri k_), (11, ri s873.1)], [[di y875.1], [di y875.2]], [], 20⟩
theorem c36 : R72 C72.r.b.b.r.r.l.b.r.r.b.b.r.r.l.b.r (S72_4 k_ do_ do_' do_'' do_''' do_'''' s862 s873) q = Option.bind (a5t s862.1 s873.1 do_ do_' do_'' do_''' do_'''' s873.2.1 s873.2.2) fun y875 : (Int × Int) => q .normal (S72_5 k_ do_ do_' do_'' do_''' do_'''' s862 s873 y875) := by kernel_rfl
theorem c37 : R72 C72.r.b.b.r.r.l.b.r.r.b.b.r.r.r (S72_5 k_ do_ do_' do_'' do_''' do_'''' s862 s873 y875) q = q .normal ⟨[(0, ri k_), (1, .one (.fn 89 [.cell (a04.leaves do_), .cell [di do_'], .cell (a00.leaves do_''), .cell [di do_'''], .cell [di do_''''], .ref 0 0, .ref 1 0])), (4, ri s862.1), (6, ri k_), (7, ri s862.1), (10, ri k_), (11, ri (IntKind.wrap .i64 (s873.1 + 1)))], [[di y875.1], [di y875.2]], [], 20⟩ := by kernel_rfl
def a4i : Option ((Int × Int × Int) ⊕ (Int × Int × Int)) := (bif (decide (s873.1 < k_)) then (Option.bind (a5t s862.1 s873.1 do_ do_' do_'' do_''' do_'''' s873.2.1 s873.2.2) (fun y875 : (Int × Int) => (some (Sum.inl ((IntKind.wrap .i64 (s873.1 + 1)), y875.1, y875.2))))) else (some (Sum.inr s873)))
abbrev S72_6 : St := ⟨[(0, ri k_), (1, .one (.fn 89 [.cell (a04.leaves do_), .cell [di do_'], .cell (a00.leaves do_''), .cell [di do_'''], .cell [di do_''''], .ref 0 0, .ref 1 0])), (4, ri s862.1), (6, ri k_), (7, ri s862.1), (10, ri k_), (11, ri y876.1)], [[di y876.2.1], [di y876.2.2]], [], 20⟩
theorem b94 : R72 C72.r.b.b.r.r.l.b.r.r.b.b (S72_3 k_ do_ do_' do_'' do_''' do_'''' s862 s873) (loopKont 2 q) = Option.bind (a4i k_ do_ do_' do_'' do_''' do_'''' s862 s873) (either (fun y : (Int × Int × Int) => q .normal ⟨[(0, ri k_), (1, .one (.fn 89 [.cell (a04.leaves do_), .cell [di do_'], .cell (a00.leaves do_''), .cell [di do_'''], .cell [di do_''''], .ref 0 0, .ref 1 0])), (4, ri s862.1), (6, ri k_), (7, ri s862.1), (10, ri k_), (11, ri y.1)], [[di y.2.1], [di y.2.2]], [], 20⟩) (fun y876 : (Int × Int × Int) => q (.exit 2) (S72_6 k_ do_ do_' do_'' do_''' do_'''' s862 y876))) := by
  refine .trans ?_ (bif_b (bind_b fun y875 => e2_0) e2_1)
  refine (pre1 (b92 k_ do_ do_' do_'' do_''' do_'''' s862 s873 _)).trans ?_
  refine .trans seq_push ?_
  refine (cond_e (b := (decide (s873.1 < k_))) (st' := (S72_3 k_ do_ do_' do_'' do_''' do_'''' s862 s873)) ).trans (bif_g ?_ ?_)
  · refine (skip_eq).trans ?_
    refine (seqC_normal (st' := (S72_3 k_ do_ do_' do_'' do_''' do_'''' s862 s873))).trans ?_
    refine .trans seq_push ?_
    refine (block_push (id := 3)).trans ?_
    refine (pre1 (c31 k_ do_ do_' do_'' do_''' do_'''' s862 s873 _)).trans ?_
    refine (c36 k_ do_ do_' do_'' do_''' do_'''' s862 s873 _).trans (bind_g fun y875 => ?_)
    refine block_normal.trans ?_
    refine (seqC_normal (st' := (S72_5 k_ do_ do_' do_'' do_''' do_'''' s862 s873 y875))).trans ?_
    refine (c37 k_ do_ do_' do_'' do_''' do_'''' s862 s873 y875 _).trans ?_
    kernel_rfl
  · refine ((exit_eq (j := 2))).trans ?_
    refine seqC_exit.trans ?_
    kernel_rfl
theorem c35 : R72 C72.r.b.b.r.r.l.b.r.r.b (S72_2 k_ do_ do_' do_'' do_''' do_'''' s862) q = Option.bind (iterN (a4i k_ do_ do_' do_'' do_''' do_'''' s862) LL ((0 : Int), s862.2.1, s862.2.2)) (fun y876 : (Int × Int × Int) => q (.exit 2) (S72_6 k_ do_ do_' do_'' do_''' do_'''' s862 y876)) :=
  Eq.trans (by kernel_rfl) (loop_iter1 (S := fun s873 : (Int × Int × Int) => (S72_3 k_ do_ do_' do_'' do_''' do_'''' s862 s873)) (Y1 := fun y876 : (Int × Int × Int) => ((.exit 2), (S72_6 k_ do_ do_' do_'' do_''' do_'''' s862 y876))) (fun s q => b94 k_ do_ do_' do_'' do_''' do_'''' s862 s q) (fun z => rfl) LL ((0 : Int), s862.2.1, s862.2.2))
abbrev S72_7 : St := ⟨[(0, ri k_), (1, .one (.fn 89 [.cell (a04.leaves do_), .cell [di do_'], .cell (a00.leaves do_''), .cell [di do_'''], .cell [di do_''''], .ref 0 0, .ref 1 0])), (6, ri k_), (7, ri s862.1)], [[di y876.2.1], [di y876.2.2]], [], 20⟩
theorem c38 : R72 C72.r.b.b.r.r.r (S72_7 k_ do_ do_' do_'' do_''' do_'''' s862 y876) q = q .normal ⟨[(0, ri k_), (1, .one (.fn 89 [.cell (a04.leaves do_), .cell [di do_'], .cell (a00.leaves do_''), .cell [di do_'''], .cell [di do_''''], .ref 0 0, .ref 1 0])), (6, ri k_), (7, ri (IntKind.wrap .i64 (s862.1 + 1)))], [[di y876.2.1], [di y876.2.2]], [], 20⟩ := by kernel_rfl
def a4h : Option ((Int × Int × Int) ⊕ (Int × Int × Int)) := (bif (decide (s862.1 < k_)) then (Option.bind (iterN (a4i k_ do_ do_' do_'' do_''' do_'''' s862) LL ((0 : Int), s862.2.1, s862.2.2)) (fun y876 : (Int × Int × Int) => (some (Sum.inl ((IntKind.wrap .i64 (s862.1 + 1)), y876.2.1, y876.2.2))))) else (some (Sum.inr s862)))
abbrev S72_8 (y877 : (Int × Int × Int)) : St := ⟨[(0, ri k_), (1, .one (.fn 89 [.cell (a04.leaves do_), .cell [di do_'], .cell (a00.leaves do_''), .cell [di do_'''], .cell [di do_''''], .ref 0 0, .ref 1 0])), (6, ri k_), (7, ri y877.1)], [[di y877.2.1], [di y877.2.2]], [], 20⟩
theorem b93 : R72 C72.r.b.b (S72_1 k_ do_ do_' do_'' do_''' do_'''' s862) (loopKont 2 q) = Option.bind (a4h k_ do_ do_' do_'' do_''' do_'''' s862) (either (fun y : (Int × Int × Int) => q .normal ⟨[(0, ri k_), (1, .one (.fn 89 [.cell (a04.leaves do_), .cell [di do_'], .cell (a00.leaves do_''), .cell [di do_'''], .cell [di do_''''], .ref 0 0, .ref 1 0])), (6, ri k_), (7, ri y.1)], [[di y.2.1], [di y.2.2]], [], 20⟩) (fun y877 : (Int × Int × Int) => q (.exit 0) (S72_8 k_ do_ do_' do_'' do_''' do_'''' y877))) := by
  refine .trans ?_ (bif_b (bind_b fun y876 => e2_0) e2_1)
  refine (pre1 (c32 k_ do_ do_' do_'' do_''' do_'''' s862 _)).trans ?_
  refine .trans seq_push ?_
  refine (cond_e (b := (decide (s862.1 < k_))) (st' := (S72_1 k_ do_ do_' do_'' do_''' do_'''' s862)) ).trans (bif_g ?_ ?_)
  · refine (skip_eq).trans ?_
    refine (seqC_normal (st' := (S72_1 k_ do_ do_' do_'' do_''' do_'''' s862))).trans ?_
    refine .trans seq_push ?_
    refine (block_push (id := 1)).trans ?_
    refine (pre2 (c30 k_ do_ do_' do_'' do_''' do_'''' s862 _)).trans ?_
    refine (block_push (id := 2)).trans ?_
    refine (c35 k_ do_ do_' do_'' do_''' do_'''' s862 _).trans (bind_g fun y876 => ?_)
    refine block_same.trans ?_
    refine block_normal.trans ?_
    refine (seqC_normal (st' := (S72_7 k_ do_ do_' do_'' do_''' do_'''' s862 y876))).trans ?_
    refine (c38 k_ do_ do_' do_'' do_''' do_'''' s862 y876 _).trans ?_
    kernel_rfl
  · refine ((exit_eq (j := 0))).trans ?_
    refine seqC_exit.trans ?_
    kernel_rfl
theorem c34 : R72 C72.r.b (S72_0 k_ do_ do_' do_'' do_''' do_'''' c2_ c3_) q = Option.bind (iterN (a4h k_ do_ do_' do_'' do_''' do_'''') LL ((0 : Int), c2_, c3_)) (fun y877 : (Int × Int × Int) => q (.exit 0) (S72_8 k_ do_ do_' do_'' do_''' do_'''' y877)) :=
  Eq.trans (by kernel_rfl) (loop_iter1 (S := fun s862 : (Int × Int × Int) => (S72_1 k_ do_ do_' do_'' do_''' do_'''' s862)) (Y1 := fun y877 : (Int × Int × Int) => ((.exit 0), (S72_8 k_ do_ do_' do_'' do_''' do_'''' y877))) (fun s q => b93 k_ do_ do_' do_'' do_''' do_'''' s q) (fun z => rfl) LL ((0 : Int), c2_, c3_))
/-- quilt/kern.slide -/
def a5u : Option (Int × Int) := (Option.bind (iterN (a4h k_ do_ do_' do_'' do_''' do_'''') LL ((0 : Int), c2_, c3_)) (fun y877 : (Int × Int × Int) => (some y877.2)))
theorem c33 (k : R → Heap → Option α) : callBody E cp69 ce3 α 84 [ri k_, .one (.fn 89 [.cell (a04.leaves do_), .cell [di do_'], .cell (a00.leaves do_''), .cell [di do_'''], .cell [di do_''''], .ref 0 0, .ref 1 0])] [[di c2_], [di c3_]] k = Option.bind (a5u k_ do_ do_' do_'' do_''' do_'''' c2_ c3_) (fun y : (Int × Int) => k (.tup []) [[di y.1], [di y.2]]) := by
  refine .trans ?_ (bind_b fun y877 => some_b)
  refine (body_is (nt := 20) (regs := [(0, ri k_), (1, .one (.fn 89 [.cell (a04.leaves do_), .cell [di do_'], .cell (a00.leaves do_''), .cell [di do_'''], .cell [di do_''''], .ref 0 0, .ref 1 0]))]) (by kernel_rfl) (by kernel_rfl)).trans ?_
  refine (pre1 (c2z k_ do_ do_' do_'' do_''' do_'''' c2_ c3_ _)).trans ?_
  refine (block_push (id := 0)).trans ?_
  refine (c34 k_ do_ do_' do_'' do_''' do_'''' c2_ c3_ _).trans (bind_g fun y877 => ?_)
  refine block_same.trans ?_
  kernel_rfl
noncomputable def ce4 : CallE := withE ce3 84 (decA [pI, (.one (.fn 89 (.cons (.cell (.cons (.g (.int .i64)) (.cons (.g (.int .i64)) (.cons (.g (.int .i64)) (.cons (.g (.int .i64)) (.cons (.g (.int .i64)) (.cons (.g (.int .i64)) (.cons (.g (.sl (.one (.int .i8)))) .nil)))))))) (.cons (.cell (.cons (.g (.int .i64)) .nil)) (.cons (.cell (.cons (.g (.int .i64)) (.cons (.g (.sl (.one (.int .i64)))) (.cons (.g (.int .i64)) (.cons (.g (.int .i64)) (.cons (.g (.int .i64)) (.cons (.g (.int .i64)) (.cons (.g (.int .i64)) (.cons (.g (.int .i64)) (.cons (.g (.int .i64)) (.cons (.g (.int .i64)) (.cons (.g (.int .i64)) (.cons (.g (.int .i64)) (.cons (.g (.sl (.one (.int .i8)))) (.cons (.g (.sl (.one (.int .i32)))) .nil))))))))))))))) (.cons (.cell (.cons (.g (.int .i64)) .nil)) (.cons (.cell (.cons (.g (.int .i64)) .nil)) (.cons (.ref 0 0) (.cons (.ref 1 0) .nil)))))))))] [(.cons (.g (.int .i64)) .nil), (.cons (.g (.int .i64)) .nil)]) .unit (fun y : (Int × Int) => ()) (fun x y => [[di y.1], [di y.2]]) (fun x => a5u x.1.1 (x.1.2.1.1.1, x.1.2.1.1.2.1, x.1.2.1.1.2.2.1, x.1.2.1.1.2.2.2.1, x.1.2.1.1.2.2.2.2.1, x.1.2.1.1.2.2.2.2.2.1, x.1.2.1.1.2.2.2.2.2.2.1) x.1.2.1.2.1.1 (x.1.2.1.2.2.1.1, x.1.2.1.2.2.1.2.1, x.1.2.1.2.2.1.2.2.1, x.1.2.1.2.2.1.2.2.2.1, x.1.2.1.2.2.1.2.2.2.2.1, x.1.2.1.2.2.1.2.2.2.2.2.1, x.1.2.1.2.2.1.2.2.2.2.2.2.1, x.1.2.1.2.2.1.2.2.2.2.2.2.2.1, x.1.2.1.2.2.1.2.2.2.2.2.2.2.2.1, x.1.2.1.2.2.1.2.2.2.2.2.2.2.2.2.1, x.1.2.1.2.2.1.2.2.2.2.2.2.2.2.2.2.1, x.1.2.1.2.2.1.2.2.2.2.2.2.2.2.2.2.2.1, x.1.2.1.2.2.1.2.2.2.2.2.2.2.2.2.2.2.2.1, x.1.2.1.2.2.1.2.2.2.2.2.2.2.2.2.2.2.2.2.1) x.1.2.1.2.2.2.1.1 x.1.2.1.2.2.2.2.1.1 x.2.1.1 x.2.2.1.1)
theorem a0o : EffOK E ce4 := conE eok c8j e69 fun α x k => Eq.mp (by kernel_rfl) (c33 x.1.1 (x.1.2.1.1.1, x.1.2.1.1.2.1, x.1.2.1.1.2.2.1, x.1.2.1.1.2.2.2.1, x.1.2.1.1.2.2.2.2.1, x.1.2.1.1.2.2.2.2.2.1, x.1.2.1.1.2.2.2.2.2.2.1) x.1.2.1.2.1.1 (x.1.2.1.2.2.1.1, x.1.2.1.2.2.1.2.1, x.1.2.1.2.2.1.2.2.1, x.1.2.1.2.2.1.2.2.2.1, x.1.2.1.2.2.1.2.2.2.2.1, x.1.2.1.2.2.1.2.2.2.2.2.1, x.1.2.1.2.2.1.2.2.2.2.2.2.1, x.1.2.1.2.2.1.2.2.2.2.2.2.2.1, x.1.2.1.2.2.1.2.2.2.2.2.2.2.2.1, x.1.2.1.2.2.1.2.2.2.2.2.2.2.2.2.1, x.1.2.1.2.2.1.2.2.2.2.2.2.2.2.2.2.1, x.1.2.1.2.2.1.2.2.2.2.2.2.2.2.2.2.2.1, x.1.2.1.2.2.1.2.2.2.2.2.2.2.2.2.2.2.2.1, x.1.2.1.2.2.1.2.2.2.2.2.2.2.2.2.2.2.2.2.1) x.1.2.1.2.2.2.1.1 x.1.2.1.2.2.2.2.1.1 x.2.1.1 x.2.2.1.1 k)
end
section
variable {α : Type} (y_ : Int) (x_ : Int) (c_ : Int) (c3_ : Node) (c4_ : pane) (y878 : (Int × Int)) (k : St → Option α)
noncomputable abbrev C73 := codeOf E.P 88
noncomputable abbrev P73 := @preK α E 88 cp69 ce4
abbrev S73_0 : St := ⟨[(3, rC a00 c3_), (4, rC a04 c4_), (9, rF 0), (10, rF 1)], [[di y878.1], [di y878.2]], [], 40⟩
theorem d11 : P73 3 C73 ⟨[(0, ri y_), (1, ri x_), (2, ri c_), (3, rC a00 c3_), (4, rC a04 c4_)], [], [], 40⟩ k = Option.bind (a5u c3_.2.2.1 c4_ y_ c3_ x_ c_ (-512 : Int) (0 : Int)) fun y878 : (Int × Int) => k (S73_0 c3_ c4_ y878) := by kernel_rfl
theorem b6c : P73 1 C73.r.r.r.l (S73_0 c3_ c4_ y878) k = k ⟨[(3, rC a00 c3_), (4, rC a04 c4_), (9, rF 0), (10, rF 1), (17, rb (c3_.1 == 4))], [[di y878.1], [di y878.2]], [], 40⟩ := by kernel_rfl
theorem d0z : P73 1 C73.r.r.r.l.r.t (S73_0 c3_ c4_ y878) k = k ⟨[(8, ri (IntKind.wrap .i64 (y878.1 + c4_.2.2.2.1)))], [[], []], [], 40⟩ := by kernel_rfl
abbrev S73_1 : St := ⟨[(3, rC a00 c3_), (4, rC a04 c4_), (10, rF 1)], [[di y878.1], [di y878.2]], [], 40⟩
theorem d12 : P73 1 C73.r.r.r.r (S73_1 c3_ c4_ y878) k = Option.bind (a8t (IntKind.wrap .i64 (y878.2 + (IntKind.wrap .i64 ((IntKind.wrap .i64 (c3_.2.2.1 * c3_.2.2.1)) * c4_.2.2.2.1)))) (IntKind.wrap .i64 (c3_.2.2.1 * c3_.2.2.1))) fun y879 : Int => k ⟨[(8, ri y879)], [[di y878.1], []], [], 40⟩ := by kernel_rfl
/-- quilt/kern.pool$1 -/
def b45 : Option Int := (Option.bind (a5u c3_.2.2.1 c4_ y_ c3_ x_ c_ (-512 : Int) (0 : Int)) (fun y878 : (Int × Int) => (bif (c3_.1 == 4) then (some (IntKind.wrap .i64 (y878.1 + c4_.2.2.2.1))) else (Option.bind (a8t (IntKind.wrap .i64 (y878.2 + (IntKind.wrap .i64 ((IntKind.wrap .i64 (c3_.2.2.1 * c3_.2.2.1)) * c4_.2.2.2.1)))) (IntKind.wrap .i64 (c3_.2.2.1 * c3_.2.2.1))) (fun y879 : Int => (some y879))))))
theorem d10 : stepS E cp69 ce4 88 [ri y_, ri x_, ri c_, rC a00 c3_, rC a04 c4_] = Option.bind (b45 y_ x_ c_ c3_ c4_) (fun y : Int => some (ri y : R)) := by
  refine .trans ?_ (bind_b fun y878 => (bif_b some_b (bind_b fun y879 => some_b)))
  refine (stepG_is (nt := 40) (regs := [(0, ri y_), (1, ri x_), (2, ri c_), (3, rC a00 c3_), (4, rC a04 c4_)])).trans ?_
  refine (pre3 (d11 y_ x_ c_ c3_ c4_ _)).trans (bind_g fun y878 => ?_)
  refine .trans seq_push ?_
  refine (pre1 (b6c c3_ c4_ y878 _)).trans ?_
  refine (cond_e (b := (c3_.1 == 4)) (st' := (S73_0 c3_ c4_ y878)) ).trans (bif_g ?_ ?_)
  · refine (pre1 (d0z c3_ c4_ y878 _)).trans ?_
    refine (ret_eq).trans ?_
    refine seqC_ret.trans ?_
    kernel_rfl
  · refine (skip_eq).trans ?_
    refine (seqC_normal (st' := (S73_1 c3_ c4_ y878))).trans ?_
    refine (pre1 (d12 c3_ c4_ y878 _)).trans (bind_g fun y879 => ?_)
    refine (ret_eq).trans ?_
    kernel_rfl
noncomputable def cp70 : CallP := withC cp69 88 [pI, pI, pI, (.one (.cell (.cons (.g (.int .i64)) (.cons (.g (.sl (.one (.int .i64)))) (.cons (.g (.int .i64)) (.cons (.g (.int .i64)) (.cons (.g (.int .i64)) (.cons (.g (.int .i64)) (.cons (.g (.int .i64)) (.cons (.g (.int .i64)) (.cons (.g (.int .i64)) (.cons (.g (.int .i64)) (.cons (.g (.int .i64)) (.cons (.g (.int .i64)) (.cons (.g (.sl (.one (.int .i8)))) (.cons (.g (.sl (.one (.int .i32)))) .nil)))))))))))))))), (.one (.cell (.cons (.g (.int .i64)) (.cons (.g (.int .i64)) (.cons (.g (.int .i64)) (.cons (.g (.int .i64)) (.cons (.g (.int .i64)) (.cons (.g (.int .i64)) (.cons (.g (.sl (.one (.int .i8)))) .nil)))))))))] (.one pI) (fun y : Int => y) (fun x => b45 x.1 x.2.1 x.2.2.1 (x.2.2.2.1.1, x.2.2.2.1.2.1, x.2.2.2.1.2.2.1, x.2.2.2.1.2.2.2.1, x.2.2.2.1.2.2.2.2.1, x.2.2.2.1.2.2.2.2.2.1, x.2.2.2.1.2.2.2.2.2.2.1, x.2.2.2.1.2.2.2.2.2.2.2.1, x.2.2.2.1.2.2.2.2.2.2.2.2.1, x.2.2.2.1.2.2.2.2.2.2.2.2.2.1, x.2.2.2.1.2.2.2.2.2.2.2.2.2.2.1, x.2.2.2.1.2.2.2.2.2.2.2.2.2.2.2.1, x.2.2.2.1.2.2.2.2.2.2.2.2.2.2.2.2.1, x.2.2.2.1.2.2.2.2.2.2.2.2.2.2.2.2.2.1) (x.2.2.2.2.1.1, x.2.2.2.2.1.2.1, x.2.2.2.2.1.2.2.1, x.2.2.2.2.1.2.2.2.1, x.2.2.2.2.1.2.2.2.2.1, x.2.2.2.2.1.2.2.2.2.2.1, x.2.2.2.2.1.2.2.2.2.2.2.1))
theorem e5m : PureOK E cp70 := conS eok c8j a0o fun x => Eq.mp (by kernel_rfl) (d10 x.1 x.2.1 x.2.2.1 (x.2.2.2.1.1, x.2.2.2.1.2.1, x.2.2.2.1.2.2.1, x.2.2.2.1.2.2.2.1, x.2.2.2.1.2.2.2.2.1, x.2.2.2.1.2.2.2.2.2.1, x.2.2.2.1.2.2.2.2.2.2.1, x.2.2.2.1.2.2.2.2.2.2.2.1, x.2.2.2.1.2.2.2.2.2.2.2.2.1, x.2.2.2.1.2.2.2.2.2.2.2.2.2.1, x.2.2.2.1.2.2.2.2.2.2.2.2.2.2.1, x.2.2.2.1.2.2.2.2.2.2.2.2.2.2.2.1, x.2.2.2.1.2.2.2.2.2.2.2.2.2.2.2.2.1, x.2.2.2.1.2.2.2.2.2.2.2.2.2.2.2.2.2.1) (x.2.2.2.2.1.1, x.2.2.2.2.1.2.1, x.2.2.2.2.1.2.2.1, x.2.2.2.2.1.2.2.2.1, x.2.2.2.2.1.2.2.2.2.1, x.2.2.2.2.1.2.2.2.2.2.1, x.2.2.2.2.1.2.2.2.2.2.2.1))
end
section
variable {α : Type} (y_ : Int) (x_ : Int) (c_ : Int) (c3_ : pane) (c4_ : pane) (c5_ : Node) (y884 : (Int × Int)) (k : St → Option α)
noncomputable abbrev C74 := codeOf E.P 91
noncomputable abbrev P74 := @preK α E 91 cp70 ce4
def b1m : Option (Int × Int) := (Option.bind (a0h c3_ y_ x_ c_) (fun y882 : Int => (Option.bind (a0h c4_ y_ x_ c_) (fun y883 : Int => (some (y882, y883))))))
abbrev S74_0 : St := ⟨[(5, rC a00 c5_), (10, ri y884.1), (11, ri y884.2)], [], [], 45⟩
theorem d0w : P74 2 C74 ⟨[(0, ri y_), (1, ri x_), (2, ri c_), (3, rC a04 c3_), (4, rC a04 c4_), (5, rC a00 c5_)], [], [], 45⟩ k = Option.bind (b1m y_ x_ c_ c3_ c4_) (fun y884 : (Int × Int) => k (S74_0 c5_ y884)) := .trans (by kernel_rfl) (bind_b fun y882 => (bind_b fun y883 => some_b))
theorem b6b : P74 1 C74.r.r.l (S74_0 c5_ y884) k = k ⟨[(5, rC a00 c5_), (10, ri y884.1), (11, ri y884.2), (24, rb (c5_.1 == 7))], [], [], 45⟩ := by kernel_rfl
theorem d0x : P74 1 C74.r.r.l.r.t (S74_0 c5_ y884) k = Option.bind (a1c (IntKind.wrap .i64 (y884.1 * y884.2)) c5_.2.2.2.2.2.2.1 c5_.2.2.2.2.2.2.2.1 c5_.2.2.2.2.2.2.2.2.1) fun y886 : Int => k ⟨[(9, ri y886)], [], [], 45⟩ := by kernel_rfl
theorem d0y : P74 1 C74.r.r.r (S74_0 c5_ y884) k = Option.bind (a1c (IntKind.wrap .i64 (y884.1 + y884.2)) c5_.2.2.2.2.2.2.1 c5_.2.2.2.2.2.2.2.1 c5_.2.2.2.2.2.2.2.2.1) fun y887 : Int => k ⟨[(9, ri y887)], [], [], 45⟩ := by kernel_rfl
/-- quilt/kern.pair$1 -/
def b43 : Option Int := (Option.bind (b1m y_ x_ c_ c3_ c4_) (fun y884 : (Int × Int) => (bif (c5_.1 == 7) then (Option.bind (a1c (IntKind.wrap .i64 (y884.1 * y884.2)) c5_.2.2.2.2.2.2.1 c5_.2.2.2.2.2.2.2.1 c5_.2.2.2.2.2.2.2.2.1) (fun y886 : Int => (some y886))) else (Option.bind (a1c (IntKind.wrap .i64 (y884.1 + y884.2)) c5_.2.2.2.2.2.2.1 c5_.2.2.2.2.2.2.2.1 c5_.2.2.2.2.2.2.2.2.1) (fun y887 : Int => (some y887))))))
theorem d0v : stepS E cp70 ce4 91 [ri y_, ri x_, ri c_, rC a04 c3_, rC a04 c4_, rC a00 c5_] = Option.bind (b43 y_ x_ c_ c3_ c4_ c5_) (fun y : Int => some (ri y : R)) := by
  refine .trans ?_ (bind_b fun y884 => (bif_b (bind_b fun y886 => some_b) (bind_b fun y887 => some_b)))
  refine (stepG_is (nt := 45) (regs := [(0, ri y_), (1, ri x_), (2, ri c_), (3, rC a04 c3_), (4, rC a04 c4_), (5, rC a00 c5_)])).trans ?_
  refine (pre2 (d0w y_ x_ c_ c3_ c4_ c5_ _)).trans (bind_g fun y884 => ?_)
  refine .trans seq_push ?_
  refine (pre1 (b6b c5_ y884 _)).trans ?_
  refine (cond_e (b := (c5_.1 == 7)) (st' := (S74_0 c5_ y884)) ).trans (bif_g ?_ ?_)
  · refine (pre1 (d0x c5_ y884 _)).trans (bind_g fun y886 => ?_)
    refine (ret_eq).trans ?_
    refine seqC_ret.trans ?_
    kernel_rfl
  · refine (skip_eq).trans ?_
    refine (seqC_normal (st' := (S74_0 c5_ y884))).trans ?_
    refine (pre1 (d0y c5_ y884 _)).trans (bind_g fun y887 => ?_)
    refine (ret_eq).trans ?_
    kernel_rfl
noncomputable def cp71 : CallP := withC cp70 91 [pI, pI, pI, (.one (.cell (.cons (.g (.int .i64)) (.cons (.g (.int .i64)) (.cons (.g (.int .i64)) (.cons (.g (.int .i64)) (.cons (.g (.int .i64)) (.cons (.g (.int .i64)) (.cons (.g (.sl (.one (.int .i8)))) .nil))))))))), (.one (.cell (.cons (.g (.int .i64)) (.cons (.g (.int .i64)) (.cons (.g (.int .i64)) (.cons (.g (.int .i64)) (.cons (.g (.int .i64)) (.cons (.g (.int .i64)) (.cons (.g (.sl (.one (.int .i8)))) .nil))))))))), (.one (.cell (.cons (.g (.int .i64)) (.cons (.g (.sl (.one (.int .i64)))) (.cons (.g (.int .i64)) (.cons (.g (.int .i64)) (.cons (.g (.int .i64)) (.cons (.g (.int .i64)) (.cons (.g (.int .i64)) (.cons (.g (.int .i64)) (.cons (.g (.int .i64)) (.cons (.g (.int .i64)) (.cons (.g (.int .i64)) (.cons (.g (.int .i64)) (.cons (.g (.sl (.one (.int .i8)))) (.cons (.g (.sl (.one (.int .i32)))) .nil))))))))))))))))] (.one pI) (fun y : Int => y) (fun x => b43 x.1 x.2.1 x.2.2.1 (x.2.2.2.1.1, x.2.2.2.1.2.1, x.2.2.2.1.2.2.1, x.2.2.2.1.2.2.2.1, x.2.2.2.1.2.2.2.2.1, x.2.2.2.1.2.2.2.2.2.1, x.2.2.2.1.2.2.2.2.2.2.1) (x.2.2.2.2.1.1, x.2.2.2.2.1.2.1, x.2.2.2.2.1.2.2.1, x.2.2.2.2.1.2.2.2.1, x.2.2.2.2.1.2.2.2.2.1, x.2.2.2.2.1.2.2.2.2.2.1, x.2.2.2.2.1.2.2.2.2.2.2.1) (x.2.2.2.2.2.1.1, x.2.2.2.2.2.1.2.1, x.2.2.2.2.2.1.2.2.1, x.2.2.2.2.2.1.2.2.2.1, x.2.2.2.2.2.1.2.2.2.2.1, x.2.2.2.2.2.1.2.2.2.2.2.1, x.2.2.2.2.2.1.2.2.2.2.2.2.1, x.2.2.2.2.2.1.2.2.2.2.2.2.2.1, x.2.2.2.2.2.1.2.2.2.2.2.2.2.2.1, x.2.2.2.2.2.1.2.2.2.2.2.2.2.2.2.1, x.2.2.2.2.2.1.2.2.2.2.2.2.2.2.2.2.1, x.2.2.2.2.2.1.2.2.2.2.2.2.2.2.2.2.2.1, x.2.2.2.2.2.1.2.2.2.2.2.2.2.2.2.2.2.2.1, x.2.2.2.2.2.1.2.2.2.2.2.2.2.2.2.2.2.2.2.1))
theorem e5n : PureOK E cp71 := conS eok e5m a0o fun x => Eq.mp (by kernel_rfl) (d0v x.1 x.2.1 x.2.2.1 (x.2.2.2.1.1, x.2.2.2.1.2.1, x.2.2.2.1.2.2.1, x.2.2.2.1.2.2.2.1, x.2.2.2.1.2.2.2.2.1, x.2.2.2.1.2.2.2.2.2.1, x.2.2.2.1.2.2.2.2.2.2.1) (x.2.2.2.2.1.1, x.2.2.2.2.1.2.1, x.2.2.2.2.1.2.2.1, x.2.2.2.2.1.2.2.2.1, x.2.2.2.2.1.2.2.2.2.1, x.2.2.2.2.1.2.2.2.2.2.1, x.2.2.2.2.1.2.2.2.2.2.2.1) (x.2.2.2.2.2.1.1, x.2.2.2.2.2.1.2.1, x.2.2.2.2.2.1.2.2.1, x.2.2.2.2.2.1.2.2.2.1, x.2.2.2.2.2.1.2.2.2.2.1, x.2.2.2.2.2.1.2.2.2.2.2.1, x.2.2.2.2.2.1.2.2.2.2.2.2.1, x.2.2.2.2.2.1.2.2.2.2.2.2.2.1, x.2.2.2.2.2.1.2.2.2.2.2.2.2.2.1, x.2.2.2.2.2.1.2.2.2.2.2.2.2.2.2.1, x.2.2.2.2.2.1.2.2.2.2.2.2.2.2.2.2.1, x.2.2.2.2.2.1.2.2.2.2.2.2.2.2.2.2.2.1, x.2.2.2.2.2.1.2.2.2.2.2.2.2.2.2.2.2.2.1, x.2.2.2.2.2.1.2.2.2.2.2.2.2.2.2.2.2.2.2.1))
end
end Go.V.P
