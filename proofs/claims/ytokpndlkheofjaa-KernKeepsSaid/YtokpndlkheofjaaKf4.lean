/- What functions compute. -/
import Derived.Test.YtokpndlkheofjaaKf3
namespace Go.V.P
open Go.RowKit Go.V Go.Proofs
set_option linter.unusedVariables false
set_option maxRecDepth 100000
section
variable {α β : Type} (i_ : Int) (j_ : Int) (c2_ : Int) (c3_ : Node) (c4_ : Int) (c5_ : Int) (c7_ : pane) (c8_ : Int) (s557 : (Int × Int)) (y561 : Int) (k : St → Option α) (q : Kont α)
noncomputable abbrev C49 := codeOf E.P 83
noncomputable abbrev P49 := @preK α E 83 cp49 noE
noncomputable abbrev R49 := @runCode α E 83 cp49 noE
def kern_conv_1_1_r0_q (K : (Int × Int × Int) → β) : β := (K ((IntKind.wrap .i64 ((IntKind.wrap .i64 ((IntKind.wrap .i64 (c2_ * c3_.2.2.2.1)) - c3_.2.2.2.2.1)) + i_)), (IntKind.wrap .i64 ((IntKind.wrap .i64 ((IntKind.wrap .i64 (c4_ * c3_.2.2.2.1)) - c3_.2.2.2.2.1)) + j_)), (IntKind.wrap .i64 ((IntKind.wrap .i64 ((IntKind.wrap .i64 ((IntKind.wrap .i64 (c5_ * c3_.2.2.1)) + i_)) * c3_.2.2.1)) + j_))))
def kern_conv_1_1_r0_p : (Int × Int × Int) := kern_conv_1_1_r0_q i_ j_ c2_ c3_ c4_ c5_ (fun y => y)
theorem kern_conv_1_1_r0_n (K : (Int × Int × Int) → β) : kern_conv_1_1_r0_q i_ j_ c2_ c3_ c4_ c5_ K = K (kern_conv_1_1_r0_p i_ j_ c2_ c3_ c4_ c5_) := rfl
abbrev S49_0 : St := ⟨[(3, rC tsNode c3_), (5, .one (.cell [di c5_])), (6, rF 0), (7, rC tspane c7_), (10, ri ((kern_conv_1_1_r0_p i_ j_ c2_ c3_ c4_ c5_).1)), (11, ri ((kern_conv_1_1_r0_p i_ j_ c2_ c3_ c4_ c5_).2.1)), (12, ri ((kern_conv_1_1_r0_p i_ j_ c2_ c3_ c4_ c5_).2.2))], [[di c8_]], [], 89⟩
theorem kern_conv_1_1_r0 : P49 1 C49 ⟨[(0, ri i_), (1, ri j_), (2, .one (.cell [di c2_])), (3, rC tsNode c3_), (4, .one (.cell [di c4_])), (5, .one (.cell [di c5_])), (6, rF 0), (7, rC tspane c7_)], [[di c8_]], [], 89⟩ k = k (S49_0 i_ j_ c2_ c3_ c4_ c5_ c7_ c8_) := Eq.trans (by kernel_rfl) (kern_conv_1_1_r0_n i_ j_ c2_ c3_ c4_ c5_ (fun y547 : (Int × Int × Int) => k ⟨[(3, rC tsNode c3_), (5, .one (.cell [di c5_])), (6, rF 0), (7, rC tspane c7_), (10, ri y547.1), (11, ri y547.2.1), (12, ri y547.2.2)], [[di c8_]], [], 89⟩))
theorem kern_conv_1_1_f1000002 : P49 1 C49.r.l (S49_0 i_ j_ c2_ c3_ c4_ c5_ c7_ c8_) k = k ⟨[(3, rC tsNode c3_), (5, .one (.cell [di c5_])), (6, rF 0), (7, rC tspane c7_), (10, ri ((kern_conv_1_1_r0_p i_ j_ c2_ c3_ c4_ c5_).1)), (11, ri ((kern_conv_1_1_r0_p i_ j_ c2_ c3_ c4_ c5_).2.1)), (12, ri ((kern_conv_1_1_r0_p i_ j_ c2_ c3_ c4_ c5_).2.2)), (45, rb (c3_.1 == 2))], [[di c8_]], [], 89⟩ := by kernel_rfl
def kern_conv_1_1_r2_p : Option Int := (Option.bind (kern_pane_at c7_ ((kern_conv_1_1_r0_p i_ j_ c2_ c3_ c4_ c5_).1) ((kern_conv_1_1_r0_p i_ j_ c2_ c3_ c4_ c5_).2.1) c5_) (fun y550 : Int => (bif (decide ((0 : Int) ≤ ((kern_conv_1_1_r0_p i_ j_ c2_ c3_ c4_ c5_).2.2))) then (bif (decide (((kern_conv_1_1_r0_p i_ j_ c2_ c3_ c4_ c5_).2.2) < (c3_.2.2.2.2.2.2.2.2.2.2.2.2.1.length : Int))) then (some (IntKind.wrap .i64 (c8_ + (IntKind.wrap .i64 (y550 * (IntKind.wrap .i64 (gt c3_.2.2.2.2.2.2.2.2.2.2.2.2.1 ((kern_conv_1_1_r0_p i_ j_ c2_ c3_ c4_ c5_).2.2) (0 : Int)))))))) else none) else none)))
theorem kern_conv_1_1_r2 : P49 1 C49.r.l.r.t (S49_0 i_ j_ c2_ c3_ c4_ c5_ c7_ c8_) k = Option.bind (kern_conv_1_1_r2_p i_ j_ c2_ c3_ c4_ c5_ c7_ c8_) (fun y551 : Int => k ⟨[], [[di y551]], [], 89⟩) := .trans (by kernel_rfl) (bind_b fun y550 => (bif_b (bif_b some_b none_b) none_b))
abbrev S49_1 : St := ⟨[(3, rC tsNode c3_), (6, rF 0), (7, rC tspane c7_), (10, ri ((kern_conv_1_1_r0_p i_ j_ c2_ c3_ c4_ c5_).1)), (11, ri ((kern_conv_1_1_r0_p i_ j_ c2_ c3_ c4_ c5_).2.1)), (12, ri ((kern_conv_1_1_r0_p i_ j_ c2_ c3_ c4_ c5_).2.2))], [[di c8_]], [], 89⟩
abbrev S49_2 : St := ⟨[(3, rC tsNode c3_), (6, rF 0), (7, rC tspane c7_), (10, ri ((kern_conv_1_1_r0_p i_ j_ c2_ c3_ c4_ c5_).1)), (11, ri ((kern_conv_1_1_r0_p i_ j_ c2_ c3_ c4_ c5_).2.1)), (12, ri ((kern_conv_1_1_r0_p i_ j_ c2_ c3_ c4_ c5_).2.2)), (63, ri c7_.2.2.1), (64, ri 0)], [[di c8_]], [], 89⟩
theorem kern_conv_1_1_f4 : P49 1 C49.r.r (S49_1 i_ j_ c2_ c3_ c4_ c5_ c7_ c8_) k = k (S49_2 i_ j_ c2_ c3_ c4_ c5_ c7_ c8_) := by kernel_rfl
abbrev S49_3 : St := ⟨[(3, rC tsNode c3_), (6, rF 0), (7, rC tspane c7_), (10, ri ((kern_conv_1_1_r0_p i_ j_ c2_ c3_ c4_ c5_).1)), (11, ri ((kern_conv_1_1_r0_p i_ j_ c2_ c3_ c4_ c5_).2.1)), (12, ri ((kern_conv_1_1_r0_p i_ j_ c2_ c3_ c4_ c5_).2.2)), (63, ri c7_.2.2.1), (64, ri s557.1)], [[di s557.2]], [], 89⟩
theorem kern_conv_1_1_fz : P49 1 C49.r.r.r.b.b (S49_3 i_ j_ c2_ c3_ c4_ c5_ c7_ s557) k = k ⟨[(3, rC tsNode c3_), (6, rF 0), (7, rC tspane c7_), (10, ri ((kern_conv_1_1_r0_p i_ j_ c2_ c3_ c4_ c5_).1)), (11, ri ((kern_conv_1_1_r0_p i_ j_ c2_ c3_ c4_ c5_).2.1)), (12, ri ((kern_conv_1_1_r0_p i_ j_ c2_ c3_ c4_ c5_).2.2)), (63, ri c7_.2.2.1), (64, ri s557.1), (65, rb (decide (s557.1 < c7_.2.2.1)))], [[di s557.2]], [], 89⟩ := by kernel_rfl
abbrev S49_4 : St := ⟨[(3, rC tsNode c3_), (6, rF 0), (7, rC tspane c7_), (10, ri ((kern_conv_1_1_r0_p i_ j_ c2_ c3_ c4_ c5_).1)), (11, ri ((kern_conv_1_1_r0_p i_ j_ c2_ c3_ c4_ c5_).2.1)), (12, ri ((kern_conv_1_1_r0_p i_ j_ c2_ c3_ c4_ c5_).2.2)), (13, ri s557.1), (63, ri c7_.2.2.1), (64, ri s557.1)], [[di s557.2]], [], 89⟩
theorem kern_conv_1_1_f6 : P49 1 C49.r.r.r.b.b.r.r.l.b (S49_3 i_ j_ c2_ c3_ c4_ c5_ c7_ s557) k = k (S49_4 i_ j_ c2_ c3_ c4_ c5_ c7_ s557) := by kernel_rfl
def kern_conv_1_1_r6_p : Option Int := (Option.bind (kern_pane_at c7_ ((kern_conv_1_1_r0_p i_ j_ c2_ c3_ c4_ c5_).1) ((kern_conv_1_1_r0_p i_ j_ c2_ c3_ c4_ c5_).2.1) s557.1) (fun y560 : Int => (bif (decide ((0 : Int) ≤ (IntKind.wrap .i64 ((IntKind.wrap .i64 (((kern_conv_1_1_r0_p i_ j_ c2_ c3_ c4_ c5_).2.2) * c7_.2.2.1)) + s557.1)))) then (bif (decide ((IntKind.wrap .i64 ((IntKind.wrap .i64 (((kern_conv_1_1_r0_p i_ j_ c2_ c3_ c4_ c5_).2.2) * c7_.2.2.1)) + s557.1)) < (c3_.2.2.2.2.2.2.2.2.2.2.2.2.1.length : Int))) then (some (IntKind.wrap .i64 (s557.2 + (IntKind.wrap .i64 (y560 * (IntKind.wrap .i64 (gt c3_.2.2.2.2.2.2.2.2.2.2.2.2.1 (IntKind.wrap .i64 ((IntKind.wrap .i64 (((kern_conv_1_1_r0_p i_ j_ c2_ c3_ c4_ c5_).2.2) * c7_.2.2.1)) + s557.1)) (0 : Int)))))))) else none) else none)))
abbrev S49_5 : St := ⟨[(3, rC tsNode c3_), (6, rF 0), (7, rC tspane c7_), (10, ri ((kern_conv_1_1_r0_p i_ j_ c2_ c3_ c4_ c5_).1)), (11, ri ((kern_conv_1_1_r0_p i_ j_ c2_ c3_ c4_ c5_).2.1)), (12, ri ((kern_conv_1_1_r0_p i_ j_ c2_ c3_ c4_ c5_).2.2)), (63, ri c7_.2.2.1), (64, ri s557.1)], [[di y561]], [], 89⟩
theorem kern_conv_1_1_r6 : R49 C49.r.r.r.b.b.r.r.l.b.r (S49_4 i_ j_ c2_ c3_ c4_ c5_ c7_ s557) q = Option.bind (kern_conv_1_1_r6_p i_ j_ c2_ c3_ c4_ c5_ c7_ s557) (fun y561 : Int => q .normal (S49_5 i_ j_ c2_ c3_ c4_ c5_ c7_ s557 y561)) := .trans (by kernel_rfl) (bind_b fun y560 => (bif_b (bif_b some_b none_b) none_b))
theorem kern_conv_1_1_r7 : R49 C49.r.r.r.b.b.r.r.r (S49_5 i_ j_ c2_ c3_ c4_ c5_ c7_ s557 y561) q = q .normal ⟨[(3, rC tsNode c3_), (6, rF 0), (7, rC tspane c7_), (10, ri ((kern_conv_1_1_r0_p i_ j_ c2_ c3_ c4_ c5_).1)), (11, ri ((kern_conv_1_1_r0_p i_ j_ c2_ c3_ c4_ c5_).2.1)), (12, ri ((kern_conv_1_1_r0_p i_ j_ c2_ c3_ c4_ c5_).2.2)), (63, ri c7_.2.2.1), (64, ri (IntKind.wrap .i64 (s557.1 + 1)))], [[di y561]], [], 89⟩ := by kernel_rfl
def kern_conv_1_1_l4_p : Option ((Int × Int) ⊕ (Int × Int)) := (bif (decide (s557.1 < c7_.2.2.1)) then (Option.bind (kern_conv_1_1_r6_p i_ j_ c2_ c3_ c4_ c5_ c7_ s557) (fun y561 : Int => (some (Sum.inl ((IntKind.wrap .i64 (s557.1 + 1)), y561))))) else (some (Sum.inr s557)))
abbrev S49_6 (y562 : (Int × Int)) : St := ⟨[(3, rC tsNode c3_), (6, rF 0), (7, rC tspane c7_), (10, ri ((kern_conv_1_1_r0_p i_ j_ c2_ c3_ c4_ c5_).1)), (11, ri ((kern_conv_1_1_r0_p i_ j_ c2_ c3_ c4_ c5_).2.1)), (12, ri ((kern_conv_1_1_r0_p i_ j_ c2_ c3_ c4_ c5_).2.2)), (63, ri c7_.2.2.1), (64, ri y562.1)], [[di y562.2]], [], 89⟩
theorem kern_conv_1_1_l4_b : R49 C49.r.r.r.b.b (S49_3 i_ j_ c2_ c3_ c4_ c5_ c7_ s557) (loopKont 1 q) = Option.bind (kern_conv_1_1_l4_p i_ j_ c2_ c3_ c4_ c5_ c7_ s557) (either (fun y : (Int × Int) => q .normal ⟨[(3, rC tsNode c3_), (6, rF 0), (7, rC tspane c7_), (10, ri ((kern_conv_1_1_r0_p i_ j_ c2_ c3_ c4_ c5_).1)), (11, ri ((kern_conv_1_1_r0_p i_ j_ c2_ c3_ c4_ c5_).2.1)), (12, ri ((kern_conv_1_1_r0_p i_ j_ c2_ c3_ c4_ c5_).2.2)), (63, ri c7_.2.2.1), (64, ri y.1)], [[di y.2]], [], 89⟩) (fun y562 : (Int × Int) => q (.exit 0) (S49_6 i_ j_ c2_ c3_ c4_ c5_ c7_ y562))) := by
  refine .trans ?_ (bif_b (bind_b fun y561 => e2_0) e2_1)
  refine (pre1 (kern_conv_1_1_fz i_ j_ c2_ c3_ c4_ c5_ c7_ s557 _)).trans ?_
  refine .trans seq_push ?_
  refine (cond_e (b := (decide (s557.1 < c7_.2.2.1))) (st' := (S49_3 i_ j_ c2_ c3_ c4_ c5_ c7_ s557)) ).trans (bif_g ?_ ?_)
  · refine (skip_eq).trans ?_
    refine (seqC_normal (st' := (S49_3 i_ j_ c2_ c3_ c4_ c5_ c7_ s557))).trans ?_
    refine .trans seq_push ?_
    refine (block_push (id := 1)).trans ?_
    refine (pre1 (kern_conv_1_1_f6 i_ j_ c2_ c3_ c4_ c5_ c7_ s557 _)).trans ?_
    refine (kern_conv_1_1_r6 i_ j_ c2_ c3_ c4_ c5_ c7_ s557 _).trans (bind_g fun y561 => ?_)
    refine block_normal.trans ?_
    refine (seqC_normal (st' := (S49_5 i_ j_ c2_ c3_ c4_ c5_ c7_ s557 y561))).trans ?_
    refine (kern_conv_1_1_r7 i_ j_ c2_ c3_ c4_ c5_ c7_ s557 y561 _).trans ?_
    kernel_rfl
  · refine ((exit_eq (j := 0))).trans ?_
    refine seqC_exit.trans ?_
    kernel_rfl
theorem kern_conv_1_1_l4 : R49 C49.r.r.r.b (S49_2 i_ j_ c2_ c3_ c4_ c5_ c7_ c8_) q = Option.bind (iterN (kern_conv_1_1_l4_p i_ j_ c2_ c3_ c4_ c5_ c7_) LL ((0 : Int), c8_)) (fun y562 : (Int × Int) => q (.exit 0) (S49_6 i_ j_ c2_ c3_ c4_ c5_ c7_ y562)) :=
  Eq.trans (by kernel_rfl) (loop_iter1 (S := fun s557 : (Int × Int) => (S49_3 i_ j_ c2_ c3_ c4_ c5_ c7_ s557)) (Y1 := fun y562 : (Int × Int) => ((.exit 0), (S49_6 i_ j_ c2_ c3_ c4_ c5_ c7_ y562))) (fun s q => kern_conv_1_1_l4_b i_ j_ c2_ c3_ c4_ c5_ c7_ s q) (fun z => rfl) LL ((0 : Int), c8_))
/-- quilt/kern.conv$1$1 -/
def kern_conv_1_1 : Option Int := (bif (c3_.1 == 2) then (Option.bind (kern_conv_1_1_r2_p i_ j_ c2_ c3_ c4_ c5_ c7_ c8_) (fun y551 : Int => (some y551))) else (Option.bind (iterN (kern_conv_1_1_l4_p i_ j_ c2_ c3_ c4_ c5_ c7_) LL ((0 : Int), c8_)) (fun y562 : (Int × Int) => (some y562.2))))
theorem kern_conv_1_1_is (k : R → Heap → Option α) : callBody E cp49 noE α 83 [ri i_, ri j_, .one (.cell [di c2_]), rC tsNode c3_, .one (.cell [di c4_]), .one (.cell [di c5_]), rF 0, rC tspane c7_] [[di c8_]] k = Option.bind (kern_conv_1_1 i_ j_ c2_ c3_ c4_ c5_ c7_ c8_) (fun y : Int => k (.tup []) [[di y]]) := by
  refine .trans ?_ (bif_b (bind_b fun y551 => some_b) (bind_b fun y562 => some_b))
  refine (body_is (nt := 89) (regs := [(0, ri i_), (1, ri j_), (2, .one (.cell [di c2_])), (3, rC tsNode c3_), (4, .one (.cell [di c4_])), (5, .one (.cell [di c5_])), (6, rF 0), (7, rC tspane c7_)]) (by kernel_rfl) (by kernel_rfl)).trans ?_
  refine (pre1 (kern_conv_1_1_r0 i_ j_ c2_ c3_ c4_ c5_ c7_ c8_ _)).trans ?_
  refine .trans seq_push ?_
  refine (pre1 (kern_conv_1_1_f1000002 i_ j_ c2_ c3_ c4_ c5_ c7_ c8_ _)).trans ?_
  refine (cond_e (b := (c3_.1 == 2)) (st' := (S49_0 i_ j_ c2_ c3_ c4_ c5_ c7_ c8_)) ).trans (bif_g ?_ ?_)
  · refine (pre1 (kern_conv_1_1_r2 i_ j_ c2_ c3_ c4_ c5_ c7_ c8_ _)).trans (bind_g fun y551 => ?_)
    refine (ret_eq).trans ?_
    refine seqC_ret.trans ?_
    kernel_rfl
  · refine (skip_eq).trans ?_
    refine (seqC_normal (st' := (S49_1 i_ j_ c2_ c3_ c4_ c5_ c7_ c8_))).trans ?_
    refine (pre1 (kern_conv_1_1_f4 i_ j_ c2_ c3_ c4_ c5_ c7_ c8_ _)).trans ?_
    refine (block_push (id := 0)).trans ?_
    refine (kern_conv_1_1_l4 i_ j_ c2_ c3_ c4_ c5_ c7_ c8_ _).trans (bind_g fun y562 => ?_)
    refine block_same.trans ?_
    kernel_rfl
noncomputable def ce1 : CallE := withE noE 83 (decA [pI, pI, (.one (.cell (.cons (.g (.int .i64)) .nil))), (.one (.cell (.cons (.g (.int .i64)) (.cons (.g (.sl (.one (.int .i64)))) (.cons (.g (.int .i64)) (.cons (.g (.int .i64)) (.cons (.g (.int .i64)) (.cons (.g (.int .i64)) (.cons (.g (.int .i64)) (.cons (.g (.int .i64)) (.cons (.g (.int .i64)) (.cons (.g (.int .i64)) (.cons (.g (.int .i64)) (.cons (.g (.int .i64)) (.cons (.g (.sl (.one (.int .i8)))) (.cons (.g (.sl (.one (.int .i32)))) .nil)))))))))))))))), (.one (.cell (.cons (.g (.int .i64)) .nil))), (.one (.cell (.cons (.g (.int .i64)) .nil))), (.one (.ref 0 0)), (.one (.cell (.cons (.g (.int .i64)) (.cons (.g (.int .i64)) (.cons (.g (.int .i64)) (.cons (.g (.int .i64)) (.cons (.g (.int .i64)) (.cons (.g (.int .i64)) (.cons (.g (.sl (.one (.int .i8)))) .nil)))))))))] [(.cons (.g (.int .i64)) .nil)]) .unit (fun y : Int => ()) (fun x y => [[di y]]) (fun x => kern_conv_1_1 x.1.1 x.1.2.1 x.1.2.2.1.1 (x.1.2.2.2.1.1, x.1.2.2.2.1.2.1, x.1.2.2.2.1.2.2.1, x.1.2.2.2.1.2.2.2.1, x.1.2.2.2.1.2.2.2.2.1, x.1.2.2.2.1.2.2.2.2.2.1, x.1.2.2.2.1.2.2.2.2.2.2.1, x.1.2.2.2.1.2.2.2.2.2.2.2.1, x.1.2.2.2.1.2.2.2.2.2.2.2.2.1, x.1.2.2.2.1.2.2.2.2.2.2.2.2.2.1, x.1.2.2.2.1.2.2.2.2.2.2.2.2.2.2.1, x.1.2.2.2.1.2.2.2.2.2.2.2.2.2.2.2.1, x.1.2.2.2.1.2.2.2.2.2.2.2.2.2.2.2.2.1, x.1.2.2.2.1.2.2.2.2.2.2.2.2.2.2.2.2.2.1) x.1.2.2.2.2.1.1 x.1.2.2.2.2.2.1.1 (x.1.2.2.2.2.2.2.2.1.1, x.1.2.2.2.2.2.2.2.1.2.1, x.1.2.2.2.2.2.2.2.1.2.2.1, x.1.2.2.2.2.2.2.2.1.2.2.2.1, x.1.2.2.2.2.2.2.2.1.2.2.2.2.1, x.1.2.2.2.2.2.2.2.1.2.2.2.2.2.1, x.1.2.2.2.2.2.2.2.1.2.2.2.2.2.2.1) x.2.1.1)
theorem ce1_ok : EffOK E ce1 := conE eok cp49_ok noE_ok fun α x k => Eq.mp (by kernel_rfl) (kern_conv_1_1_is x.1.1 x.1.2.1 x.1.2.2.1.1 (x.1.2.2.2.1.1, x.1.2.2.2.1.2.1, x.1.2.2.2.1.2.2.1, x.1.2.2.2.1.2.2.2.1, x.1.2.2.2.1.2.2.2.2.1, x.1.2.2.2.1.2.2.2.2.2.1, x.1.2.2.2.1.2.2.2.2.2.2.1, x.1.2.2.2.1.2.2.2.2.2.2.2.1, x.1.2.2.2.1.2.2.2.2.2.2.2.2.1, x.1.2.2.2.1.2.2.2.2.2.2.2.2.2.1, x.1.2.2.2.1.2.2.2.2.2.2.2.2.2.2.1, x.1.2.2.2.1.2.2.2.2.2.2.2.2.2.2.2.1, x.1.2.2.2.1.2.2.2.2.2.2.2.2.2.2.2.2.1, x.1.2.2.2.1.2.2.2.2.2.2.2.2.2.2.2.2.2.1) x.1.2.2.2.2.1.1 x.1.2.2.2.2.2.1.1 (x.1.2.2.2.2.2.2.2.1.1, x.1.2.2.2.2.2.2.2.1.2.1, x.1.2.2.2.2.2.2.2.1.2.2.1, x.1.2.2.2.2.2.2.2.1.2.2.2.1, x.1.2.2.2.2.2.2.2.1.2.2.2.2.1, x.1.2.2.2.2.2.2.2.1.2.2.2.2.2.1, x.1.2.2.2.2.2.2.2.1.2.2.2.2.2.2.1) x.2.1.1 k)
end
section
variable {α : Type} (k_ : Int) (do_ : Int) (do_' : Node) (do_'' : Int) (do_''' : Int) (do_'''' : pane) (c2_ : Int) (s576 : (Int × Int)) (s587 : (Int × Int)) (y589 : Int) (y590 : (Int × Int)) (k : St → Option α) (q : Kont α)
noncomputable abbrev C50 := codeOf E.P 82
noncomputable abbrev P50 := @preK α E 82 cp49 ce1
noncomputable abbrev R50 := @runCode α E 82 cp49 ce1
abbrev S50_0 : St := ⟨[(0, ri k_), (1, .one (.fn 83 [.cell [di do_], .cell (tsNode.leaves do_'), .cell [di do_''], .cell [di do_'''], .ref 0 0, .cell (tspane.leaves do_'''')])), (6, ri k_), (7, ri 0)], [[di c2_]], [], 20⟩
theorem kern_slide_f1 : P50 1 C50 ⟨[(0, ri k_), (1, .one (.fn 83 [.cell [di do_], .cell (tsNode.leaves do_'), .cell [di do_''], .cell [di do_'''], .ref 0 0, .cell (tspane.leaves do_'''')]))], [[di c2_]], [], 20⟩ k = k (S50_0 k_ do_ do_' do_'' do_''' do_'''' c2_) := by kernel_rfl
abbrev S50_1 : St := ⟨[(0, ri k_), (1, .one (.fn 83 [.cell [di do_], .cell (tsNode.leaves do_'), .cell [di do_''], .cell [di do_'''], .ref 0 0, .cell (tspane.leaves do_'''')])), (6, ri k_), (7, ri s576.1)], [[di s576.2]], [], 20⟩
theorem kern_slide_fz : P50 1 C50.r.b.b (S50_1 k_ do_ do_' do_'' do_''' do_'''' s576) k = k ⟨[(0, ri k_), (1, .one (.fn 83 [.cell [di do_], .cell (tsNode.leaves do_'), .cell [di do_''], .cell [di do_'''], .ref 0 0, .cell (tspane.leaves do_'''')])), (6, ri k_), (7, ri s576.1), (8, rb (decide (s576.1 < k_)))], [[di s576.2]], [], 20⟩ := by kernel_rfl
abbrev S50_2 : St := ⟨[(0, ri k_), (1, .one (.fn 83 [.cell [di do_], .cell (tsNode.leaves do_'), .cell [di do_''], .cell [di do_'''], .ref 0 0, .cell (tspane.leaves do_'''')])), (4, ri s576.1), (6, ri k_), (7, ri s576.1), (10, ri k_), (11, ri 0)], [[di s576.2]], [], 20⟩
theorem kern_slide_f4 : P50 2 C50.r.b.b.r.r.l.b (S50_1 k_ do_ do_' do_'' do_''' do_'''' s576) k = k (S50_2 k_ do_ do_' do_'' do_''' do_'''' s576) := by kernel_rfl
abbrev S50_3 : St := ⟨[(0, ri k_), (1, .one (.fn 83 [.cell [di do_], .cell (tsNode.leaves do_'), .cell [di do_''], .cell [di do_'''], .ref 0 0, .cell (tspane.leaves do_'''')])), (4, ri s576.1), (6, ri k_), (7, ri s576.1), (10, ri k_), (11, ri s587.1)], [[di s587.2]], [], 20⟩
theorem kern_slide_fzx1 : P50 1 C50.r.b.b.r.r.l.b.r.r.b.b (S50_3 k_ do_ do_' do_'' do_''' do_'''' s576 s587) k = k ⟨[(0, ri k_), (1, .one (.fn 83 [.cell [di do_], .cell (tsNode.leaves do_'), .cell [di do_''], .cell [di do_'''], .ref 0 0, .cell (tspane.leaves do_'''')])), (4, ri s576.1), (6, ri k_), (7, ri s576.1), (10, ri k_), (11, ri s587.1), (12, rb (decide (s587.1 < k_)))], [[di s587.2]], [], 20⟩ := by kernel_rfl
abbrev S50_4 : St := ⟨[(0, ri k_), (1, .one (.fn 83 [.cell [di do_], .cell (tsNode.leaves do_'), .cell [di do_''], .cell [di do_'''], .ref 0 0, .cell (tspane.leaves do_'''')])), (4, ri s576.1), (5, ri s587.1), (6, ri k_), (7, ri s576.1), (10, ri k_), (11, ri s587.1)], [[di s587.2]], [], 20⟩
theorem kern_slide_f6 : P50 1 C50.r.b.b.r.r.l.b.r.r.b.b.r.r.l.b (S50_3 k_ do_ do_' do_'' do_''' do_'''' s576 s587) k = k (S50_4 k_ do_ do_' do_'' do_''' do_'''' s576 s587) := by kernel_rfl
abbrev S50_5 : St := ⟨[(0, ri k_), (1, .one (.fn 83 [.cell [di do_], .cell (tsNode.leaves do_'), .cell [di do_''], .cell [di do_'''], .ref 0 0, .cell (tspane.leaves do_'''')])), (4, ri s576.1), (6, ri k_), (7, ri s576.1), (10, ri k_), (11, ri s587.1)], [[di y589]], [], 20⟩
theorem kern_slide_r6 : R50 C50.r.b.b.r.r.l.b.r.r.b.b.r.r.l.b.r (S50_4 k_ do_ do_' do_'' do_''' do_'''' s576 s587) q = Option.bind (kern_conv_1_1 s576.1 s587.1 do_ do_' do_'' do_''' do_'''' s587.2) fun y589 : Int => q .normal (S50_5 k_ do_ do_' do_'' do_''' do_'''' s576 s587 y589) := by kernel_rfl
theorem kern_slide_r7 : R50 C50.r.b.b.r.r.l.b.r.r.b.b.r.r.r (S50_5 k_ do_ do_' do_'' do_''' do_'''' s576 s587 y589) q = q .normal ⟨[(0, ri k_), (1, .one (.fn 83 [.cell [di do_], .cell (tsNode.leaves do_'), .cell [di do_''], .cell [di do_'''], .ref 0 0, .cell (tspane.leaves do_'''')])), (4, ri s576.1), (6, ri k_), (7, ri s576.1), (10, ri k_), (11, ri (IntKind.wrap .i64 (s587.1 + 1)))], [[di y589]], [], 20⟩ := by kernel_rfl
def kern_slide_l4_p : Option ((Int × Int) ⊕ (Int × Int)) := (bif (decide (s587.1 < k_)) then (Option.bind (kern_conv_1_1 s576.1 s587.1 do_ do_' do_'' do_''' do_'''' s587.2) (fun y589 : Int => (some (Sum.inl ((IntKind.wrap .i64 (s587.1 + 1)), y589))))) else (some (Sum.inr s587)))
abbrev S50_6 : St := ⟨[(0, ri k_), (1, .one (.fn 83 [.cell [di do_], .cell (tsNode.leaves do_'), .cell [di do_''], .cell [di do_'''], .ref 0 0, .cell (tspane.leaves do_'''')])), (4, ri s576.1), (6, ri k_), (7, ri s576.1), (10, ri k_), (11, ri y590.1)], [[di y590.2]], [], 20⟩
theorem kern_slide_l4_b : R50 C50.r.b.b.r.r.l.b.r.r.b.b (S50_3 k_ do_ do_' do_'' do_''' do_'''' s576 s587) (loopKont 1 q) = Option.bind (kern_slide_l4_p k_ do_ do_' do_'' do_''' do_'''' s576 s587) (either (fun y : (Int × Int) => q .normal ⟨[(0, ri k_), (1, .one (.fn 83 [.cell [di do_], .cell (tsNode.leaves do_'), .cell [di do_''], .cell [di do_'''], .ref 0 0, .cell (tspane.leaves do_'''')])), (4, ri s576.1), (6, ri k_), (7, ri s576.1), (10, ri k_), (11, ri y.1)], [[di y.2]], [], 20⟩) (fun y590 : (Int × Int) => q (.exit 2) (S50_6 k_ do_ do_' do_'' do_''' do_'''' s576 y590))) := by
  refine .trans ?_ (bif_b (bind_b fun y589 => e2_0) e2_1)
  refine (pre1 (kern_slide_fzx1 k_ do_ do_' do_'' do_''' do_'''' s576 s587 _)).trans ?_
  refine .trans seq_push ?_
  refine (cond_e (b := (decide (s587.1 < k_))) (st' := (S50_3 k_ do_ do_' do_'' do_''' do_'''' s576 s587)) ).trans (bif_g ?_ ?_)
  · refine (skip_eq).trans ?_
    refine (seqC_normal (st' := (S50_3 k_ do_ do_' do_'' do_''' do_'''' s576 s587))).trans ?_
    refine .trans seq_push ?_
    refine (block_push (id := 3)).trans ?_
    refine (pre1 (kern_slide_f6 k_ do_ do_' do_'' do_''' do_'''' s576 s587 _)).trans ?_
    refine (kern_slide_r6 k_ do_ do_' do_'' do_''' do_'''' s576 s587 _).trans (bind_g fun y589 => ?_)
    refine block_normal.trans ?_
    refine (seqC_normal (st' := (S50_5 k_ do_ do_' do_'' do_''' do_'''' s576 s587 y589))).trans ?_
    refine (kern_slide_r7 k_ do_ do_' do_'' do_''' do_'''' s576 s587 y589 _).trans ?_
    kernel_rfl
  · refine ((exit_eq (j := 2))).trans ?_
    refine seqC_exit.trans ?_
    kernel_rfl
theorem kern_slide_l4 : R50 C50.r.b.b.r.r.l.b.r.r.b (S50_2 k_ do_ do_' do_'' do_''' do_'''' s576) q = Option.bind (iterN (kern_slide_l4_p k_ do_ do_' do_'' do_''' do_'''' s576) LL ((0 : Int), s576.2)) (fun y590 : (Int × Int) => q (.exit 2) (S50_6 k_ do_ do_' do_'' do_''' do_'''' s576 y590)) :=
  Eq.trans (by kernel_rfl) (loop_iter1 (S := fun s587 : (Int × Int) => (S50_3 k_ do_ do_' do_'' do_''' do_'''' s576 s587)) (Y1 := fun y590 : (Int × Int) => ((.exit 2), (S50_6 k_ do_ do_' do_'' do_''' do_'''' s576 y590))) (fun s q => kern_slide_l4_b k_ do_ do_' do_'' do_''' do_'''' s576 s q) (fun z => rfl) LL ((0 : Int), s576.2))
abbrev S50_7 : St := ⟨[(0, ri k_), (1, .one (.fn 83 [.cell [di do_], .cell (tsNode.leaves do_'), .cell [di do_''], .cell [di do_'''], .ref 0 0, .cell (tspane.leaves do_'''')])), (6, ri k_), (7, ri s576.1)], [[di y590.2]], [], 20⟩
theorem kern_slide_r8 : R50 C50.r.b.b.r.r.r (S50_7 k_ do_ do_' do_'' do_''' do_'''' s576 y590) q = q .normal ⟨[(0, ri k_), (1, .one (.fn 83 [.cell [di do_], .cell (tsNode.leaves do_'), .cell [di do_''], .cell [di do_'''], .ref 0 0, .cell (tspane.leaves do_'''')])), (6, ri k_), (7, ri (IntKind.wrap .i64 (s576.1 + 1)))], [[di y590.2]], [], 20⟩ := by kernel_rfl
def kern_slide_l1_p : Option ((Int × Int) ⊕ (Int × Int)) := (bif (decide (s576.1 < k_)) then (Option.bind (iterN (kern_slide_l4_p k_ do_ do_' do_'' do_''' do_'''' s576) LL ((0 : Int), s576.2)) (fun y590 : (Int × Int) => (some (Sum.inl ((IntKind.wrap .i64 (s576.1 + 1)), y590.2))))) else (some (Sum.inr s576)))
abbrev S50_8 (y591 : (Int × Int)) : St := ⟨[(0, ri k_), (1, .one (.fn 83 [.cell [di do_], .cell (tsNode.leaves do_'), .cell [di do_''], .cell [di do_'''], .ref 0 0, .cell (tspane.leaves do_'''')])), (6, ri k_), (7, ri y591.1)], [[di y591.2]], [], 20⟩
theorem kern_slide_l1_b : R50 C50.r.b.b (S50_1 k_ do_ do_' do_'' do_''' do_'''' s576) (loopKont 1 q) = Option.bind (kern_slide_l1_p k_ do_ do_' do_'' do_''' do_'''' s576) (either (fun y : (Int × Int) => q .normal ⟨[(0, ri k_), (1, .one (.fn 83 [.cell [di do_], .cell (tsNode.leaves do_'), .cell [di do_''], .cell [di do_'''], .ref 0 0, .cell (tspane.leaves do_'''')])), (6, ri k_), (7, ri y.1)], [[di y.2]], [], 20⟩) (fun y591 : (Int × Int) => q (.exit 0) (S50_8 k_ do_ do_' do_'' do_''' do_'''' y591))) := by
  refine .trans ?_ (bif_b (bind_b fun y590 => e2_0) e2_1)
  refine (pre1 (kern_slide_fz k_ do_ do_' do_'' do_''' do_'''' s576 _)).trans ?_
  refine .trans seq_push ?_
  refine (cond_e (b := (decide (s576.1 < k_))) (st' := (S50_1 k_ do_ do_' do_'' do_''' do_'''' s576)) ).trans (bif_g ?_ ?_)
  · refine (skip_eq).trans ?_
    refine (seqC_normal (st' := (S50_1 k_ do_ do_' do_'' do_''' do_'''' s576))).trans ?_
    refine .trans seq_push ?_
    refine (block_push (id := 1)).trans ?_
    refine (pre2 (kern_slide_f4 k_ do_ do_' do_'' do_''' do_'''' s576 _)).trans ?_
    refine (block_push (id := 2)).trans ?_
    refine (kern_slide_l4 k_ do_ do_' do_'' do_''' do_'''' s576 _).trans (bind_g fun y590 => ?_)
    refine block_same.trans ?_
    refine block_normal.trans ?_
    refine (seqC_normal (st' := (S50_7 k_ do_ do_' do_'' do_''' do_'''' s576 y590))).trans ?_
    refine (kern_slide_r8 k_ do_ do_' do_'' do_''' do_'''' s576 y590 _).trans ?_
    kernel_rfl
  · refine ((exit_eq (j := 0))).trans ?_
    refine seqC_exit.trans ?_
    kernel_rfl
theorem kern_slide_l1 : R50 C50.r.b (S50_0 k_ do_ do_' do_'' do_''' do_'''' c2_) q = Option.bind (iterN (kern_slide_l1_p k_ do_ do_' do_'' do_''' do_'''') LL ((0 : Int), c2_)) (fun y591 : (Int × Int) => q (.exit 0) (S50_8 k_ do_ do_' do_'' do_''' do_'''' y591)) :=
  Eq.trans (by kernel_rfl) (loop_iter1 (S := fun s576 : (Int × Int) => (S50_1 k_ do_ do_' do_'' do_''' do_'''' s576)) (Y1 := fun y591 : (Int × Int) => ((.exit 0), (S50_8 k_ do_ do_' do_'' do_''' do_'''' y591))) (fun s q => kern_slide_l1_b k_ do_ do_' do_'' do_''' do_'''' s q) (fun z => rfl) LL ((0 : Int), c2_))
/-- quilt/kern.slide -/
def kern_slide : Option Int := (Option.bind (iterN (kern_slide_l1_p k_ do_ do_' do_'' do_''' do_'''') LL ((0 : Int), c2_)) (fun y591 : (Int × Int) => (some y591.2)))
theorem kern_slide_is (k : R → Heap → Option α) : callBody E cp49 ce1 α 82 [ri k_, .one (.fn 83 [.cell [di do_], .cell (tsNode.leaves do_'), .cell [di do_''], .cell [di do_'''], .ref 0 0, .cell (tspane.leaves do_'''')])] [[di c2_]] k = Option.bind (kern_slide k_ do_ do_' do_'' do_''' do_'''' c2_) (fun y : Int => k (.tup []) [[di y]]) := by
  refine .trans ?_ (bind_b fun y591 => some_b)
  refine (body_is (nt := 20) (regs := [(0, ri k_), (1, .one (.fn 83 [.cell [di do_], .cell (tsNode.leaves do_'), .cell [di do_''], .cell [di do_'''], .ref 0 0, .cell (tspane.leaves do_'''')]))]) (by kernel_rfl) (by kernel_rfl)).trans ?_
  refine (pre1 (kern_slide_f1 k_ do_ do_' do_'' do_''' do_'''' c2_ _)).trans ?_
  refine (block_push (id := 0)).trans ?_
  refine (kern_slide_l1 k_ do_ do_' do_'' do_''' do_'''' c2_ _).trans (bind_g fun y591 => ?_)
  refine block_same.trans ?_
  kernel_rfl
noncomputable def ce2 : CallE := withE ce1 82 (decA [pI, (.one (.fn 83 (.cons (.cell (.cons (.g (.int .i64)) .nil)) (.cons (.cell (.cons (.g (.int .i64)) (.cons (.g (.sl (.one (.int .i64)))) (.cons (.g (.int .i64)) (.cons (.g (.int .i64)) (.cons (.g (.int .i64)) (.cons (.g (.int .i64)) (.cons (.g (.int .i64)) (.cons (.g (.int .i64)) (.cons (.g (.int .i64)) (.cons (.g (.int .i64)) (.cons (.g (.int .i64)) (.cons (.g (.int .i64)) (.cons (.g (.sl (.one (.int .i8)))) (.cons (.g (.sl (.one (.int .i32)))) .nil))))))))))))))) (.cons (.cell (.cons (.g (.int .i64)) .nil)) (.cons (.cell (.cons (.g (.int .i64)) .nil)) (.cons (.ref 0 0) (.cons (.cell (.cons (.g (.int .i64)) (.cons (.g (.int .i64)) (.cons (.g (.int .i64)) (.cons (.g (.int .i64)) (.cons (.g (.int .i64)) (.cons (.g (.int .i64)) (.cons (.g (.sl (.one (.int .i8)))) .nil)))))))) .nil))))))))] [(.cons (.g (.int .i64)) .nil)]) .unit (fun y : Int => ()) (fun x y => [[di y]]) (fun x => kern_slide x.1.1 x.1.2.1.1.1 (x.1.2.1.2.1.1, x.1.2.1.2.1.2.1, x.1.2.1.2.1.2.2.1, x.1.2.1.2.1.2.2.2.1, x.1.2.1.2.1.2.2.2.2.1, x.1.2.1.2.1.2.2.2.2.2.1, x.1.2.1.2.1.2.2.2.2.2.2.1, x.1.2.1.2.1.2.2.2.2.2.2.2.1, x.1.2.1.2.1.2.2.2.2.2.2.2.2.1, x.1.2.1.2.1.2.2.2.2.2.2.2.2.2.1, x.1.2.1.2.1.2.2.2.2.2.2.2.2.2.2.1, x.1.2.1.2.1.2.2.2.2.2.2.2.2.2.2.2.1, x.1.2.1.2.1.2.2.2.2.2.2.2.2.2.2.2.2.1, x.1.2.1.2.1.2.2.2.2.2.2.2.2.2.2.2.2.2.1) x.1.2.1.2.2.1.1 x.1.2.1.2.2.2.1.1 (x.1.2.1.2.2.2.2.2.1.1, x.1.2.1.2.2.2.2.2.1.2.1, x.1.2.1.2.2.2.2.2.1.2.2.1, x.1.2.1.2.2.2.2.2.1.2.2.2.1, x.1.2.1.2.2.2.2.2.1.2.2.2.2.1, x.1.2.1.2.2.2.2.2.1.2.2.2.2.2.1, x.1.2.1.2.2.2.2.2.1.2.2.2.2.2.2.1) x.2.1.1)
theorem ce2_ok : EffOK E ce2 := conE eok cp49_ok ce1_ok fun α x k => Eq.mp (by kernel_rfl) (kern_slide_is x.1.1 x.1.2.1.1.1 (x.1.2.1.2.1.1, x.1.2.1.2.1.2.1, x.1.2.1.2.1.2.2.1, x.1.2.1.2.1.2.2.2.1, x.1.2.1.2.1.2.2.2.2.1, x.1.2.1.2.1.2.2.2.2.2.1, x.1.2.1.2.1.2.2.2.2.2.2.1, x.1.2.1.2.1.2.2.2.2.2.2.2.1, x.1.2.1.2.1.2.2.2.2.2.2.2.2.1, x.1.2.1.2.1.2.2.2.2.2.2.2.2.2.1, x.1.2.1.2.1.2.2.2.2.2.2.2.2.2.2.1, x.1.2.1.2.1.2.2.2.2.2.2.2.2.2.2.2.1, x.1.2.1.2.1.2.2.2.2.2.2.2.2.2.2.2.2.1, x.1.2.1.2.1.2.2.2.2.2.2.2.2.2.2.2.2.2.1) x.1.2.1.2.2.1.1 x.1.2.1.2.2.2.1.1 (x.1.2.1.2.2.2.2.2.1.1, x.1.2.1.2.2.2.2.2.1.2.1, x.1.2.1.2.2.2.2.2.1.2.2.1, x.1.2.1.2.2.2.2.2.1.2.2.2.1, x.1.2.1.2.2.2.2.2.1.2.2.2.2.1, x.1.2.1.2.2.2.2.2.1.2.2.2.2.2.1, x.1.2.1.2.2.2.2.2.1.2.2.2.2.2.2.1) x.2.1.1 k)
end
section
variable {α β : Type} (low : Int) (high : Int) (k : St → Option α)
noncomputable abbrev C51 := codeOf E.P 93
noncomputable abbrev P51 := @preK α E 93 cp49 ce2
theorem fixed_held_fz : P51 2 C51 ⟨[(0, ri low), (1, ri high)], [], [], 6⟩ k = k ⟨[(4, .one (.fn 94 [.cell [di low], .cell [di high]]))], [], [], 6⟩ := by kernel_rfl
/-- quilt/fixed.held -/
def fixed_held_q (K : ((Int × Unit) × (Int × Unit) × Unit) → β) : β := (K ((low, ()), (high, ()), ()))
def fixed_held : ((Int × Unit) × (Int × Unit) × Unit) := fixed_held_q low high (fun y => y)
theorem fixed_held_n (K : ((Int × Unit) × (Int × Unit) × Unit) → β) : fixed_held_q low high K = K (fixed_held low high) := rfl
theorem fixed_held_is : stepS E cp49 ce2 93 [ri low, ri high] = (fun y : ((Int × Unit) × (Int × Unit) × Unit) => some (.one (.fn 94 [.cell [di y.1.1], .cell [di y.2.1.1]]) : R)) (fixed_held low high) := by
  refine Eq.trans ?_ (fixed_held_n low high (fun y : ((Int × Unit) × (Int × Unit) × Unit) => some (.one (.fn 94 [.cell [di y.1.1], .cell [di y.2.1.1]]) : R)))
  refine (stepG_is (nt := 6) (regs := [(0, ri low), (1, ri high)])).trans ?_
  unfold fixed_held_q
  refine (pre2 (fixed_held_fz low high _)).trans ?_
  refine (ret_eq).trans ?_
  kernel_rfl
noncomputable def cp50 : CallP := withC cp49 93 [pI, pI] (.one (.one (.fn 94 (.cons (.cell (.cons (.g (.int .i64)) .nil)) (.cons (.cell (.cons (.g (.int .i64)) .nil)) .nil))))) (fun y : ((Int × Unit) × (Int × Unit) × Unit) => y) (fun x => some (fixed_held x.1 x.2.1))
theorem cp50_ok : PureOK E cp50 := conS eok cp49_ok ce2_ok fun x => Eq.mp (by kernel_rfl) (fixed_held_is x.1 x.2.1)
end
section
variable {α β : Type} (x_ : Int) (c1_ : Int) (c2_ : Int) (k : St → Option α)
noncomputable abbrev C52 := codeOf E.P 94
noncomputable abbrev P52 := @preK α E 94 cp50 ce2
theorem fixed_held_1_fz : P52 2 C52 ⟨[(0, ri x_), (1, .one (.cell [di c1_])), (2, .one (.cell [di c2_]))], [], [], 10⟩ k = k ⟨[(4, ri (min (max x_ c1_) c2_))], [], [], 10⟩ := by kernel_rfl
/-- quilt/fixed.held$1 -/
def fixed_held_1_q (K : Int → β) : β := (K (min (max x_ c1_) c2_))
def fixed_held_1 : Int := fixed_held_1_q x_ c1_ c2_ (fun y => y)
theorem fixed_held_1_n (K : Int → β) : fixed_held_1_q x_ c1_ c2_ K = K (fixed_held_1 x_ c1_ c2_) := rfl
theorem fixed_held_1_is : stepS E cp50 ce2 94 [ri x_, .one (.cell [di c1_]), .one (.cell [di c2_])] = (fun y : Int => some (ri y : R)) (fixed_held_1 x_ c1_ c2_) := by
  refine Eq.trans ?_ (fixed_held_1_n x_ c1_ c2_ (fun y : Int => some (ri y : R)))
  refine (stepG_is (nt := 10) (regs := [(0, ri x_), (1, .one (.cell [di c1_])), (2, .one (.cell [di c2_]))])).trans ?_
  unfold fixed_held_1_q
  refine (pre2 (fixed_held_1_fz x_ c1_ c2_ _)).trans ?_
  refine (ret_eq).trans ?_
  kernel_rfl
noncomputable def cp51 : CallP := withC cp50 94 [pI, (.one (.cell (.cons (.g (.int .i64)) .nil))), (.one (.cell (.cons (.g (.int .i64)) .nil)))] (.one pI) (fun y : Int => y) (fun x => some (fixed_held_1 x.1 x.2.1.1 x.2.2.1.1))
theorem cp51_ok : PureOK E cp51 := conS eok cp50_ok ce2_ok fun x => Eq.mp (by kernel_rfl) (fixed_held_1_is x.1 x.2.1.1 x.2.2.1.1)
end
noncomputable abbrev C53 := codeOf E.P 90
noncomputable abbrev P53 {α : Type} := @preK α E 90 cp51 ce2
def fixed_Clamp_r1_q {β : Type} (x_ : Int) (K : Int → β) : β := (K (fixed_held_1 x_ (((fixed_held (-128 : Int) (127 : Int)).1).1) (((fixed_held (-128 : Int) (127 : Int)).2.1).1)))
def fixed_Clamp_r1_p (x_ : Int) : Int := fixed_Clamp_r1_q x_ (fun y => y)
theorem fixed_Clamp_r1_n {β : Type} (x_ : Int) (K : Int → β) : fixed_Clamp_r1_q x_ K = K (fixed_Clamp_r1_p x_) := rfl
theorem fixed_Clamp_r1 {α : Type} (x_ : Int) (k : St → Option α) : P53 2 C53 ⟨[(0, ri x_)], [], [], 6⟩ k = k ⟨[(2, ri (fixed_Clamp_r1_p x_))], [], [], 6⟩ := Eq.trans (by kernel_rfl) (fixed_Clamp_r1_n x_ (fun y593 : Int => k ⟨[(2, ri y593)], [], [], 6⟩))
/-- quilt/fixed.Clamp -/
def fixed_Clamp_q {β : Type} (x_ : Int) (K : Int → β) : β := (K (fixed_Clamp_r1_p x_))
def fixed_Clamp (x_ : Int) : Int := fixed_Clamp_q x_ (fun y => y)
theorem fixed_Clamp_n {β : Type} (x_ : Int) (K : Int → β) : fixed_Clamp_q x_ K = K (fixed_Clamp x_) := rfl
theorem fixed_Clamp_is (x_ : Int) : stepS E cp51 ce2 90 [ri x_] = (fun y : Int => some (ri y : R)) (fixed_Clamp x_) := by
  refine Eq.trans ?_ (fixed_Clamp_n x_ (fun y : Int => some (ri y : R)))
  refine (stepG_is (nt := 6) (regs := [(0, ri x_)])).trans ?_
  unfold fixed_Clamp_q
  refine (pre2 (fixed_Clamp_r1 x_ _)).trans ?_
  refine (ret_eq).trans ?_
  kernel_rfl
noncomputable def cp52 : CallP := withC cp51 90 [pI] (.one pI) (fun y : Int => y) (fun x => some (fixed_Clamp x.1))
theorem cp52_ok : PureOK E cp52 := conS eok cp51_ok ce2_ok fun x => Eq.mp (by kernel_rfl) (fixed_Clamp_is x.1)
noncomputable abbrev C54 := codeOf E.P 92
noncomputable abbrev P54 {α : Type} := @preK α E 92 cp52 ce2
def fixed_Sat_r1_q {β : Type} (x_ : Int) (K : Int → β) : β := (K (fixed_held_1 x_ (((fixed_held (-2147483648 : Int) (2147483647 : Int)).1).1) (((fixed_held (-2147483648 : Int) (2147483647 : Int)).2.1).1)))
def fixed_Sat_r1_p (x_ : Int) : Int := fixed_Sat_r1_q x_ (fun y => y)
theorem fixed_Sat_r1_n {β : Type} (x_ : Int) (K : Int → β) : fixed_Sat_r1_q x_ K = K (fixed_Sat_r1_p x_) := rfl
theorem fixed_Sat_r1 {α : Type} (x_ : Int) (k : St → Option α) : P54 2 C54 ⟨[(0, ri x_)], [], [], 6⟩ k = k ⟨[(2, ri (fixed_Sat_r1_p x_))], [], [], 6⟩ := Eq.trans (by kernel_rfl) (fixed_Sat_r1_n x_ (fun y594 : Int => k ⟨[(2, ri y594)], [], [], 6⟩))
/-- quilt/fixed.Sat -/
def fixed_Sat_q {β : Type} (x_ : Int) (K : Int → β) : β := (K (fixed_Sat_r1_p x_))
def fixed_Sat (x_ : Int) : Int := fixed_Sat_q x_ (fun y => y)
theorem fixed_Sat_n {β : Type} (x_ : Int) (K : Int → β) : fixed_Sat_q x_ K = K (fixed_Sat x_) := rfl
theorem fixed_Sat_is (x_ : Int) : stepS E cp52 ce2 92 [ri x_] = (fun y : Int => some (ri y : R)) (fixed_Sat x_) := by
  refine Eq.trans ?_ (fixed_Sat_n x_ (fun y : Int => some (ri y : R)))
  refine (stepG_is (nt := 6) (regs := [(0, ri x_)])).trans ?_
  unfold fixed_Sat_q
  refine (pre2 (fixed_Sat_r1 x_ _)).trans ?_
  refine (ret_eq).trans ?_
  kernel_rfl
noncomputable def cp53 : CallP := withC cp52 92 [pI] (.one pI) (fun y : Int => y) (fun x => some (fixed_Sat x.1))
theorem cp53_ok : PureOK E cp53 := conS eok cp52_ok ce2_ok fun x => Eq.mp (by kernel_rfl) (fixed_Sat_is x.1)
def fixed_Div_lv0 (x_ : Int) (by_ : Int) : Option Int := none
noncomputable def cp54 : CallP := withC cp53 88 [(.one (.g (.int .i64))), (.one (.g (.int .i64)))] (.one (.one (.g (.int .i64)))) (fun y : Int => y) (fun x => fixed_Div_lv0 x.1 x.2.1)
theorem cp54_ok : PureOK E cp54 := withC_ok cp53_ok (stepS_ok eok cp53_ok ce2_ok) fun x y h => by cases h
section
variable {α : Type} (x_ : Int) (by_ : Int) (k : St → Option α)
noncomputable abbrev C56 := codeOf E.P 88
noncomputable abbrev P56 := @preK α E 88 cp54 ce2
abbrev S56_0 : St := ⟨[(0, ri x_), (1, ri (max by_ (1 : Int)))], [], [], 21⟩
theorem fixed_Div_lv1_f2 : P56 2 C56 ⟨[(0, ri x_), (1, ri by_)], [], [], 21⟩ k = k (S56_0 x_ by_) := by kernel_rfl
theorem fixed_Div_lv1_f1000003 : P56 1 C56.r.r.l (S56_0 x_ by_) k = k ⟨[(0, ri x_), (1, ri (max by_ (1 : Int))), (8, rb (decide (x_ < 0)))], [], [], 21⟩ := by kernel_rfl
theorem fixed_Div_lv1_r3 : P56 1 C56.r.r.l.r.t (S56_0 x_ by_) k = Option.bind (fixed_Div_lv0 (max (IntKind.wrap .i64 (0 - x_)) (0 : Int)) (max by_ (1 : Int))) fun y596 : Int => k ⟨[(4, ri (IntKind.wrap .i64 (0 - y596)))], [], [], 21⟩ := by kernel_rfl
def fixed_Div_lv1_r4_p : Option Int := (bif ((max by_ (1 : Int)) == 0) then none else (some (IntKind.wrap .i64 (Int.tdiv (IntKind.wrap .i64 (x_ + (IntKind.wrap .i64 (Int.tdiv (max by_ (1 : Int)) (2 : Int))))) (max by_ (1 : Int))))))
theorem fixed_Div_lv1_r4 : P56 1 C56.r.r.r (S56_0 x_ by_) k = Option.bind (fixed_Div_lv1_r4_p x_ by_) (fun y597 : Int => k ⟨[(4, ri y597)], [], [], 21⟩) := .trans (by kernel_rfl) (bif_b none_b some_b)
/-- quilt/fixed.Div -/
def fixed_Div_lv1 : Option Int := (bif (decide (x_ < 0)) then (Option.bind (fixed_Div_lv0 (max (IntKind.wrap .i64 (0 - x_)) (0 : Int)) (max by_ (1 : Int))) (fun y596 : Int => (some (IntKind.wrap .i64 (0 - y596))))) else (Option.bind (fixed_Div_lv1_r4_p x_ by_) (fun y597 : Int => (some y597))))
theorem fixed_Div_lv1_is : stepS E cp54 ce2 88 [ri x_, ri by_] = Option.bind (fixed_Div_lv1 x_ by_) (fun y : Int => some (ri y : R)) := by
  refine .trans ?_ (bif_b (bind_b fun y596 => some_b) (bind_b fun y597 => some_b))
  refine (stepG_is (nt := 21) (regs := [(0, ri x_), (1, ri by_)])).trans ?_
  refine (pre2 (fixed_Div_lv1_f2 x_ by_ _)).trans ?_
  refine .trans seq_push ?_
  refine (pre1 (fixed_Div_lv1_f1000003 x_ by_ _)).trans ?_
  refine (cond_e (b := (decide (x_ < 0))) (st' := (S56_0 x_ by_)) ).trans (bif_g ?_ ?_)
  · refine (pre1 (fixed_Div_lv1_r3 x_ by_ _)).trans (bind_g fun y596 => ?_)
    refine (ret_eq).trans ?_
    refine seqC_ret.trans ?_
    kernel_rfl
  · refine (skip_eq).trans ?_
    refine (seqC_normal (st' := (S56_0 x_ by_))).trans ?_
    refine (pre1 (fixed_Div_lv1_r4 x_ by_ _)).trans (bind_g fun y597 => ?_)
    refine (ret_eq).trans ?_
    kernel_rfl
noncomputable def cp55 : CallP := withC cp54 88 [pI, pI] (.one pI) (fun y : Int => y) (fun x => fixed_Div_lv1 x.1 x.2.1)
theorem cp55_ok : PureOK E cp55 := conS eok cp54_ok ce2_ok fun x => Eq.mp (by kernel_rfl) (fixed_Div_lv1_is x.1 x.2.1)
end
section
variable {α : Type} (x_ : Int) (by_ : Int) (k : St → Option α)
noncomputable abbrev C57 := codeOf E.P 88
noncomputable abbrev P57 := @preK α E 88 cp55 ce2
abbrev S57_0 : St := ⟨[(0, ri x_), (1, ri (max by_ (1 : Int)))], [], [], 21⟩
theorem fixed_Div_f2 : P57 2 C57 ⟨[(0, ri x_), (1, ri by_)], [], [], 21⟩ k = k (S57_0 x_ by_) := by kernel_rfl
theorem fixed_Div_f1000003 : P57 1 C57.r.r.l (S57_0 x_ by_) k = k ⟨[(0, ri x_), (1, ri (max by_ (1 : Int))), (8, rb (decide (x_ < 0)))], [], [], 21⟩ := by kernel_rfl
theorem fixed_Div_r3 : P57 1 C57.r.r.l.r.t (S57_0 x_ by_) k = Option.bind (fixed_Div_lv1 (max (IntKind.wrap .i64 (0 - x_)) (0 : Int)) (max by_ (1 : Int))) fun y599 : Int => k ⟨[(4, ri (IntKind.wrap .i64 (0 - y599)))], [], [], 21⟩ := by kernel_rfl
def fixed_Div_r4_p : Option Int := (bif ((max by_ (1 : Int)) == 0) then none else (some (IntKind.wrap .i64 (Int.tdiv (IntKind.wrap .i64 (x_ + (IntKind.wrap .i64 (Int.tdiv (max by_ (1 : Int)) (2 : Int))))) (max by_ (1 : Int))))))
theorem fixed_Div_r4 : P57 1 C57.r.r.r (S57_0 x_ by_) k = Option.bind (fixed_Div_r4_p x_ by_) (fun y600 : Int => k ⟨[(4, ri y600)], [], [], 21⟩) := .trans (by kernel_rfl) (bif_b none_b some_b)
/-- quilt/fixed.Div -/
def fixed_Div : Option Int := (bif (decide (x_ < 0)) then (Option.bind (fixed_Div_lv1 (max (IntKind.wrap .i64 (0 - x_)) (0 : Int)) (max by_ (1 : Int))) (fun y599 : Int => (some (IntKind.wrap .i64 (0 - y599))))) else (Option.bind (fixed_Div_r4_p x_ by_) (fun y600 : Int => (some y600))))
theorem fixed_Div_is : stepS E cp55 ce2 88 [ri x_, ri by_] = Option.bind (fixed_Div x_ by_) (fun y : Int => some (ri y : R)) := by
  refine .trans ?_ (bif_b (bind_b fun y599 => some_b) (bind_b fun y600 => some_b))
  refine (stepG_is (nt := 21) (regs := [(0, ri x_), (1, ri by_)])).trans ?_
  refine (pre2 (fixed_Div_f2 x_ by_ _)).trans ?_
  refine .trans seq_push ?_
  refine (pre1 (fixed_Div_f1000003 x_ by_ _)).trans ?_
  refine (cond_e (b := (decide (x_ < 0))) (st' := (S57_0 x_ by_)) ).trans (bif_g ?_ ?_)
  · refine (pre1 (fixed_Div_r3 x_ by_ _)).trans (bind_g fun y599 => ?_)
    refine (ret_eq).trans ?_
    refine seqC_ret.trans ?_
    kernel_rfl
  · refine (skip_eq).trans ?_
    refine (seqC_normal (st' := (S57_0 x_ by_))).trans ?_
    refine (pre1 (fixed_Div_r4 x_ by_ _)).trans (bind_g fun y600 => ?_)
    refine (ret_eq).trans ?_
    kernel_rfl
noncomputable def cp56 : CallP := withC cp55 88 [pI, pI] (.one pI) (fun y : Int => y) (fun x => fixed_Div x.1 x.2.1)
theorem cp56_ok : PureOK E cp56 := conS eok cp55_ok ce2_ok fun x => Eq.mp (by kernel_rfl) (fixed_Div_is x.1 x.2.1)
end
section
variable {α : Type} (x_ : Int) (shift : Int) (k : St → Option α)
noncomputable abbrev C58 := codeOf E.P 91
noncomputable abbrev P58 := @preK α E 91 cp56 ce2
def fixed_Shift_r1_p : Option Int := (bif (decide ((0:Int) ≤ (fixed_held_1 shift (((fixed_held (0 : Int) (31 : Int)).1).1) (((fixed_held (0 : Int) (31 : Int)).2.1).1)))) then (Option.bind (fixed_Div x_ (IntKind.wrap .i64 ((1 : Int) * 2 ^ min (Int.toNat (fixed_held_1 shift (((fixed_held (0 : Int) (31 : Int)).1).1) (((fixed_held (0 : Int) (31 : Int)).2.1).1))) (IntKind.bits .i64)))) (fun y601 : Int => (some y601))) else none)
theorem fixed_Shift_r1 : P58 2 C58 ⟨[(0, ri x_), (1, ri shift)], [], [], 11⟩ k = Option.bind (fixed_Shift_r1_p x_ shift) (fun y602 : Int => k ⟨[(4, ri y602)], [], [], 11⟩) := .trans (by kernel_rfl) (bif_b (bind_b fun y601 => some_b) none_b)
/-- quilt/fixed.Shift -/
def fixed_Shift : Option Int := (Option.bind (fixed_Shift_r1_p x_ shift) (fun y602 : Int => (some y602)))
theorem fixed_Shift_is : stepS E cp56 ce2 91 [ri x_, ri shift] = Option.bind (fixed_Shift x_ shift) (fun y : Int => some (ri y : R)) := by
  refine .trans ?_ (bind_b fun y602 => some_b)
  refine (stepG_is (nt := 11) (regs := [(0, ri x_), (1, ri shift)])).trans ?_
  refine (pre2 (fixed_Shift_r1 x_ shift _)).trans (bind_g fun y602 => ?_)
  refine (ret_eq).trans ?_
  kernel_rfl
noncomputable def cp57 : CallP := withC cp56 91 [pI, pI] (.one pI) (fun y : Int => y) (fun x => fixed_Shift x.1 x.2.1)
theorem cp57_ok : PureOK E cp57 := conS eok cp56_ok ce2_ok fun x => Eq.mp (by kernel_rfl) (fixed_Shift_is x.1 x.2.1)
end
section
variable {α : Type} (acc : Int) (mul : Int) (shift : Int) (zero : Int) (k : St → Option α)
noncomputable abbrev C59 := codeOf E.P 84
noncomputable abbrev P59 := @preK α E 84 cp57 ce2
theorem fixed_Scale_r1 : P59 2 C59 ⟨[(0, ri acc), (1, ri mul), (2, ri shift), (3, ri zero)], [], [], 21⟩ k = Option.bind (fixed_Shift (IntKind.wrap .i64 ((fixed_Sat acc) * (fixed_held_1 mul (((fixed_held (1 : Int) (32767 : Int)).1).1) (((fixed_held (1 : Int) (32767 : Int)).2.1).1)))) shift) fun y603 : Int => k ⟨[(8, ri (fixed_Clamp (IntKind.wrap .i64 ((fixed_Clamp zero) + y603))))], [], [], 21⟩ := by kernel_rfl
/-- quilt/fixed.Scale -/
def fixed_Scale : Option Int := (Option.bind (fixed_Shift (IntKind.wrap .i64 ((fixed_Sat acc) * (fixed_held_1 mul (((fixed_held (1 : Int) (32767 : Int)).1).1) (((fixed_held (1 : Int) (32767 : Int)).2.1).1)))) shift) (fun y603 : Int => (some (fixed_Clamp (IntKind.wrap .i64 ((fixed_Clamp zero) + y603))))))
theorem fixed_Scale_is : stepS E cp57 ce2 84 [ri acc, ri mul, ri shift, ri zero] = Option.bind (fixed_Scale acc mul shift zero) (fun y : Int => some (ri y : R)) := by
  refine .trans ?_ (bind_b fun y603 => some_b)
  refine (stepG_is (nt := 21) (regs := [(0, ri acc), (1, ri mul), (2, ri shift), (3, ri zero)])).trans ?_
  refine (pre2 (fixed_Scale_r1 acc mul shift zero _)).trans (bind_g fun y603 => ?_)
  refine (ret_eq).trans ?_
  kernel_rfl
noncomputable def cp58 : CallP := withC cp57 84 [pI, pI, pI, pI] (.one pI) (fun y : Int => y) (fun x => fixed_Scale x.1 x.2.1 x.2.2.1 x.2.2.2.1)
theorem cp58_ok : PureOK E cp58 := conS eok cp57_ok ce2_ok fun x => Eq.mp (by kernel_rfl) (fixed_Scale_is x.1 x.2.1 x.2.2.1 x.2.2.2.1)
end
section
variable {α : Type} (y_ : Int) (x_ : Int) (c_ : Int) (c3_ : Node) (c4_ : pane) (y592 : Int) (k : St → Option α)
noncomputable abbrev C60 := codeOf E.P 81
noncomputable abbrev P60 := @preK α E 81 cp58 ce2
def kern_conv_1_r1_p : Option Unit := (bif (decide ((0 : Int) ≤ c_)) then (bif (decide (c_ < (c3_.2.2.2.2.2.2.2.2.2.2.2.2.2.length : Int))) then (some ()) else none) else none)
abbrev S60_0 : St := ⟨[(3, rC tsNode c3_), (4, rC tspane c4_), (5, .one (.cell [di y_])), (6, .one (.cell [di x_])), (7, .one (.cell [di c_])), (9, rF 0)], [[di (IntKind.wrap .i64 (gt c3_.2.2.2.2.2.2.2.2.2.2.2.2.2 c_ (0 : Int)))]], [], 28⟩
theorem kern_conv_1_r1 : P60 2 C60 ⟨[(0, ri y_), (1, ri x_), (2, ri c_), (3, rC tsNode c3_), (4, rC tspane c4_)], [], [], 28⟩ k = Option.bind (kern_conv_1_r1_p c_ c3_) (fun y544 : Unit => k (S60_0 y_ x_ c_ c3_ c4_)) := .trans (by kernel_rfl) (bif_b (bif_b some_b none_b) none_b)
abbrev S60_1 : St := ⟨[(3, rC tsNode c3_), (9, rF 0)], [[di y592]], [], 28⟩
theorem kern_conv_1_r2 : P60 1 C60.r.r (S60_0 y_ x_ c_ c3_ c4_) k = Option.bind (kern_slide c3_.2.2.1 y_ c3_ x_ c_ c4_ (IntKind.wrap .i64 (gt c3_.2.2.2.2.2.2.2.2.2.2.2.2.2 c_ (0 : Int)))) fun y592 : Int => k (S60_1 c3_ y592) := by kernel_rfl
theorem kern_conv_1_r3 : P60 1 C60.r.r.r (S60_1 c3_ y592) k = Option.bind (fixed_Scale y592 c3_.2.2.2.2.2.2.1 c3_.2.2.2.2.2.2.2.1 c3_.2.2.2.2.2.2.2.2.1) fun y604 : Int => k ⟨[(8, ri y604)], [[]], [], 28⟩ := by kernel_rfl
/-- quilt/kern.conv$1 -/
def kern_conv_1 : Option Int := (Option.bind (kern_conv_1_r1_p c_ c3_) (fun y544 : Unit => (Option.bind (kern_slide c3_.2.2.1 y_ c3_ x_ c_ c4_ (IntKind.wrap .i64 (gt c3_.2.2.2.2.2.2.2.2.2.2.2.2.2 c_ (0 : Int)))) (fun y592 : Int => (Option.bind (fixed_Scale y592 c3_.2.2.2.2.2.2.1 c3_.2.2.2.2.2.2.2.1 c3_.2.2.2.2.2.2.2.2.1) (fun y604 : Int => (some y604)))))))
theorem kern_conv_1_is : stepS E cp58 ce2 81 [ri y_, ri x_, ri c_, rC tsNode c3_, rC tspane c4_] = Option.bind (kern_conv_1 y_ x_ c_ c3_ c4_) (fun y : Int => some (ri y : R)) := by
  refine .trans ?_ (bind_b fun y544 => (bind_b fun y592 => (bind_b fun y604 => some_b)))
  refine (stepG_is (nt := 28) (regs := [(0, ri y_), (1, ri x_), (2, ri c_), (3, rC tsNode c3_), (4, rC tspane c4_)])).trans ?_
  refine (pre2 (kern_conv_1_r1 y_ x_ c_ c3_ c4_ _)).trans (bind_g fun y544 => ?_)
  refine (pre1 (kern_conv_1_r2 y_ x_ c_ c3_ c4_ _)).trans (bind_g fun y592 => ?_)
  refine (pre1 (kern_conv_1_r3 c3_ y592 _)).trans (bind_g fun y604 => ?_)
  refine (ret_eq).trans ?_
  kernel_rfl
noncomputable def cp59 : CallP := withC cp58 81 [pI, pI, pI, (.one (.cell (.cons (.g (.int .i64)) (.cons (.g (.sl (.one (.int .i64)))) (.cons (.g (.int .i64)) (.cons (.g (.int .i64)) (.cons (.g (.int .i64)) (.cons (.g (.int .i64)) (.cons (.g (.int .i64)) (.cons (.g (.int .i64)) (.cons (.g (.int .i64)) (.cons (.g (.int .i64)) (.cons (.g (.int .i64)) (.cons (.g (.int .i64)) (.cons (.g (.sl (.one (.int .i8)))) (.cons (.g (.sl (.one (.int .i32)))) .nil)))))))))))))))), (.one (.cell (.cons (.g (.int .i64)) (.cons (.g (.int .i64)) (.cons (.g (.int .i64)) (.cons (.g (.int .i64)) (.cons (.g (.int .i64)) (.cons (.g (.int .i64)) (.cons (.g (.sl (.one (.int .i8)))) .nil)))))))))] (.one pI) (fun y : Int => y) (fun x => kern_conv_1 x.1 x.2.1 x.2.2.1 (x.2.2.2.1.1, x.2.2.2.1.2.1, x.2.2.2.1.2.2.1, x.2.2.2.1.2.2.2.1, x.2.2.2.1.2.2.2.2.1, x.2.2.2.1.2.2.2.2.2.1, x.2.2.2.1.2.2.2.2.2.2.1, x.2.2.2.1.2.2.2.2.2.2.2.1, x.2.2.2.1.2.2.2.2.2.2.2.2.1, x.2.2.2.1.2.2.2.2.2.2.2.2.2.1, x.2.2.2.1.2.2.2.2.2.2.2.2.2.2.1, x.2.2.2.1.2.2.2.2.2.2.2.2.2.2.2.1, x.2.2.2.1.2.2.2.2.2.2.2.2.2.2.2.2.1, x.2.2.2.1.2.2.2.2.2.2.2.2.2.2.2.2.2.1) (x.2.2.2.2.1.1, x.2.2.2.2.1.2.1, x.2.2.2.2.1.2.2.1, x.2.2.2.2.1.2.2.2.1, x.2.2.2.2.1.2.2.2.2.1, x.2.2.2.2.1.2.2.2.2.2.1, x.2.2.2.2.1.2.2.2.2.2.2.1))
theorem cp59_ok : PureOK E cp59 := conS eok cp58_ok ce2_ok fun x => Eq.mp (by kernel_rfl) (kern_conv_1_is x.1 x.2.1 x.2.2.1 (x.2.2.2.1.1, x.2.2.2.1.2.1, x.2.2.2.1.2.2.1, x.2.2.2.1.2.2.2.1, x.2.2.2.1.2.2.2.2.1, x.2.2.2.1.2.2.2.2.2.1, x.2.2.2.1.2.2.2.2.2.2.1, x.2.2.2.1.2.2.2.2.2.2.2.1, x.2.2.2.1.2.2.2.2.2.2.2.2.1, x.2.2.2.1.2.2.2.2.2.2.2.2.2.1, x.2.2.2.1.2.2.2.2.2.2.2.2.2.2.1, x.2.2.2.1.2.2.2.2.2.2.2.2.2.2.2.1, x.2.2.2.1.2.2.2.2.2.2.2.2.2.2.2.2.1, x.2.2.2.1.2.2.2.2.2.2.2.2.2.2.2.2.2.1) (x.2.2.2.2.1.1, x.2.2.2.2.1.2.1, x.2.2.2.2.1.2.2.1, x.2.2.2.2.1.2.2.2.1, x.2.2.2.2.1.2.2.2.2.1, x.2.2.2.2.1.2.2.2.2.2.1, x.2.2.2.2.1.2.2.2.2.2.2.1))
end
section
variable {α : Type} (a0 : Int) (a1 : Int) (c_ : Int) (c3_ : Node) (c4_ : pane) (y608 : Int) (s625 : (Int × Int)) (y629 : Int) (y630 : (Int × Int)) (k : St → Option α) (q : Kont α)
noncomputable abbrev C61 := codeOf E.P 85
noncomputable abbrev P61 := @preK α E 85 cp59 ce2
noncomputable abbrev R61 := @runCode α E 85 cp59 ce2
def kern_full_1_r1_p : Option Int := (bif (decide ((0 : Int) ≤ c_)) then (bif (decide (c_ < (c3_.2.2.2.2.2.2.2.2.2.2.2.2.2.length : Int))) then (Option.bind (shape_Size (c4_.1, c4_.2.1, c4_.2.2.1)) (fun y607 : Int => (some y607))) else none) else none)
abbrev S61_0 : St := ⟨[(2, ri c_), (3, rC tsNode c3_), (4, rC tspane c4_), (9, ri (IntKind.wrap .i64 (gt c3_.2.2.2.2.2.2.2.2.2.2.2.2.2 c_ (0 : Int)))), (10, ri y608)], [], [], 60⟩
theorem kern_full_1_r1 : P61 2 C61 ⟨[(0, ri a0), (1, ri a1), (2, ri c_), (3, rC tsNode c3_), (4, rC tspane c4_)], [], [], 60⟩ k = Option.bind (kern_full_1_r1_p c_ c3_ c4_) (fun y608 : Int => k (S61_0 c_ c3_ c4_ y608)) := .trans (by kernel_rfl) (bif_b (bif_b (bind_b fun y607 => some_b) none_b) none_b)
abbrev S61_1 : St := ⟨[(2, ri c_), (3, rC tsNode c3_), (4, rC tspane c4_), (9, ri (IntKind.wrap .i64 (gt c3_.2.2.2.2.2.2.2.2.2.2.2.2.2 c_ (0 : Int)))), (10, ri y608), (25, rl (.one (.int .i8)) c4_.2.2.2.2.2.2), (26, ri (c4_.2.2.2.2.2.2.length : Int)), (27, ri 0)], [], [], 60⟩
theorem kern_full_1_f3 : P61 1 C61.r.r.l (S61_0 c_ c3_ c4_ y608) k = k (S61_1 c_ c3_ c4_ y608) := by kernel_rfl
abbrev S61_2 : St := ⟨[(2, ri c_), (3, rC tsNode c3_), (4, rC tspane c4_), (9, ri s625.1), (10, ri y608), (25, rl (.one (.int .i8)) c4_.2.2.2.2.2.2), (26, ri (c4_.2.2.2.2.2.2.length : Int)), (27, ri s625.2)], [], [], 60⟩
theorem kern_full_1_fz : P61 1 C61.r.r.l.r.b.b (S61_2 c_ c3_ c4_ y608 s625) k = k ⟨[(2, ri c_), (3, rC tsNode c3_), (4, rC tspane c4_), (9, ri s625.1), (10, ri y608), (25, rl (.one (.int .i8)) c4_.2.2.2.2.2.2), (26, ri (c4_.2.2.2.2.2.2.length : Int)), (27, ri s625.2), (28, rb (decide (s625.2 < (c4_.2.2.2.2.2.2.length : Int))))], [], [], 60⟩ := by kernel_rfl
def kern_full_1_r4_p : Option Unit := (bif (decide ((0 : Int) ≤ s625.2)) then (bif (decide (s625.2 < (c4_.2.2.2.2.2.2.length : Int))) then (some ()) else none) else none)
abbrev S61_3 : St := ⟨[(2, ri c_), (3, rC tsNode c3_), (4, rC tspane c4_), (9, ri s625.1), (10, ri y608), (11, ri s625.2), (12, rk .i8 (gt c4_.2.2.2.2.2.2 s625.2 (0 : Int))), (25, rl (.one (.int .i8)) c4_.2.2.2.2.2.2), (26, ri (c4_.2.2.2.2.2.2.length : Int)), (27, ri s625.2)], [], [], 60⟩
theorem kern_full_1_r4 : P61 1 C61.r.r.l.r.b.b.r.r.l.b (S61_2 c_ c3_ c4_ y608 s625) k = Option.bind (kern_full_1_r4_p c4_ s625) (fun y628 : Unit => k (S61_3 c_ c3_ c4_ y608 s625)) := .trans (by kernel_rfl) (bif_b (bif_b some_b none_b) none_b)
def kern_full_1_r5_p : Option Int := (bif (decide ((0 : Int) ≤ (IntKind.wrap .i64 ((IntKind.wrap .i64 (c_ * y608)) + s625.2)))) then (bif (decide ((IntKind.wrap .i64 ((IntKind.wrap .i64 (c_ * y608)) + s625.2)) < (c3_.2.2.2.2.2.2.2.2.2.2.2.2.1.length : Int))) then (some (IntKind.wrap .i64 (s625.1 + (IntKind.wrap .i64 ((IntKind.wrap .i64 ((IntKind.wrap .i64 (gt c4_.2.2.2.2.2.2 s625.2 (0 : Int))) - c4_.2.2.2.1)) * (IntKind.wrap .i64 (gt c3_.2.2.2.2.2.2.2.2.2.2.2.2.1 (IntKind.wrap .i64 ((IntKind.wrap .i64 (c_ * y608)) + s625.2)) (0 : Int)))))))) else none) else none)
abbrev S61_4 : St := ⟨[(2, ri c_), (3, rC tsNode c3_), (4, rC tspane c4_), (9, ri y629), (10, ri y608), (25, rl (.one (.int .i8)) c4_.2.2.2.2.2.2), (26, ri (c4_.2.2.2.2.2.2.length : Int)), (27, ri s625.2)], [], [], 60⟩
theorem kern_full_1_r5 : R61 C61.r.r.l.r.b.b.r.r.l.b.r (S61_3 c_ c3_ c4_ y608 s625) q = Option.bind (kern_full_1_r5_p c_ c3_ c4_ y608 s625) (fun y629 : Int => q .normal (S61_4 c_ c3_ c4_ y608 s625 y629)) := .trans (by kernel_rfl) (bif_b (bif_b some_b none_b) none_b)
theorem kern_full_1_r6 : R61 C61.r.r.l.r.b.b.r.r.r (S61_4 c_ c3_ c4_ y608 s625 y629) q = q .normal ⟨[(2, ri c_), (3, rC tsNode c3_), (4, rC tspane c4_), (9, ri y629), (10, ri y608), (25, rl (.one (.int .i8)) c4_.2.2.2.2.2.2), (26, ri (c4_.2.2.2.2.2.2.length : Int)), (27, ri (IntKind.wrap .i64 (s625.2 + 1)))], [], [], 60⟩ := by kernel_rfl
def kern_full_1_l3_p : Option ((Int × Int) ⊕ (Int × Int)) := (bif (decide (s625.2 < (c4_.2.2.2.2.2.2.length : Int))) then (Option.bind (kern_full_1_r4_p c4_ s625) (fun y628 : Unit => (Option.bind (kern_full_1_r5_p c_ c3_ c4_ y608 s625) (fun y629 : Int => (some (Sum.inl (y629, (IntKind.wrap .i64 (s625.2 + 1))))))))) else (some (Sum.inr s625)))
abbrev S61_5 : St := ⟨[(2, ri c_), (3, rC tsNode c3_), (4, rC tspane c4_), (9, ri y630.1), (10, ri y608), (25, rl (.one (.int .i8)) c4_.2.2.2.2.2.2), (26, ri (c4_.2.2.2.2.2.2.length : Int)), (27, ri y630.2)], [], [], 60⟩
theorem kern_full_1_l3_b : R61 C61.r.r.l.r.b.b (S61_2 c_ c3_ c4_ y608 s625) (loopKont 0 q) = Option.bind (kern_full_1_l3_p c_ c3_ c4_ y608 s625) (either (fun y : (Int × Int) => q .normal ⟨[(2, ri c_), (3, rC tsNode c3_), (4, rC tspane c4_), (9, ri y.1), (10, ri y608), (25, rl (.one (.int .i8)) c4_.2.2.2.2.2.2), (26, ri (c4_.2.2.2.2.2.2.length : Int)), (27, ri y.2)], [], [], 60⟩) (fun y630 : (Int × Int) => q (.exit 0) (S61_5 c_ c3_ c4_ y608 y630))) := by
  refine .trans ?_ (bif_b (bind_b fun y628 => (bind_b fun y629 => e2_0)) e2_1)
  refine (pre1 (kern_full_1_fz c_ c3_ c4_ y608 s625 _)).trans ?_
  refine .trans seq_push ?_
  refine (cond_e (b := (decide (s625.2 < (c4_.2.2.2.2.2.2.length : Int)))) (st' := (S61_2 c_ c3_ c4_ y608 s625)) ).trans (bif_g ?_ ?_)
  · refine (skip_eq).trans ?_
    refine (seqC_normal (st' := (S61_2 c_ c3_ c4_ y608 s625))).trans ?_
    refine .trans seq_push ?_
    refine (block_push (id := 1)).trans ?_
    refine (pre1 (kern_full_1_r4 c_ c3_ c4_ y608 s625 _)).trans (bind_g fun y628 => ?_)
    refine (kern_full_1_r5 c_ c3_ c4_ y608 s625 _).trans (bind_g fun y629 => ?_)
    refine block_normal.trans ?_
    refine (seqC_normal (st' := (S61_4 c_ c3_ c4_ y608 s625 y629))).trans ?_
    refine (kern_full_1_r6 c_ c3_ c4_ y608 s625 y629 _).trans ?_
    kernel_rfl
  · refine ((exit_eq (j := 0))).trans ?_
    refine seqC_exit.trans ?_
    kernel_rfl
theorem kern_full_1_l3 : R61 C61.r.r.l.r.b (S61_1 c_ c3_ c4_ y608) q = Option.bind (iterN (kern_full_1_l3_p c_ c3_ c4_ y608) LL ((IntKind.wrap .i64 (gt c3_.2.2.2.2.2.2.2.2.2.2.2.2.2 c_ (0 : Int))), (0 : Int))) (fun y630 : (Int × Int) => q (.exit 0) (S61_5 c_ c3_ c4_ y608 y630)) :=
  Eq.trans (by kernel_rfl) (loop_iter1 (S := fun s625 : (Int × Int) => (S61_2 c_ c3_ c4_ y608 s625)) (Y1 := fun y630 : (Int × Int) => ((.exit 0), (S61_5 c_ c3_ c4_ y608 y630))) (fun s q => kern_full_1_l3_b c_ c3_ c4_ y608 s q) (fun z => rfl) LL ((IntKind.wrap .i64 (gt c3_.2.2.2.2.2.2.2.2.2.2.2.2.2 c_ (0 : Int))), (0 : Int)))
theorem kern_full_1_r7 : P61 1 C61.r.r.r ⟨[(3, rC tsNode c3_), (9, ri y630.1)], [], [], 60⟩ k = Option.bind (fixed_Scale y630.1 c3_.2.2.2.2.2.2.1 c3_.2.2.2.2.2.2.2.1 c3_.2.2.2.2.2.2.2.2.1) fun y631 : Int => k ⟨[(8, ri y631)], [], [], 60⟩ := by kernel_rfl
/-- quilt/kern.full$1 -/
def kern_full_1 (a0 : Int) (a1 : Int) (c_ : Int) (c3_ : Node) (c4_ : pane) : Option Int := (Option.bind (kern_full_1_r1_p c_ c3_ c4_) (fun y608 : Int => (Option.bind (iterN (kern_full_1_l3_p c_ c3_ c4_ y608) LL ((IntKind.wrap .i64 (gt c3_.2.2.2.2.2.2.2.2.2.2.2.2.2 c_ (0 : Int))), (0 : Int))) (fun y630 : (Int × Int) => (Option.bind (fixed_Scale y630.1 c3_.2.2.2.2.2.2.1 c3_.2.2.2.2.2.2.2.1 c3_.2.2.2.2.2.2.2.2.1) (fun y631 : Int => (some y631)))))))
theorem kern_full_1_is : stepS E cp59 ce2 85 [ri a0, ri a1, ri c_, rC tsNode c3_, rC tspane c4_] = Option.bind (kern_full_1 a0 a1 c_ c3_ c4_) (fun y : Int => some (ri y : R)) := by
  refine .trans ?_ (bind_b fun y608 => (bind_b fun y630 => (bind_b fun y631 => some_b)))
  refine (stepG_is (nt := 60) (regs := [(0, ri a0), (1, ri a1), (2, ri c_), (3, rC tsNode c3_), (4, rC tspane c4_)])).trans ?_
  refine (pre2 (kern_full_1_r1 a0 a1 c_ c3_ c4_ _)).trans (bind_g fun y608 => ?_)
  refine .trans seq_push ?_
  refine (pre1 (kern_full_1_f3 c_ c3_ c4_ y608 _)).trans ?_
  refine (block_push (id := 0)).trans ?_
  refine (kern_full_1_l3 c_ c3_ c4_ y608 _).trans (bind_g fun y630 => ?_)
  refine block_same.trans ?_
  refine (seqC_normal (st' := ⟨[(3, rC tsNode c3_), (9, ri y630.1)], [], [], 60⟩)).trans ?_
  refine (pre1 (kern_full_1_r7 c3_ y630 _)).trans (bind_g fun y631 => ?_)
  refine (ret_eq).trans ?_
  kernel_rfl
noncomputable def cp60 : CallP := withC cp59 85 [pI, pI, pI, (.one (.cell (.cons (.g (.int .i64)) (.cons (.g (.sl (.one (.int .i64)))) (.cons (.g (.int .i64)) (.cons (.g (.int .i64)) (.cons (.g (.int .i64)) (.cons (.g (.int .i64)) (.cons (.g (.int .i64)) (.cons (.g (.int .i64)) (.cons (.g (.int .i64)) (.cons (.g (.int .i64)) (.cons (.g (.int .i64)) (.cons (.g (.int .i64)) (.cons (.g (.sl (.one (.int .i8)))) (.cons (.g (.sl (.one (.int .i32)))) .nil)))))))))))))))), (.one (.cell (.cons (.g (.int .i64)) (.cons (.g (.int .i64)) (.cons (.g (.int .i64)) (.cons (.g (.int .i64)) (.cons (.g (.int .i64)) (.cons (.g (.int .i64)) (.cons (.g (.sl (.one (.int .i8)))) .nil)))))))))] (.one pI) (fun y : Int => y) (fun x => kern_full_1 x.1 x.2.1 x.2.2.1 (x.2.2.2.1.1, x.2.2.2.1.2.1, x.2.2.2.1.2.2.1, x.2.2.2.1.2.2.2.1, x.2.2.2.1.2.2.2.2.1, x.2.2.2.1.2.2.2.2.2.1, x.2.2.2.1.2.2.2.2.2.2.1, x.2.2.2.1.2.2.2.2.2.2.2.1, x.2.2.2.1.2.2.2.2.2.2.2.2.1, x.2.2.2.1.2.2.2.2.2.2.2.2.2.1, x.2.2.2.1.2.2.2.2.2.2.2.2.2.2.1, x.2.2.2.1.2.2.2.2.2.2.2.2.2.2.2.1, x.2.2.2.1.2.2.2.2.2.2.2.2.2.2.2.2.1, x.2.2.2.1.2.2.2.2.2.2.2.2.2.2.2.2.2.1) (x.2.2.2.2.1.1, x.2.2.2.2.1.2.1, x.2.2.2.2.1.2.2.1, x.2.2.2.2.1.2.2.2.1, x.2.2.2.2.1.2.2.2.2.1, x.2.2.2.2.1.2.2.2.2.2.1, x.2.2.2.2.1.2.2.2.2.2.2.1))
theorem cp60_ok : PureOK E cp60 := conS eok cp59_ok ce2_ok fun x => Eq.mp (by kernel_rfl) (kern_full_1_is x.1 x.2.1 x.2.2.1 (x.2.2.2.1.1, x.2.2.2.1.2.1, x.2.2.2.1.2.2.1, x.2.2.2.1.2.2.2.1, x.2.2.2.1.2.2.2.2.1, x.2.2.2.1.2.2.2.2.2.1, x.2.2.2.1.2.2.2.2.2.2.1, x.2.2.2.1.2.2.2.2.2.2.2.1, x.2.2.2.1.2.2.2.2.2.2.2.2.1, x.2.2.2.1.2.2.2.2.2.2.2.2.2.1, x.2.2.2.1.2.2.2.2.2.2.2.2.2.2.1, x.2.2.2.1.2.2.2.2.2.2.2.2.2.2.2.1, x.2.2.2.1.2.2.2.2.2.2.2.2.2.2.2.2.1, x.2.2.2.1.2.2.2.2.2.2.2.2.2.2.2.2.2.1) (x.2.2.2.2.1.1, x.2.2.2.2.1.2.1, x.2.2.2.2.1.2.2.1, x.2.2.2.2.1.2.2.2.1, x.2.2.2.2.1.2.2.2.2.1, x.2.2.2.2.1.2.2.2.2.2.1, x.2.2.2.2.1.2.2.2.2.2.2.1))
end
section
variable {α : Type} (i_ : Int) (j_ : Int) (c2_ : pane) (c3_ : Int) (c4_ : Node) (c5_ : Int) (c6_ : Int) (c9_ : Int) (c10_ : Int) (y636 : Int) (k : St → Option α) (q : Kont α)
noncomputable abbrev C62 := codeOf E.P 87
noncomputable abbrev P62 := @preK α E 87 cp60 ce2
noncomputable abbrev R62 := @runCode α E 87 cp60 ce2
abbrev S62_0 : St := ⟨[(7, rF 0), (8, rF 1), (11, ri y636)], [[di c9_], [di c10_]], [], 33⟩
theorem kern_pool_1_1_r0 : P62 1 C62 ⟨[(0, ri i_), (1, ri j_), (2, rC tspane c2_), (3, .one (.cell [di c3_])), (4, rC tsNode c4_), (5, .one (.cell [di c5_])), (6, .one (.cell [di c6_])), (7, rF 0), (8, rF 1)], [[di c9_], [di c10_]], [], 33⟩ k = Option.bind (kern_pane_at c2_ (IntKind.wrap .i64 ((IntKind.wrap .i64 (c3_ * c4_.2.2.2.1)) + i_)) (IntKind.wrap .i64 ((IntKind.wrap .i64 (c5_ * c4_.2.2.2.1)) + j_)) c6_) fun y636 : Int => k (S62_0 c9_ c10_ y636) := by kernel_rfl
theorem kern_pool_1_1_r1 : R62 C62.r (S62_0 c9_ c10_ y636) q = q .normal ⟨[], [[di (max c9_ y636)], [di (IntKind.wrap .i64 (c10_ + y636))]], [], 33⟩ := by kernel_rfl
/-- quilt/kern.pool$1$1 -/
def kern_pool_1_1 : Option (Int × Int) := (Option.bind (kern_pane_at c2_ (IntKind.wrap .i64 ((IntKind.wrap .i64 (c3_ * c4_.2.2.2.1)) + i_)) (IntKind.wrap .i64 ((IntKind.wrap .i64 (c5_ * c4_.2.2.2.1)) + j_)) c6_) (fun y636 : Int => (some ((max c9_ y636), (IntKind.wrap .i64 (c10_ + y636))))))
theorem kern_pool_1_1_is (k : R → Heap → Option α) : callBody E cp60 ce2 α 87 [ri i_, ri j_, rC tspane c2_, .one (.cell [di c3_]), rC tsNode c4_, .one (.cell [di c5_]), .one (.cell [di c6_]), rF 0, rF 1] [[di c9_], [di c10_]] k = Option.bind (kern_pool_1_1 i_ j_ c2_ c3_ c4_ c5_ c6_ c9_ c10_) (fun y : (Int × Int) => k (.tup []) [[di y.1], [di y.2]]) := by
  refine .trans ?_ (bind_b fun y636 => some_b)
  refine (body_is (nt := 33) (regs := [(0, ri i_), (1, ri j_), (2, rC tspane c2_), (3, .one (.cell [di c3_])), (4, rC tsNode c4_), (5, .one (.cell [di c5_])), (6, .one (.cell [di c6_])), (7, rF 0), (8, rF 1)]) (by kernel_rfl) (by kernel_rfl)).trans ?_
  refine (pre1 (kern_pool_1_1_r0 i_ j_ c2_ c3_ c4_ c5_ c6_ c9_ c10_ _)).trans (bind_g fun y636 => ?_)
  refine (kern_pool_1_1_r1 c9_ c10_ y636 _).trans ?_
  kernel_rfl
noncomputable def ce3 : CallE := withE ce2 87 (decA [pI, pI, (.one (.cell (.cons (.g (.int .i64)) (.cons (.g (.int .i64)) (.cons (.g (.int .i64)) (.cons (.g (.int .i64)) (.cons (.g (.int .i64)) (.cons (.g (.int .i64)) (.cons (.g (.sl (.one (.int .i8)))) .nil))))))))), (.one (.cell (.cons (.g (.int .i64)) .nil))), (.one (.cell (.cons (.g (.int .i64)) (.cons (.g (.sl (.one (.int .i64)))) (.cons (.g (.int .i64)) (.cons (.g (.int .i64)) (.cons (.g (.int .i64)) (.cons (.g (.int .i64)) (.cons (.g (.int .i64)) (.cons (.g (.int .i64)) (.cons (.g (.int .i64)) (.cons (.g (.int .i64)) (.cons (.g (.int .i64)) (.cons (.g (.int .i64)) (.cons (.g (.sl (.one (.int .i8)))) (.cons (.g (.sl (.one (.int .i32)))) .nil)))))))))))))))), (.one (.cell (.cons (.g (.int .i64)) .nil))), (.one (.cell (.cons (.g (.int .i64)) .nil))), (.one (.ref 0 0)), (.one (.ref 1 0))] [(.cons (.g (.int .i64)) .nil), (.cons (.g (.int .i64)) .nil)]) .unit (fun y : (Int × Int) => ()) (fun x y => [[di y.1], [di y.2]]) (fun x => kern_pool_1_1 x.1.1 x.1.2.1 (x.1.2.2.1.1, x.1.2.2.1.2.1, x.1.2.2.1.2.2.1, x.1.2.2.1.2.2.2.1, x.1.2.2.1.2.2.2.2.1, x.1.2.2.1.2.2.2.2.2.1, x.1.2.2.1.2.2.2.2.2.2.1) x.1.2.2.2.1.1 (x.1.2.2.2.2.1.1, x.1.2.2.2.2.1.2.1, x.1.2.2.2.2.1.2.2.1, x.1.2.2.2.2.1.2.2.2.1, x.1.2.2.2.2.1.2.2.2.2.1, x.1.2.2.2.2.1.2.2.2.2.2.1, x.1.2.2.2.2.1.2.2.2.2.2.2.1, x.1.2.2.2.2.1.2.2.2.2.2.2.2.1, x.1.2.2.2.2.1.2.2.2.2.2.2.2.2.1, x.1.2.2.2.2.1.2.2.2.2.2.2.2.2.2.1, x.1.2.2.2.2.1.2.2.2.2.2.2.2.2.2.2.1, x.1.2.2.2.2.1.2.2.2.2.2.2.2.2.2.2.2.1, x.1.2.2.2.2.1.2.2.2.2.2.2.2.2.2.2.2.2.1, x.1.2.2.2.2.1.2.2.2.2.2.2.2.2.2.2.2.2.2.1) x.1.2.2.2.2.2.1.1 x.1.2.2.2.2.2.2.1.1 x.2.1.1 x.2.2.1.1)
theorem ce3_ok : EffOK E ce3 := conE eok cp60_ok ce2_ok fun α x k => Eq.mp (by kernel_rfl) (kern_pool_1_1_is x.1.1 x.1.2.1 (x.1.2.2.1.1, x.1.2.2.1.2.1, x.1.2.2.1.2.2.1, x.1.2.2.1.2.2.2.1, x.1.2.2.1.2.2.2.2.1, x.1.2.2.1.2.2.2.2.2.1, x.1.2.2.1.2.2.2.2.2.2.1) x.1.2.2.2.1.1 (x.1.2.2.2.2.1.1, x.1.2.2.2.2.1.2.1, x.1.2.2.2.2.1.2.2.1, x.1.2.2.2.2.1.2.2.2.1, x.1.2.2.2.2.1.2.2.2.2.1, x.1.2.2.2.2.1.2.2.2.2.2.1, x.1.2.2.2.2.1.2.2.2.2.2.2.1, x.1.2.2.2.2.1.2.2.2.2.2.2.2.1, x.1.2.2.2.2.1.2.2.2.2.2.2.2.2.1, x.1.2.2.2.2.1.2.2.2.2.2.2.2.2.2.1, x.1.2.2.2.2.1.2.2.2.2.2.2.2.2.2.2.1, x.1.2.2.2.2.1.2.2.2.2.2.2.2.2.2.2.2.1, x.1.2.2.2.2.1.2.2.2.2.2.2.2.2.2.2.2.2.1, x.1.2.2.2.2.1.2.2.2.2.2.2.2.2.2.2.2.2.2.1) x.1.2.2.2.2.2.1.1 x.1.2.2.2.2.2.2.1.1 x.2.1.1 x.2.2.1.1 k)
end
section
variable {α : Type} (k_ : Int) (do_ : pane) (do_' : Int) (do_'' : Node) (do_''' : Int) (do_'''' : Int) (c2_ : Int) (c3_ : Int) (s650 : (Int × Int × Int)) (s661 : (Int × Int × Int)) (y663 : (Int × Int)) (y664 : (Int × Int × Int)) (k : St → Option α) (q : Kont α)
noncomputable abbrev C63 := codeOf E.P 82
noncomputable abbrev P63 := @preK α E 82 cp60 ce3
noncomputable abbrev R63 := @runCode α E 82 cp60 ce3
abbrev S63_0 : St := ⟨[(0, ri k_), (1, .one (.fn 87 [.cell (tspane.leaves do_), .cell [di do_'], .cell (tsNode.leaves do_''), .cell [di do_'''], .cell [di do_''''], .ref 0 0, .ref 1 0])), (6, ri k_), (7, ri 0)], [[di c2_], [di c3_]], [], 20⟩
theorem kern_slide_s2_f1 : P63 1 C63 ⟨[(0, ri k_), (1, .one (.fn 87 [.cell (tspane.leaves do_), .cell [di do_'], .cell (tsNode.leaves do_''), .cell [di do_'''], .cell [di do_''''], .ref 0 0, .ref 1 0]))], [[di c2_], [di c3_]], [], 20⟩ k = k (S63_0 k_ do_ do_' do_'' do_''' do_'''' c2_ c3_) := by kernel_rfl
abbrev S63_1 : St := ⟨[(0, ri k_), (1, .one (.fn 87 [.cell (tspane.leaves do_), .cell [di do_'], .cell (tsNode.leaves do_''), .cell [di do_'''], .cell [di do_''''], .ref 0 0, .ref 1 0])), (6, ri k_), (7, ri s650.1)], [[di s650.2.1], [di s650.2.2]], [], 20⟩
theorem kern_slide_s2_fz : P63 1 C63.r.b.b (S63_1 k_ do_ do_' do_'' do_''' do_'''' s650) k = k ⟨[(0, ri k_), (1, .one (.fn 87 [.cell (tspane.leaves do_), .cell [di do_'], .cell (tsNode.leaves do_''), .cell [di do_'''], .cell [di do_''''], .ref 0 0, .ref 1 0])), (6, ri k_), (7, ri s650.1), (8, rb (decide (s650.1 < k_)))], [[di s650.2.1], [di s650.2.2]], [], 20⟩ := by kernel_rfl
abbrev S63_2 : St := ⟨[(0, ri k_), (1, .one (.fn 87 [.cell (tspane.leaves do_), .cell [di do_'], .cell (tsNode.leaves do_''), .cell [di do_'''], .cell [di do_''''], .ref 0 0, .ref 1 0])), (4, ri s650.1), (6, ri k_), (7, ri s650.1), (10, ri k_), (11, ri 0)], [[di s650.2.1], [di s650.2.2]], [], 20⟩
theorem kern_slide_s2_f4 : P63 2 C63.r.b.b.r.r.l.b (S63_1 k_ do_ do_' do_'' do_''' do_'''' s650) k = k (S63_2 k_ do_ do_' do_'' do_''' do_'''' s650) := by kernel_rfl
abbrev S63_3 : St := ⟨[(0, ri k_), (1, .one (.fn 87 [.cell (tspane.leaves do_), .cell [di do_'], .cell (tsNode.leaves do_''), .cell [di do_'''], .cell [di do_''''], .ref 0 0, .ref 1 0])), (4, ri s650.1), (6, ri k_), (7, ri s650.1), (10, ri k_), (11, ri s661.1)], [[di s661.2.1], [di s661.2.2]], [], 20⟩
theorem kern_slide_s2_fzx1 : P63 1 C63.r.b.b.r.r.l.b.r.r.b.b (S63_3 k_ do_ do_' do_'' do_''' do_'''' s650 s661) k = k ⟨[(0, ri k_), (1, .one (.fn 87 [.cell (tspane.leaves do_), .cell [di do_'], .cell (tsNode.leaves do_''), .cell [di do_'''], .cell [di do_''''], .ref 0 0, .ref 1 0])), (4, ri s650.1), (6, ri k_), (7, ri s650.1), (10, ri k_), (11, ri s661.1), (12, rb (decide (s661.1 < k_)))], [[di s661.2.1], [di s661.2.2]], [], 20⟩ := by kernel_rfl
abbrev S63_4 : St := ⟨[(0, ri k_), (1, .one (.fn 87 [.cell (tspane.leaves do_), .cell [di do_'], .cell (tsNode.leaves do_''), .cell [di do_'''], .cell [di do_''''], .ref 0 0, .ref 1 0])), (4, ri s650.1), (5, ri s661.1), (6, ri k_), (7, ri s650.1), (10, ri k_), (11, ri s661.1)], [[di s661.2.1], [di s661.2.2]], [], 20⟩
theorem kern_slide_s2_f6 : P63 1 C63.r.b.b.r.r.l.b.r.r.b.b.r.r.l.b (S63_3 k_ do_ do_' do_'' do_''' do_'''' s650 s661) k = k (S63_4 k_ do_ do_' do_'' do_''' do_'''' s650 s661) := by kernel_rfl
abbrev S63_5 : St := ⟨[(0, ri k_), (1, .one (.fn 87 [.cell (tspane.leaves do_), .cell [di do_'], .cell (tsNode.leaves do_''), .cell [di do_'''], .cell [di do_''''], .ref 0 0, .ref 1 0])), (4, ri s650.1), (6, ri k_), (7, ri s650.1), (10, ri k_), (11, ri s661.1)], [[di y663.1], [di y663.2]], [], 20⟩
theorem kern_slide_s2_r6 : R63 C63.r.b.b.r.r.l.b.r.r.b.b.r.r.l.b.r (S63_4 k_ do_ do_' do_'' do_''' do_'''' s650 s661) q = Option.bind (kern_pool_1_1 s650.1 s661.1 do_ do_' do_'' do_''' do_'''' s661.2.1 s661.2.2) fun y663 : (Int × Int) => q .normal (S63_5 k_ do_ do_' do_'' do_''' do_'''' s650 s661 y663) := by kernel_rfl
theorem kern_slide_s2_r7 : R63 C63.r.b.b.r.r.l.b.r.r.b.b.r.r.r (S63_5 k_ do_ do_' do_'' do_''' do_'''' s650 s661 y663) q = q .normal ⟨[(0, ri k_), (1, .one (.fn 87 [.cell (tspane.leaves do_), .cell [di do_'], .cell (tsNode.leaves do_''), .cell [di do_'''], .cell [di do_''''], .ref 0 0, .ref 1 0])), (4, ri s650.1), (6, ri k_), (7, ri s650.1), (10, ri k_), (11, ri (IntKind.wrap .i64 (s661.1 + 1)))], [[di y663.1], [di y663.2]], [], 20⟩ := by kernel_rfl
def kern_slide_s2_l4_p : Option ((Int × Int × Int) ⊕ (Int × Int × Int)) := (bif (decide (s661.1 < k_)) then (Option.bind (kern_pool_1_1 s650.1 s661.1 do_ do_' do_'' do_''' do_'''' s661.2.1 s661.2.2) (fun y663 : (Int × Int) => (some (Sum.inl ((IntKind.wrap .i64 (s661.1 + 1)), y663.1, y663.2))))) else (some (Sum.inr s661)))
abbrev S63_6 : St := ⟨[(0, ri k_), (1, .one (.fn 87 [.cell (tspane.leaves do_), .cell [di do_'], .cell (tsNode.leaves do_''), .cell [di do_'''], .cell [di do_''''], .ref 0 0, .ref 1 0])), (4, ri s650.1), (6, ri k_), (7, ri s650.1), (10, ri k_), (11, ri y664.1)], [[di y664.2.1], [di y664.2.2]], [], 20⟩
theorem kern_slide_s2_l4_b : R63 C63.r.b.b.r.r.l.b.r.r.b.b (S63_3 k_ do_ do_' do_'' do_''' do_'''' s650 s661) (loopKont 2 q) = Option.bind (kern_slide_s2_l4_p k_ do_ do_' do_'' do_''' do_'''' s650 s661) (either (fun y : (Int × Int × Int) => q .normal ⟨[(0, ri k_), (1, .one (.fn 87 [.cell (tspane.leaves do_), .cell [di do_'], .cell (tsNode.leaves do_''), .cell [di do_'''], .cell [di do_''''], .ref 0 0, .ref 1 0])), (4, ri s650.1), (6, ri k_), (7, ri s650.1), (10, ri k_), (11, ri y.1)], [[di y.2.1], [di y.2.2]], [], 20⟩) (fun y664 : (Int × Int × Int) => q (.exit 2) (S63_6 k_ do_ do_' do_'' do_''' do_'''' s650 y664))) := by
  refine .trans ?_ (bif_b (bind_b fun y663 => e2_0) e2_1)
  refine (pre1 (kern_slide_s2_fzx1 k_ do_ do_' do_'' do_''' do_'''' s650 s661 _)).trans ?_
  refine .trans seq_push ?_
  refine (cond_e (b := (decide (s661.1 < k_))) (st' := (S63_3 k_ do_ do_' do_'' do_''' do_'''' s650 s661)) ).trans (bif_g ?_ ?_)
  · refine (skip_eq).trans ?_
    refine (seqC_normal (st' := (S63_3 k_ do_ do_' do_'' do_''' do_'''' s650 s661))).trans ?_
    refine .trans seq_push ?_
    refine (block_push (id := 3)).trans ?_
    refine (pre1 (kern_slide_s2_f6 k_ do_ do_' do_'' do_''' do_'''' s650 s661 _)).trans ?_
    refine (kern_slide_s2_r6 k_ do_ do_' do_'' do_''' do_'''' s650 s661 _).trans (bind_g fun y663 => ?_)
    refine block_normal.trans ?_
    refine (seqC_normal (st' := (S63_5 k_ do_ do_' do_'' do_''' do_'''' s650 s661 y663))).trans ?_
    refine (kern_slide_s2_r7 k_ do_ do_' do_'' do_''' do_'''' s650 s661 y663 _).trans ?_
    kernel_rfl
  · refine ((exit_eq (j := 2))).trans ?_
    refine seqC_exit.trans ?_
    kernel_rfl
theorem kern_slide_s2_l4 : R63 C63.r.b.b.r.r.l.b.r.r.b (S63_2 k_ do_ do_' do_'' do_''' do_'''' s650) q = Option.bind (iterN (kern_slide_s2_l4_p k_ do_ do_' do_'' do_''' do_'''' s650) LL ((0 : Int), s650.2.1, s650.2.2)) (fun y664 : (Int × Int × Int) => q (.exit 2) (S63_6 k_ do_ do_' do_'' do_''' do_'''' s650 y664)) :=
  Eq.trans (by kernel_rfl) (loop_iter1 (S := fun s661 : (Int × Int × Int) => (S63_3 k_ do_ do_' do_'' do_''' do_'''' s650 s661)) (Y1 := fun y664 : (Int × Int × Int) => ((.exit 2), (S63_6 k_ do_ do_' do_'' do_''' do_'''' s650 y664))) (fun s q => kern_slide_s2_l4_b k_ do_ do_' do_'' do_''' do_'''' s650 s q) (fun z => rfl) LL ((0 : Int), s650.2.1, s650.2.2))
abbrev S63_7 : St := ⟨[(0, ri k_), (1, .one (.fn 87 [.cell (tspane.leaves do_), .cell [di do_'], .cell (tsNode.leaves do_''), .cell [di do_'''], .cell [di do_''''], .ref 0 0, .ref 1 0])), (6, ri k_), (7, ri s650.1)], [[di y664.2.1], [di y664.2.2]], [], 20⟩
theorem kern_slide_s2_r8 : R63 C63.r.b.b.r.r.r (S63_7 k_ do_ do_' do_'' do_''' do_'''' s650 y664) q = q .normal ⟨[(0, ri k_), (1, .one (.fn 87 [.cell (tspane.leaves do_), .cell [di do_'], .cell (tsNode.leaves do_''), .cell [di do_'''], .cell [di do_''''], .ref 0 0, .ref 1 0])), (6, ri k_), (7, ri (IntKind.wrap .i64 (s650.1 + 1)))], [[di y664.2.1], [di y664.2.2]], [], 20⟩ := by kernel_rfl
def kern_slide_s2_l1_p : Option ((Int × Int × Int) ⊕ (Int × Int × Int)) := (bif (decide (s650.1 < k_)) then (Option.bind (iterN (kern_slide_s2_l4_p k_ do_ do_' do_'' do_''' do_'''' s650) LL ((0 : Int), s650.2.1, s650.2.2)) (fun y664 : (Int × Int × Int) => (some (Sum.inl ((IntKind.wrap .i64 (s650.1 + 1)), y664.2.1, y664.2.2))))) else (some (Sum.inr s650)))
abbrev S63_8 (y665 : (Int × Int × Int)) : St := ⟨[(0, ri k_), (1, .one (.fn 87 [.cell (tspane.leaves do_), .cell [di do_'], .cell (tsNode.leaves do_''), .cell [di do_'''], .cell [di do_''''], .ref 0 0, .ref 1 0])), (6, ri k_), (7, ri y665.1)], [[di y665.2.1], [di y665.2.2]], [], 20⟩
theorem kern_slide_s2_l1_b : R63 C63.r.b.b (S63_1 k_ do_ do_' do_'' do_''' do_'''' s650) (loopKont 2 q) = Option.bind (kern_slide_s2_l1_p k_ do_ do_' do_'' do_''' do_'''' s650) (either (fun y : (Int × Int × Int) => q .normal ⟨[(0, ri k_), (1, .one (.fn 87 [.cell (tspane.leaves do_), .cell [di do_'], .cell (tsNode.leaves do_''), .cell [di do_'''], .cell [di do_''''], .ref 0 0, .ref 1 0])), (6, ri k_), (7, ri y.1)], [[di y.2.1], [di y.2.2]], [], 20⟩) (fun y665 : (Int × Int × Int) => q (.exit 0) (S63_8 k_ do_ do_' do_'' do_''' do_'''' y665))) := by
  refine .trans ?_ (bif_b (bind_b fun y664 => e2_0) e2_1)
  refine (pre1 (kern_slide_s2_fz k_ do_ do_' do_'' do_''' do_'''' s650 _)).trans ?_
  refine .trans seq_push ?_
  refine (cond_e (b := (decide (s650.1 < k_))) (st' := (S63_1 k_ do_ do_' do_'' do_''' do_'''' s650)) ).trans (bif_g ?_ ?_)
  · refine (skip_eq).trans ?_
    refine (seqC_normal (st' := (S63_1 k_ do_ do_' do_'' do_''' do_'''' s650))).trans ?_
    refine .trans seq_push ?_
    refine (block_push (id := 1)).trans ?_
    refine (pre2 (kern_slide_s2_f4 k_ do_ do_' do_'' do_''' do_'''' s650 _)).trans ?_
    refine (block_push (id := 2)).trans ?_
    refine (kern_slide_s2_l4 k_ do_ do_' do_'' do_''' do_'''' s650 _).trans (bind_g fun y664 => ?_)
    refine block_same.trans ?_
    refine block_normal.trans ?_
    refine (seqC_normal (st' := (S63_7 k_ do_ do_' do_'' do_''' do_'''' s650 y664))).trans ?_
    refine (kern_slide_s2_r8 k_ do_ do_' do_'' do_''' do_'''' s650 y664 _).trans ?_
    kernel_rfl
  · refine ((exit_eq (j := 0))).trans ?_
    refine seqC_exit.trans ?_
    kernel_rfl
theorem kern_slide_s2_l1 : R63 C63.r.b (S63_0 k_ do_ do_' do_'' do_''' do_'''' c2_ c3_) q = Option.bind (iterN (kern_slide_s2_l1_p k_ do_ do_' do_'' do_''' do_'''') LL ((0 : Int), c2_, c3_)) (fun y665 : (Int × Int × Int) => q (.exit 0) (S63_8 k_ do_ do_' do_'' do_''' do_'''' y665)) :=
  Eq.trans (by kernel_rfl) (loop_iter1 (S := fun s650 : (Int × Int × Int) => (S63_1 k_ do_ do_' do_'' do_''' do_'''' s650)) (Y1 := fun y665 : (Int × Int × Int) => ((.exit 0), (S63_8 k_ do_ do_' do_'' do_''' do_'''' y665))) (fun s q => kern_slide_s2_l1_b k_ do_ do_' do_'' do_''' do_'''' s q) (fun z => rfl) LL ((0 : Int), c2_, c3_))
/-- quilt/kern.slide -/
def kern_slide_s2 : Option (Int × Int) := (Option.bind (iterN (kern_slide_s2_l1_p k_ do_ do_' do_'' do_''' do_'''') LL ((0 : Int), c2_, c3_)) (fun y665 : (Int × Int × Int) => (some y665.2)))
theorem kern_slide_s2_is (k : R → Heap → Option α) : callBody E cp60 ce3 α 82 [ri k_, .one (.fn 87 [.cell (tspane.leaves do_), .cell [di do_'], .cell (tsNode.leaves do_''), .cell [di do_'''], .cell [di do_''''], .ref 0 0, .ref 1 0])] [[di c2_], [di c3_]] k = Option.bind (kern_slide_s2 k_ do_ do_' do_'' do_''' do_'''' c2_ c3_) (fun y : (Int × Int) => k (.tup []) [[di y.1], [di y.2]]) := by
  refine .trans ?_ (bind_b fun y665 => some_b)
  refine (body_is (nt := 20) (regs := [(0, ri k_), (1, .one (.fn 87 [.cell (tspane.leaves do_), .cell [di do_'], .cell (tsNode.leaves do_''), .cell [di do_'''], .cell [di do_''''], .ref 0 0, .ref 1 0]))]) (by kernel_rfl) (by kernel_rfl)).trans ?_
  refine (pre1 (kern_slide_s2_f1 k_ do_ do_' do_'' do_''' do_'''' c2_ c3_ _)).trans ?_
  refine (block_push (id := 0)).trans ?_
  refine (kern_slide_s2_l1 k_ do_ do_' do_'' do_''' do_'''' c2_ c3_ _).trans (bind_g fun y665 => ?_)
  refine block_same.trans ?_
  kernel_rfl
noncomputable def ce4 : CallE := withE ce3 82 (decA [pI, (.one (.fn 87 (.cons (.cell (.cons (.g (.int .i64)) (.cons (.g (.int .i64)) (.cons (.g (.int .i64)) (.cons (.g (.int .i64)) (.cons (.g (.int .i64)) (.cons (.g (.int .i64)) (.cons (.g (.sl (.one (.int .i8)))) .nil)))))))) (.cons (.cell (.cons (.g (.int .i64)) .nil)) (.cons (.cell (.cons (.g (.int .i64)) (.cons (.g (.sl (.one (.int .i64)))) (.cons (.g (.int .i64)) (.cons (.g (.int .i64)) (.cons (.g (.int .i64)) (.cons (.g (.int .i64)) (.cons (.g (.int .i64)) (.cons (.g (.int .i64)) (.cons (.g (.int .i64)) (.cons (.g (.int .i64)) (.cons (.g (.int .i64)) (.cons (.g (.int .i64)) (.cons (.g (.sl (.one (.int .i8)))) (.cons (.g (.sl (.one (.int .i32)))) .nil))))))))))))))) (.cons (.cell (.cons (.g (.int .i64)) .nil)) (.cons (.cell (.cons (.g (.int .i64)) .nil)) (.cons (.ref 0 0) (.cons (.ref 1 0) .nil)))))))))] [(.cons (.g (.int .i64)) .nil), (.cons (.g (.int .i64)) .nil)]) .unit (fun y : (Int × Int) => ()) (fun x y => [[di y.1], [di y.2]]) (fun x => kern_slide_s2 x.1.1 (x.1.2.1.1.1, x.1.2.1.1.2.1, x.1.2.1.1.2.2.1, x.1.2.1.1.2.2.2.1, x.1.2.1.1.2.2.2.2.1, x.1.2.1.1.2.2.2.2.2.1, x.1.2.1.1.2.2.2.2.2.2.1) x.1.2.1.2.1.1 (x.1.2.1.2.2.1.1, x.1.2.1.2.2.1.2.1, x.1.2.1.2.2.1.2.2.1, x.1.2.1.2.2.1.2.2.2.1, x.1.2.1.2.2.1.2.2.2.2.1, x.1.2.1.2.2.1.2.2.2.2.2.1, x.1.2.1.2.2.1.2.2.2.2.2.2.1, x.1.2.1.2.2.1.2.2.2.2.2.2.2.1, x.1.2.1.2.2.1.2.2.2.2.2.2.2.2.1, x.1.2.1.2.2.1.2.2.2.2.2.2.2.2.2.1, x.1.2.1.2.2.1.2.2.2.2.2.2.2.2.2.2.1, x.1.2.1.2.2.1.2.2.2.2.2.2.2.2.2.2.2.1, x.1.2.1.2.2.1.2.2.2.2.2.2.2.2.2.2.2.2.1, x.1.2.1.2.2.1.2.2.2.2.2.2.2.2.2.2.2.2.2.1) x.1.2.1.2.2.2.1.1 x.1.2.1.2.2.2.2.1.1 x.2.1.1 x.2.2.1.1)
theorem ce4_ok : EffOK E ce4 := conE eok cp60_ok ce3_ok fun α x k => Eq.mp (by kernel_rfl) (kern_slide_s2_is x.1.1 (x.1.2.1.1.1, x.1.2.1.1.2.1, x.1.2.1.1.2.2.1, x.1.2.1.1.2.2.2.1, x.1.2.1.1.2.2.2.2.1, x.1.2.1.1.2.2.2.2.2.1, x.1.2.1.1.2.2.2.2.2.2.1) x.1.2.1.2.1.1 (x.1.2.1.2.2.1.1, x.1.2.1.2.2.1.2.1, x.1.2.1.2.2.1.2.2.1, x.1.2.1.2.2.1.2.2.2.1, x.1.2.1.2.2.1.2.2.2.2.1, x.1.2.1.2.2.1.2.2.2.2.2.1, x.1.2.1.2.2.1.2.2.2.2.2.2.1, x.1.2.1.2.2.1.2.2.2.2.2.2.2.1, x.1.2.1.2.2.1.2.2.2.2.2.2.2.2.1, x.1.2.1.2.2.1.2.2.2.2.2.2.2.2.2.1, x.1.2.1.2.2.1.2.2.2.2.2.2.2.2.2.2.1, x.1.2.1.2.2.1.2.2.2.2.2.2.2.2.2.2.2.1, x.1.2.1.2.2.1.2.2.2.2.2.2.2.2.2.2.2.2.1, x.1.2.1.2.2.1.2.2.2.2.2.2.2.2.2.2.2.2.2.1) x.1.2.1.2.2.2.1.1 x.1.2.1.2.2.2.2.1.1 x.2.1.1 x.2.2.1.1 k)
end
section
variable {α : Type} (y_ : Int) (x_ : Int) (c_ : Int) (c3_ : Node) (c4_ : pane) (y666 : (Int × Int)) (k : St → Option α)
noncomputable abbrev C64 := codeOf E.P 86
noncomputable abbrev P64 := @preK α E 86 cp60 ce4
abbrev S64_0 : St := ⟨[(3, rC tsNode c3_), (4, rC tspane c4_), (9, rF 0), (10, rF 1)], [[di y666.1], [di y666.2]], [], 40⟩
theorem kern_pool_1_r2 : P64 3 C64 ⟨[(0, ri y_), (1, ri x_), (2, ri c_), (3, rC tsNode c3_), (4, rC tspane c4_)], [], [], 40⟩ k = Option.bind (kern_slide_s2 c3_.2.2.1 c4_ y_ c3_ x_ c_ (-512 : Int) (0 : Int)) fun y666 : (Int × Int) => k (S64_0 c3_ c4_ y666) := by kernel_rfl
theorem kern_pool_1_f1000004 : P64 1 C64.r.r.r.l (S64_0 c3_ c4_ y666) k = k ⟨[(3, rC tsNode c3_), (4, rC tspane c4_), (9, rF 0), (10, rF 1), (17, rb (c3_.1 == 4))], [[di y666.1], [di y666.2]], [], 40⟩ := by kernel_rfl
theorem kern_pool_1_fz : P64 1 C64.r.r.r.l.r.t (S64_0 c3_ c4_ y666) k = k ⟨[(8, ri (IntKind.wrap .i64 (y666.1 + c4_.2.2.2.1)))], [[], []], [], 40⟩ := by kernel_rfl
abbrev S64_1 : St := ⟨[(3, rC tsNode c3_), (4, rC tspane c4_), (10, rF 1)], [[di y666.1], [di y666.2]], [], 40⟩
theorem kern_pool_1_r5 : P64 1 C64.r.r.r.r (S64_1 c3_ c4_ y666) k = Option.bind (fixed_Div (IntKind.wrap .i64 (y666.2 + (IntKind.wrap .i64 ((IntKind.wrap .i64 (c3_.2.2.1 * c3_.2.2.1)) * c4_.2.2.2.1)))) (IntKind.wrap .i64 (c3_.2.2.1 * c3_.2.2.1))) fun y667 : Int => k ⟨[(8, ri y667)], [[di y666.1], []], [], 40⟩ := by kernel_rfl
/-- quilt/kern.pool$1 -/
def kern_pool_1 : Option Int := (Option.bind (kern_slide_s2 c3_.2.2.1 c4_ y_ c3_ x_ c_ (-512 : Int) (0 : Int)) (fun y666 : (Int × Int) => (bif (c3_.1 == 4) then (some (IntKind.wrap .i64 (y666.1 + c4_.2.2.2.1))) else (Option.bind (fixed_Div (IntKind.wrap .i64 (y666.2 + (IntKind.wrap .i64 ((IntKind.wrap .i64 (c3_.2.2.1 * c3_.2.2.1)) * c4_.2.2.2.1)))) (IntKind.wrap .i64 (c3_.2.2.1 * c3_.2.2.1))) (fun y667 : Int => (some y667))))))
theorem kern_pool_1_is : stepS E cp60 ce4 86 [ri y_, ri x_, ri c_, rC tsNode c3_, rC tspane c4_] = Option.bind (kern_pool_1 y_ x_ c_ c3_ c4_) (fun y : Int => some (ri y : R)) := by
  refine .trans ?_ (bind_b fun y666 => (bif_b some_b (bind_b fun y667 => some_b)))
  refine (stepG_is (nt := 40) (regs := [(0, ri y_), (1, ri x_), (2, ri c_), (3, rC tsNode c3_), (4, rC tspane c4_)])).trans ?_
  refine (pre3 (kern_pool_1_r2 y_ x_ c_ c3_ c4_ _)).trans (bind_g fun y666 => ?_)
  refine .trans seq_push ?_
  refine (pre1 (kern_pool_1_f1000004 c3_ c4_ y666 _)).trans ?_
  refine (cond_e (b := (c3_.1 == 4)) (st' := (S64_0 c3_ c4_ y666)) ).trans (bif_g ?_ ?_)
  · refine (pre1 (kern_pool_1_fz c3_ c4_ y666 _)).trans ?_
    refine (ret_eq).trans ?_
    refine seqC_ret.trans ?_
    kernel_rfl
  · refine (skip_eq).trans ?_
    refine (seqC_normal (st' := (S64_1 c3_ c4_ y666))).trans ?_
    refine (pre1 (kern_pool_1_r5 c3_ c4_ y666 _)).trans (bind_g fun y667 => ?_)
    refine (ret_eq).trans ?_
    kernel_rfl
noncomputable def cp61 : CallP := withC cp60 86 [pI, pI, pI, (.one (.cell (.cons (.g (.int .i64)) (.cons (.g (.sl (.one (.int .i64)))) (.cons (.g (.int .i64)) (.cons (.g (.int .i64)) (.cons (.g (.int .i64)) (.cons (.g (.int .i64)) (.cons (.g (.int .i64)) (.cons (.g (.int .i64)) (.cons (.g (.int .i64)) (.cons (.g (.int .i64)) (.cons (.g (.int .i64)) (.cons (.g (.int .i64)) (.cons (.g (.sl (.one (.int .i8)))) (.cons (.g (.sl (.one (.int .i32)))) .nil)))))))))))))))), (.one (.cell (.cons (.g (.int .i64)) (.cons (.g (.int .i64)) (.cons (.g (.int .i64)) (.cons (.g (.int .i64)) (.cons (.g (.int .i64)) (.cons (.g (.int .i64)) (.cons (.g (.sl (.one (.int .i8)))) .nil)))))))))] (.one pI) (fun y : Int => y) (fun x => kern_pool_1 x.1 x.2.1 x.2.2.1 (x.2.2.2.1.1, x.2.2.2.1.2.1, x.2.2.2.1.2.2.1, x.2.2.2.1.2.2.2.1, x.2.2.2.1.2.2.2.2.1, x.2.2.2.1.2.2.2.2.2.1, x.2.2.2.1.2.2.2.2.2.2.1, x.2.2.2.1.2.2.2.2.2.2.2.1, x.2.2.2.1.2.2.2.2.2.2.2.2.1, x.2.2.2.1.2.2.2.2.2.2.2.2.2.1, x.2.2.2.1.2.2.2.2.2.2.2.2.2.2.1, x.2.2.2.1.2.2.2.2.2.2.2.2.2.2.2.1, x.2.2.2.1.2.2.2.2.2.2.2.2.2.2.2.2.1, x.2.2.2.1.2.2.2.2.2.2.2.2.2.2.2.2.2.1) (x.2.2.2.2.1.1, x.2.2.2.2.1.2.1, x.2.2.2.2.1.2.2.1, x.2.2.2.2.1.2.2.2.1, x.2.2.2.2.1.2.2.2.2.1, x.2.2.2.2.1.2.2.2.2.2.1, x.2.2.2.2.1.2.2.2.2.2.2.1))
theorem cp61_ok : PureOK E cp61 := conS eok cp60_ok ce4_ok fun x => Eq.mp (by kernel_rfl) (kern_pool_1_is x.1 x.2.1 x.2.2.1 (x.2.2.2.1.1, x.2.2.2.1.2.1, x.2.2.2.1.2.2.1, x.2.2.2.1.2.2.2.1, x.2.2.2.1.2.2.2.2.1, x.2.2.2.1.2.2.2.2.2.1, x.2.2.2.1.2.2.2.2.2.2.1, x.2.2.2.1.2.2.2.2.2.2.2.1, x.2.2.2.1.2.2.2.2.2.2.2.2.1, x.2.2.2.1.2.2.2.2.2.2.2.2.2.1, x.2.2.2.1.2.2.2.2.2.2.2.2.2.2.1, x.2.2.2.1.2.2.2.2.2.2.2.2.2.2.2.1, x.2.2.2.1.2.2.2.2.2.2.2.2.2.2.2.2.1, x.2.2.2.1.2.2.2.2.2.2.2.2.2.2.2.2.2.1) (x.2.2.2.2.1.1, x.2.2.2.2.1.2.1, x.2.2.2.2.1.2.2.1, x.2.2.2.2.1.2.2.2.1, x.2.2.2.2.1.2.2.2.2.1, x.2.2.2.2.1.2.2.2.2.2.1, x.2.2.2.2.1.2.2.2.2.2.2.1))
end
section
variable {α : Type} (y_ : Int) (x_ : Int) (c_ : Int) (c3_ : pane) (c4_ : pane) (c5_ : Node) (y672 : (Int × Int)) (k : St → Option α)
noncomputable abbrev C65 := codeOf E.P 89
noncomputable abbrev P65 := @preK α E 89 cp61 ce4
def kern_pair_1_r1_p : Option (Int × Int) := (Option.bind (kern_pane_at c3_ y_ x_ c_) (fun y670 : Int => (Option.bind (kern_pane_at c4_ y_ x_ c_) (fun y671 : Int => (some (y670, y671))))))
abbrev S65_0 : St := ⟨[(5, rC tsNode c5_), (10, ri y672.1), (11, ri y672.2)], [], [], 45⟩
theorem kern_pair_1_r1 : P65 2 C65 ⟨[(0, ri y_), (1, ri x_), (2, ri c_), (3, rC tspane c3_), (4, rC tspane c4_), (5, rC tsNode c5_)], [], [], 45⟩ k = Option.bind (kern_pair_1_r1_p y_ x_ c_ c3_ c4_) (fun y672 : (Int × Int) => k (S65_0 c5_ y672)) := .trans (by kernel_rfl) (bind_b fun y670 => (bind_b fun y671 => some_b))
theorem kern_pair_1_f1000003 : P65 1 C65.r.r.l (S65_0 c5_ y672) k = k ⟨[(5, rC tsNode c5_), (10, ri y672.1), (11, ri y672.2), (24, rb (c5_.1 == 7))], [], [], 45⟩ := by kernel_rfl
theorem kern_pair_1_r3 : P65 1 C65.r.r.l.r.t (S65_0 c5_ y672) k = Option.bind (fixed_Scale (IntKind.wrap .i64 (y672.1 * y672.2)) c5_.2.2.2.2.2.2.1 c5_.2.2.2.2.2.2.2.1 c5_.2.2.2.2.2.2.2.2.1) fun y674 : Int => k ⟨[(9, ri y674)], [], [], 45⟩ := by kernel_rfl
theorem kern_pair_1_r4 : P65 1 C65.r.r.r (S65_0 c5_ y672) k = Option.bind (fixed_Scale (IntKind.wrap .i64 (y672.1 + y672.2)) c5_.2.2.2.2.2.2.1 c5_.2.2.2.2.2.2.2.1 c5_.2.2.2.2.2.2.2.2.1) fun y675 : Int => k ⟨[(9, ri y675)], [], [], 45⟩ := by kernel_rfl
/-- quilt/kern.pair$1 -/
def kern_pair_1 : Option Int := (Option.bind (kern_pair_1_r1_p y_ x_ c_ c3_ c4_) (fun y672 : (Int × Int) => (bif (c5_.1 == 7) then (Option.bind (fixed_Scale (IntKind.wrap .i64 (y672.1 * y672.2)) c5_.2.2.2.2.2.2.1 c5_.2.2.2.2.2.2.2.1 c5_.2.2.2.2.2.2.2.2.1) (fun y674 : Int => (some y674))) else (Option.bind (fixed_Scale (IntKind.wrap .i64 (y672.1 + y672.2)) c5_.2.2.2.2.2.2.1 c5_.2.2.2.2.2.2.2.1 c5_.2.2.2.2.2.2.2.2.1) (fun y675 : Int => (some y675))))))
theorem kern_pair_1_is : stepS E cp61 ce4 89 [ri y_, ri x_, ri c_, rC tspane c3_, rC tspane c4_, rC tsNode c5_] = Option.bind (kern_pair_1 y_ x_ c_ c3_ c4_ c5_) (fun y : Int => some (ri y : R)) := by
  refine .trans ?_ (bind_b fun y672 => (bif_b (bind_b fun y674 => some_b) (bind_b fun y675 => some_b)))
  refine (stepG_is (nt := 45) (regs := [(0, ri y_), (1, ri x_), (2, ri c_), (3, rC tspane c3_), (4, rC tspane c4_), (5, rC tsNode c5_)])).trans ?_
  refine (pre2 (kern_pair_1_r1 y_ x_ c_ c3_ c4_ c5_ _)).trans (bind_g fun y672 => ?_)
  refine .trans seq_push ?_
  refine (pre1 (kern_pair_1_f1000003 c5_ y672 _)).trans ?_
  refine (cond_e (b := (c5_.1 == 7)) (st' := (S65_0 c5_ y672)) ).trans (bif_g ?_ ?_)
  · refine (pre1 (kern_pair_1_r3 c5_ y672 _)).trans (bind_g fun y674 => ?_)
    refine (ret_eq).trans ?_
    refine seqC_ret.trans ?_
    kernel_rfl
  · refine (skip_eq).trans ?_
    refine (seqC_normal (st' := (S65_0 c5_ y672))).trans ?_
    refine (pre1 (kern_pair_1_r4 c5_ y672 _)).trans (bind_g fun y675 => ?_)
    refine (ret_eq).trans ?_
    kernel_rfl
noncomputable def cp62 : CallP := withC cp61 89 [pI, pI, pI, (.one (.cell (.cons (.g (.int .i64)) (.cons (.g (.int .i64)) (.cons (.g (.int .i64)) (.cons (.g (.int .i64)) (.cons (.g (.int .i64)) (.cons (.g (.int .i64)) (.cons (.g (.sl (.one (.int .i8)))) .nil))))))))), (.one (.cell (.cons (.g (.int .i64)) (.cons (.g (.int .i64)) (.cons (.g (.int .i64)) (.cons (.g (.int .i64)) (.cons (.g (.int .i64)) (.cons (.g (.int .i64)) (.cons (.g (.sl (.one (.int .i8)))) .nil))))))))), (.one (.cell (.cons (.g (.int .i64)) (.cons (.g (.sl (.one (.int .i64)))) (.cons (.g (.int .i64)) (.cons (.g (.int .i64)) (.cons (.g (.int .i64)) (.cons (.g (.int .i64)) (.cons (.g (.int .i64)) (.cons (.g (.int .i64)) (.cons (.g (.int .i64)) (.cons (.g (.int .i64)) (.cons (.g (.int .i64)) (.cons (.g (.int .i64)) (.cons (.g (.sl (.one (.int .i8)))) (.cons (.g (.sl (.one (.int .i32)))) .nil))))))))))))))))] (.one pI) (fun y : Int => y) (fun x => kern_pair_1 x.1 x.2.1 x.2.2.1 (x.2.2.2.1.1, x.2.2.2.1.2.1, x.2.2.2.1.2.2.1, x.2.2.2.1.2.2.2.1, x.2.2.2.1.2.2.2.2.1, x.2.2.2.1.2.2.2.2.2.1, x.2.2.2.1.2.2.2.2.2.2.1) (x.2.2.2.2.1.1, x.2.2.2.2.1.2.1, x.2.2.2.2.1.2.2.1, x.2.2.2.2.1.2.2.2.1, x.2.2.2.2.1.2.2.2.2.1, x.2.2.2.2.1.2.2.2.2.2.1, x.2.2.2.2.1.2.2.2.2.2.2.1) (x.2.2.2.2.2.1.1, x.2.2.2.2.2.1.2.1, x.2.2.2.2.2.1.2.2.1, x.2.2.2.2.2.1.2.2.2.1, x.2.2.2.2.2.1.2.2.2.2.1, x.2.2.2.2.2.1.2.2.2.2.2.1, x.2.2.2.2.2.1.2.2.2.2.2.2.1, x.2.2.2.2.2.1.2.2.2.2.2.2.2.1, x.2.2.2.2.2.1.2.2.2.2.2.2.2.2.1, x.2.2.2.2.2.1.2.2.2.2.2.2.2.2.2.1, x.2.2.2.2.2.1.2.2.2.2.2.2.2.2.2.2.1, x.2.2.2.2.2.1.2.2.2.2.2.2.2.2.2.2.2.1, x.2.2.2.2.2.1.2.2.2.2.2.2.2.2.2.2.2.2.1, x.2.2.2.2.2.1.2.2.2.2.2.2.2.2.2.2.2.2.2.1))
theorem cp62_ok : PureOK E cp62 := conS eok cp61_ok ce4_ok fun x => Eq.mp (by kernel_rfl) (kern_pair_1_is x.1 x.2.1 x.2.2.1 (x.2.2.2.1.1, x.2.2.2.1.2.1, x.2.2.2.1.2.2.1, x.2.2.2.1.2.2.2.1, x.2.2.2.1.2.2.2.2.1, x.2.2.2.1.2.2.2.2.2.1, x.2.2.2.1.2.2.2.2.2.2.1) (x.2.2.2.2.1.1, x.2.2.2.2.1.2.1, x.2.2.2.2.1.2.2.1, x.2.2.2.2.1.2.2.2.1, x.2.2.2.2.1.2.2.2.2.1, x.2.2.2.2.1.2.2.2.2.2.1, x.2.2.2.2.1.2.2.2.2.2.2.1) (x.2.2.2.2.2.1.1, x.2.2.2.2.2.1.2.1, x.2.2.2.2.2.1.2.2.1, x.2.2.2.2.2.1.2.2.2.1, x.2.2.2.2.2.1.2.2.2.2.1, x.2.2.2.2.2.1.2.2.2.2.2.1, x.2.2.2.2.2.1.2.2.2.2.2.2.1, x.2.2.2.2.2.1.2.2.2.2.2.2.2.1, x.2.2.2.2.2.1.2.2.2.2.2.2.2.2.1, x.2.2.2.2.2.1.2.2.2.2.2.2.2.2.2.1, x.2.2.2.2.2.1.2.2.2.2.2.2.2.2.2.2.1, x.2.2.2.2.2.1.2.2.2.2.2.2.2.2.2.2.2.1, x.2.2.2.2.2.1.2.2.2.2.2.2.2.2.2.2.2.2.1, x.2.2.2.2.2.1.2.2.2.2.2.2.2.2.2.2.2.2.2.1))
end
end Go.V.P
