/- What functions compute. -/
import Derived.Test.YtokpndlkheofjaaKp2
namespace Go.V.P
open Go.RowKit Go.V Go.Proofs
set_option linter.unusedVariables false
set_option maxRecDepth 100000
section
variable {α : Type} (y_ : Int) (x_ : Int) (c_ : Int) (c3_ : pane) (c4_ : Node) (k : St → Option α)
noncomputable abbrev C43 := codeOf E.P 73
noncomputable abbrev P43 := @preK α E 73 cp43 noE
theorem kern_made_1_r1 : P43 2 C43 ⟨[(0, ri y_), (1, ri x_), (2, ri c_), (3, rC tspane c3_), (4, rC tsNode c4_)], [], [], 21⟩ k = Option.bind (kern_pane_at c3_ y_ x_ c_) fun y513 : Int => k ⟨[(8, ri (max (IntKind.wrap .i64 (y513 + c3_.2.2.2.1)) c4_.2.2.2.2.2.2.2.2.1))], [], [], 21⟩ := by kernel_rfl
/-- quilt/kern.made$1 -/
def kern_made_1 : Option Int := (Option.bind (kern_pane_at c3_ y_ x_ c_) (fun y513 : Int => (some (max (IntKind.wrap .i64 (y513 + c3_.2.2.2.1)) c4_.2.2.2.2.2.2.2.2.1))))
theorem kern_made_1_is : stepS E cp43 noE 73 [ri y_, ri x_, ri c_, rC tspane c3_, rC tsNode c4_] = Option.bind (kern_made_1 y_ x_ c_ c3_ c4_) (fun y : Int => some (ri y : R)) := by
  refine .trans ?_ (bind_b fun y513 => some_b)
  refine (stepG_is (nt := 21) (regs := [(0, ri y_), (1, ri x_), (2, ri c_), (3, rC tspane c3_), (4, rC tsNode c4_)])).trans ?_
  refine (pre2 (kern_made_1_r1 y_ x_ c_ c3_ c4_ _)).trans (bind_g fun y513 => ?_)
  refine (ret_eq).trans ?_
  kernel_rfl
noncomputable def cp44 : CallP := withC cp43 73 [pI, pI, pI, (.one (.cell (.cons (.g (.int .i64)) (.cons (.g (.int .i64)) (.cons (.g (.int .i64)) (.cons (.g (.int .i64)) (.cons (.g (.int .i64)) (.cons (.g (.int .i64)) (.cons (.g (.sl (.one (.int .i8)))) .nil))))))))), (.one (.cell (.cons (.g (.int .i64)) (.cons (.g (.sl (.one (.int .i64)))) (.cons (.g (.int .i64)) (.cons (.g (.int .i64)) (.cons (.g (.int .i64)) (.cons (.g (.int .i64)) (.cons (.g (.int .i64)) (.cons (.g (.int .i64)) (.cons (.g (.int .i64)) (.cons (.g (.int .i64)) (.cons (.g (.int .i64)) (.cons (.g (.int .i64)) (.cons (.g (.sl (.one (.int .i8)))) (.cons (.g (.sl (.one (.int .i32)))) .nil))))))))))))))))] (.one pI) (fun y : Int => y) (fun x => kern_made_1 x.1 x.2.1 x.2.2.1 (x.2.2.2.1.1, x.2.2.2.1.2.1, x.2.2.2.1.2.2.1, x.2.2.2.1.2.2.2.1, x.2.2.2.1.2.2.2.2.1, x.2.2.2.1.2.2.2.2.2.1, x.2.2.2.1.2.2.2.2.2.2.1) (x.2.2.2.2.1.1, x.2.2.2.2.1.2.1, x.2.2.2.2.1.2.2.1, x.2.2.2.2.1.2.2.2.1, x.2.2.2.2.1.2.2.2.2.1, x.2.2.2.2.1.2.2.2.2.2.1, x.2.2.2.2.1.2.2.2.2.2.2.1, x.2.2.2.2.1.2.2.2.2.2.2.2.1, x.2.2.2.2.1.2.2.2.2.2.2.2.2.1, x.2.2.2.2.1.2.2.2.2.2.2.2.2.2.1, x.2.2.2.2.1.2.2.2.2.2.2.2.2.2.2.1, x.2.2.2.2.1.2.2.2.2.2.2.2.2.2.2.2.1, x.2.2.2.2.1.2.2.2.2.2.2.2.2.2.2.2.2.1, x.2.2.2.2.1.2.2.2.2.2.2.2.2.2.2.2.2.2.1))
theorem cp44_ok : PureOK E cp44 := conS eok cp43_ok noE_ok fun x => Eq.mp (by kernel_rfl) (kern_made_1_is x.1 x.2.1 x.2.2.1 (x.2.2.2.1.1, x.2.2.2.1.2.1, x.2.2.2.1.2.2.1, x.2.2.2.1.2.2.2.1, x.2.2.2.1.2.2.2.2.1, x.2.2.2.1.2.2.2.2.2.1, x.2.2.2.1.2.2.2.2.2.2.1) (x.2.2.2.2.1.1, x.2.2.2.2.1.2.1, x.2.2.2.2.1.2.2.1, x.2.2.2.2.1.2.2.2.1, x.2.2.2.2.1.2.2.2.2.1, x.2.2.2.2.1.2.2.2.2.2.1, x.2.2.2.2.1.2.2.2.2.2.2.1, x.2.2.2.2.1.2.2.2.2.2.2.2.1, x.2.2.2.2.1.2.2.2.2.2.2.2.2.1, x.2.2.2.2.1.2.2.2.2.2.2.2.2.2.1, x.2.2.2.2.1.2.2.2.2.2.2.2.2.2.2.1, x.2.2.2.2.1.2.2.2.2.2.2.2.2.2.2.2.1, x.2.2.2.2.1.2.2.2.2.2.2.2.2.2.2.2.2.1, x.2.2.2.2.1.2.2.2.2.2.2.2.2.2.2.2.2.2.1))
end
section
variable {α : Type} (y_ : Int) (x_ : Int) (c_ : Int) (c3_ : pane) (k : St → Option α)
noncomputable abbrev C44 := codeOf E.P 75
noncomputable abbrev P44 := @preK α E 75 cp44 noE
theorem kern_made_2_r1 : P44 2 C44 ⟨[(0, ri y_), (1, ri x_), (2, ri c_), (3, rC tspane c3_)], [], [], 19⟩ k = Option.bind (kern_pane_at c3_ (IntKind.wrap .i64 (y_ - 1)) (IntKind.wrap .i64 (x_ - 1)) c_) fun y516 : Int => k ⟨[(7, ri (IntKind.wrap .i64 (y516 + c3_.2.2.2.1)))], [], [], 19⟩ := by kernel_rfl
/-- quilt/kern.made$2 -/
def kern_made_2 : Option Int := (Option.bind (kern_pane_at c3_ (IntKind.wrap .i64 (y_ - 1)) (IntKind.wrap .i64 (x_ - 1)) c_) (fun y516 : Int => (some (IntKind.wrap .i64 (y516 + c3_.2.2.2.1)))))
theorem kern_made_2_is : stepS E cp44 noE 75 [ri y_, ri x_, ri c_, rC tspane c3_] = Option.bind (kern_made_2 y_ x_ c_ c3_) (fun y : Int => some (ri y : R)) := by
  refine .trans ?_ (bind_b fun y516 => some_b)
  refine (stepG_is (nt := 19) (regs := [(0, ri y_), (1, ri x_), (2, ri c_), (3, rC tspane c3_)])).trans ?_
  refine (pre2 (kern_made_2_r1 y_ x_ c_ c3_ _)).trans (bind_g fun y516 => ?_)
  refine (ret_eq).trans ?_
  kernel_rfl
noncomputable def cp45 : CallP := withC cp44 75 [pI, pI, pI, (.one (.cell (.cons (.g (.int .i64)) (.cons (.g (.int .i64)) (.cons (.g (.int .i64)) (.cons (.g (.int .i64)) (.cons (.g (.int .i64)) (.cons (.g (.int .i64)) (.cons (.g (.sl (.one (.int .i8)))) .nil)))))))))] (.one pI) (fun y : Int => y) (fun x => kern_made_2 x.1 x.2.1 x.2.2.1 (x.2.2.2.1.1, x.2.2.2.1.2.1, x.2.2.2.1.2.2.1, x.2.2.2.1.2.2.2.1, x.2.2.2.1.2.2.2.2.1, x.2.2.2.1.2.2.2.2.2.1, x.2.2.2.1.2.2.2.2.2.2.1))
theorem cp45_ok : PureOK E cp45 := conS eok cp44_ok noE_ok fun x => Eq.mp (by kernel_rfl) (kern_made_2_is x.1 x.2.1 x.2.2.1 (x.2.2.2.1.1, x.2.2.2.1.2.1, x.2.2.2.1.2.2.1, x.2.2.2.1.2.2.2.1, x.2.2.2.1.2.2.2.2.1, x.2.2.2.1.2.2.2.2.2.1, x.2.2.2.1.2.2.2.2.2.2.1))
end
section
variable {α : Type} (y_ : Int) (x_ : Int) (c_ : Int) (c3_ : pane) (c4_ : Int) (c4_' : Int) (c4_'' : Int) (c4_''' : Int) (c4_'''' : Int) (c4_''''' : Int) (c4_'''''' : (List Int)) (c4_''''''' : Int) (c4_'''''''' : Int) (c4_''''''''' : Int) (c4_'''''''''' : Int) (c4_''''''''''' : Int) (c4_'''''''''''' : Int) (c4_''''''''''''' : (List Int)) (k : St → Option α)
noncomputable abbrev C45 := codeOf E.P 76
noncomputable abbrev P45 := @preK α E 76 cp45 noE
def kern_made_3_r1_p : Option Unit := (bif (c3_.2.2.1 == 0) then none else (some ()))
abbrev S45_0 : St := ⟨[(0, ri y_), (1, ri x_), (2, ri c_), (3, rC tspane c3_), (4, .one (.cell [di c4_, di c4_', di c4_'', di c4_''', di c4_'''', di c4_''''', dl (.one (.int .i8)) c4_'''''', di c4_''''''', di c4_'''''''', di c4_''''''''', di c4_'''''''''', di c4_''''''''''', di c4_'''''''''''', dl (.one (.int .i8)) c4_''''''''''''']))], [], [], 43⟩
abbrev S45_1 : St := ⟨[(0, ri y_), (1, ri x_), (2, ri c_), (3, rC tspane c3_), (4, .one (.cell [di c4_, di c4_', di c4_'', di c4_''', di c4_'''', di c4_''''', dl (.one (.int .i8)) c4_'''''', di c4_''''''', di c4_'''''''', di c4_''''''''', di c4_'''''''''', di c4_''''''''''', di c4_'''''''''''', dl (.one (.int .i8)) c4_'''''''''''''])), (9, ri (IntKind.wrap .i64 (Int.tdiv c_ c3_.2.2.1)))], [], [], 43⟩
theorem kern_made_3_r1 : P45 2 C45 (S45_0 y_ x_ c_ c3_ c4_ c4_' c4_'' c4_''' c4_'''' c4_''''' c4_'''''' c4_''''''' c4_'''''''' c4_''''''''' c4_'''''''''' c4_''''''''''' c4_'''''''''''' c4_''''''''''''') k = Option.bind (kern_made_3_r1_p c3_) (fun y519 : Unit => k (S45_1 y_ x_ c_ c3_ c4_ c4_' c4_'' c4_''' c4_'''' c4_''''' c4_'''''' c4_''''''' c4_'''''''' c4_''''''''' c4_'''''''''' c4_''''''''''' c4_'''''''''''' c4_''''''''''''')) := .trans (by kernel_rfl) (bif_b none_b some_b)
theorem kern_made_3_f1000003 : P45 1 C45.r.r.l (S45_1 y_ x_ c_ c3_ c4_ c4_' c4_'' c4_''' c4_'''' c4_''''' c4_'''''' c4_''''''' c4_'''''''' c4_''''''''' c4_'''''''''' c4_''''''''''' c4_'''''''''''' c4_''''''''''''') k = k ⟨[(0, ri y_), (1, ri x_), (2, ri c_), (3, rC tspane c3_), (4, .one (.cell [di c4_, di c4_', di c4_'', di c4_''', di c4_'''', di c4_''''', dl (.one (.int .i8)) c4_'''''', di c4_''''''', di c4_'''''''', di c4_''''''''', di c4_'''''''''', di c4_''''''''''', di c4_'''''''''''', dl (.one (.int .i8)) c4_'''''''''''''])), (17, rb ((IntKind.wrap .i64 (Int.tdiv c_ c3_.2.2.1)) == 0))], [], [], 43⟩ := by kernel_rfl
theorem kern_made_3_r3 : P45 1 C45.r.r.l.r.t (S45_0 y_ x_ c_ c3_ c4_ c4_' c4_'' c4_''' c4_'''' c4_''''' c4_'''''' c4_''''''' c4_'''''''' c4_''''''''' c4_'''''''''' c4_''''''''''' c4_'''''''''''' c4_''''''''''''') k = Option.bind (kern_pane_at c3_ y_ x_ c_) fun y521 : Int => k ⟨[(8, ri (IntKind.wrap .i64 (y521 + c3_.2.2.2.1)))], [], [], 43⟩ := by kernel_rfl
theorem kern_made_3_r4 : P45 1 C45.r.r.r (S45_0 y_ x_ c_ c3_ c4_ c4_' c4_'' c4_''' c4_'''' c4_''''' c4_'''''' c4_''''''' c4_'''''''' c4_''''''''' c4_'''''''''' c4_''''''''''' c4_'''''''''''' c4_''''''''''''') k = Option.bind (kern_pane_at (c4_''''''', c4_'''''''', c4_''''''''', c4_'''''''''', c4_''''''''''', c4_'''''''''''', c4_''''''''''''') y_ x_ (IntKind.wrap .i64 (c_ - c3_.2.2.1))) fun y522 : Int => k ⟨[(8, ri (IntKind.wrap .i64 (y522 + c4_'''''''''')))], [], [], 43⟩ := by kernel_rfl
/-- quilt/kern.made$3 -/
def kern_made_3 (y_ : Int) (x_ : Int) (c_ : Int) (c3_ : pane) (c4_ : Int) (c4_' : Int) (c4_'' : Int) (c4_''' : Int) (c4_'''' : Int) (c4_''''' : Int) (c4_'''''' : (List Int)) (c4_''''''' : Int) (c4_'''''''' : Int) (c4_''''''''' : Int) (c4_'''''''''' : Int) (c4_''''''''''' : Int) (c4_'''''''''''' : Int) (c4_''''''''''''' : (List Int)) : Option Int := (Option.bind (kern_made_3_r1_p c3_) (fun y519 : Unit => (bif ((IntKind.wrap .i64 (Int.tdiv c_ c3_.2.2.1)) == 0) then (Option.bind (kern_pane_at c3_ y_ x_ c_) (fun y521 : Int => (some (IntKind.wrap .i64 (y521 + c3_.2.2.2.1))))) else (Option.bind (kern_pane_at (c4_''''''', c4_'''''''', c4_''''''''', c4_'''''''''', c4_''''''''''', c4_'''''''''''', c4_''''''''''''') y_ x_ (IntKind.wrap .i64 (c_ - c3_.2.2.1))) (fun y522 : Int => (some (IntKind.wrap .i64 (y522 + c4_''''''''''))))))))
theorem kern_made_3_is : stepS E cp45 noE 76 [ri y_, ri x_, ri c_, rC tspane c3_, .one (.cell [di c4_, di c4_', di c4_'', di c4_''', di c4_'''', di c4_''''', dl (.one (.int .i8)) c4_'''''', di c4_''''''', di c4_'''''''', di c4_''''''''', di c4_'''''''''', di c4_''''''''''', di c4_'''''''''''', dl (.one (.int .i8)) c4_'''''''''''''])] = Option.bind (kern_made_3 y_ x_ c_ c3_ c4_ c4_' c4_'' c4_''' c4_'''' c4_''''' c4_'''''' c4_''''''' c4_'''''''' c4_''''''''' c4_'''''''''' c4_''''''''''' c4_'''''''''''' c4_''''''''''''') (fun y : Int => some (ri y : R)) := by
  refine .trans ?_ (bind_b fun y519 => (bif_b (bind_b fun y521 => some_b) (bind_b fun y522 => some_b)))
  refine (stepG_is (nt := 43) (regs := [(0, ri y_), (1, ri x_), (2, ri c_), (3, rC tspane c3_), (4, .one (.cell [di c4_, di c4_', di c4_'', di c4_''', di c4_'''', di c4_''''', dl (.one (.int .i8)) c4_'''''', di c4_''''''', di c4_'''''''', di c4_''''''''', di c4_'''''''''', di c4_''''''''''', di c4_'''''''''''', dl (.one (.int .i8)) c4_''''''''''''']))])).trans ?_
  refine (pre2 (kern_made_3_r1 y_ x_ c_ c3_ c4_ c4_' c4_'' c4_''' c4_'''' c4_''''' c4_'''''' c4_''''''' c4_'''''''' c4_''''''''' c4_'''''''''' c4_''''''''''' c4_'''''''''''' c4_''''''''''''' _)).trans (bind_g fun y519 => ?_)
  refine .trans seq_push ?_
  refine (pre1 (kern_made_3_f1000003 y_ x_ c_ c3_ c4_ c4_' c4_'' c4_''' c4_'''' c4_''''' c4_'''''' c4_''''''' c4_'''''''' c4_''''''''' c4_'''''''''' c4_''''''''''' c4_'''''''''''' c4_''''''''''''' _)).trans ?_
  refine (cond_e (b := ((IntKind.wrap .i64 (Int.tdiv c_ c3_.2.2.1)) == 0)) (st' := (S45_0 y_ x_ c_ c3_ c4_ c4_' c4_'' c4_''' c4_'''' c4_''''' c4_'''''' c4_''''''' c4_'''''''' c4_''''''''' c4_'''''''''' c4_''''''''''' c4_'''''''''''' c4_''''''''''''')) ).trans (bif_g ?_ ?_)
  · refine (pre1 (kern_made_3_r3 y_ x_ c_ c3_ c4_ c4_' c4_'' c4_''' c4_'''' c4_''''' c4_'''''' c4_''''''' c4_'''''''' c4_''''''''' c4_'''''''''' c4_''''''''''' c4_'''''''''''' c4_''''''''''''' _)).trans (bind_g fun y521 => ?_)
    refine (ret_eq).trans ?_
    refine seqC_ret.trans ?_
    kernel_rfl
  · refine (skip_eq).trans ?_
    refine (seqC_normal (st' := (S45_0 y_ x_ c_ c3_ c4_ c4_' c4_'' c4_''' c4_'''' c4_''''' c4_'''''' c4_''''''' c4_'''''''' c4_''''''''' c4_'''''''''' c4_''''''''''' c4_'''''''''''' c4_'''''''''''''))).trans ?_
    refine (pre1 (kern_made_3_r4 y_ x_ c_ c3_ c4_ c4_' c4_'' c4_''' c4_'''' c4_''''' c4_'''''' c4_''''''' c4_'''''''' c4_''''''''' c4_'''''''''' c4_''''''''''' c4_'''''''''''' c4_''''''''''''' _)).trans (bind_g fun y522 => ?_)
    refine (ret_eq).trans ?_
    kernel_rfl
noncomputable def cp46 : CallP := withC cp45 76 [pI, pI, pI, (.one (.cell (.cons (.g (.int .i64)) (.cons (.g (.int .i64)) (.cons (.g (.int .i64)) (.cons (.g (.int .i64)) (.cons (.g (.int .i64)) (.cons (.g (.int .i64)) (.cons (.g (.sl (.one (.int .i8)))) .nil))))))))), (.one Z3)] (.one pI) (fun y : Int => y) (fun x => kern_made_3 x.1 x.2.1 x.2.2.1 (x.2.2.2.1.1, x.2.2.2.1.2.1, x.2.2.2.1.2.2.1, x.2.2.2.1.2.2.2.1, x.2.2.2.1.2.2.2.2.1, x.2.2.2.1.2.2.2.2.2.1, x.2.2.2.1.2.2.2.2.2.2.1) x.2.2.2.2.1.1 x.2.2.2.2.1.2.1 x.2.2.2.2.1.2.2.1 x.2.2.2.2.1.2.2.2.1 x.2.2.2.2.1.2.2.2.2.1 x.2.2.2.2.1.2.2.2.2.2.1 x.2.2.2.2.1.2.2.2.2.2.2.1 x.2.2.2.2.1.2.2.2.2.2.2.2.1 x.2.2.2.2.1.2.2.2.2.2.2.2.2.1 x.2.2.2.2.1.2.2.2.2.2.2.2.2.2.1 x.2.2.2.2.1.2.2.2.2.2.2.2.2.2.2.1 x.2.2.2.2.1.2.2.2.2.2.2.2.2.2.2.2.1 x.2.2.2.2.1.2.2.2.2.2.2.2.2.2.2.2.2.1 x.2.2.2.2.1.2.2.2.2.2.2.2.2.2.2.2.2.2.1)
theorem cp46_ok : PureOK E cp46 := conS eok cp45_ok noE_ok fun x => Eq.mp (by kernel_rfl) (kern_made_3_is x.1 x.2.1 x.2.2.1 (x.2.2.2.1.1, x.2.2.2.1.2.1, x.2.2.2.1.2.2.1, x.2.2.2.1.2.2.2.1, x.2.2.2.1.2.2.2.2.1, x.2.2.2.1.2.2.2.2.2.1, x.2.2.2.1.2.2.2.2.2.2.1) x.2.2.2.2.1.1 x.2.2.2.2.1.2.1 x.2.2.2.2.1.2.2.1 x.2.2.2.2.1.2.2.2.1 x.2.2.2.2.1.2.2.2.2.1 x.2.2.2.2.1.2.2.2.2.2.1 x.2.2.2.2.1.2.2.2.2.2.2.1 x.2.2.2.2.1.2.2.2.2.2.2.2.1 x.2.2.2.2.1.2.2.2.2.2.2.2.2.1 x.2.2.2.2.1.2.2.2.2.2.2.2.2.2.1 x.2.2.2.2.1.2.2.2.2.2.2.2.2.2.2.1 x.2.2.2.2.1.2.2.2.2.2.2.2.2.2.2.2.1 x.2.2.2.2.1.2.2.2.2.2.2.2.2.2.2.2.2.1 x.2.2.2.2.1.2.2.2.2.2.2.2.2.2.2.2.2.2.1)
end
section
variable {α β : Type} (s_ : I3) (y_ : Int) (x_ : Int) (c_ : Int) (k : St → Option α)
noncomputable abbrev C46 := codeOf E.P 78
noncomputable abbrev P46 := @preK α E 78 cp46 noE
abbrev S46_0 : St := ⟨[(1, ri y_), (2, ri x_), (3, ri c_), (4, rC tsI3 s_)], [], [], 53⟩
theorem shape_Index_f1 : P46 1 C46 ⟨[(0, rA tsI3 s_), (1, ri y_), (2, ri x_), (3, ri c_)], [], [], 53⟩ k = k (S46_0 s_ y_ x_ c_) := by kernel_rfl
def shape_Index_r1_p : Option Bool := (Option.bind (shape_may s_) (fun y530 : Bool => (bif (!y530) then (some true) else (Option.bind (shape_within_1 [y_] (((shape_within (0 : Int) (IntKind.wrap .i64 (s_.1 - 1))).1).1) (((shape_within (0 : Int) (IntKind.wrap .i64 (s_.1 - 1))).2.1).1)) (fun y531 : Bool => (bif (!y531) then (some true) else (Option.bind (shape_within_1 [x_] (((shape_within (0 : Int) (IntKind.wrap .i64 (s_.2.1 - 1))).1).1) (((shape_within (0 : Int) (IntKind.wrap .i64 (s_.2.1 - 1))).2.1).1)) (fun y532 : Bool => (bif (!y532) then (some true) else (Option.bind (shape_within_1 [c_] (((shape_within (0 : Int) (IntKind.wrap .i64 (s_.2.2 - 1))).1).1) (((shape_within (0 : Int) (IntKind.wrap .i64 (s_.2.2 - 1))).2.1).1)) (fun y533 : Bool => (some (!y533)))))))))))))
theorem shape_Index_r1 : P46 1 C46.r.l (S46_0 s_ y_ x_ c_) k = Option.bind (shape_Index_r1_p s_ y_ x_ c_) (fun y534 : Bool => k ⟨[(1, ri y_), (2, ri x_), (3, ri c_), (4, rC tsI3 s_), (41, rb y534)], [], [], 53⟩) := .trans (by kernel_rfl) (bind_b fun y530 => (bif_b some_b (bind_b fun y531 => (bif_b some_b (bind_b fun y532 => (bif_b some_b (bind_b fun y533 => some_b)))))))
theorem shape_Index_fz : P46 1 C46.r.l.r.t (S46_0 s_ y_ x_ c_) k = k ⟨[(8, ri (-1 : Int))], [], [], 53⟩ := by kernel_rfl
def shape_Index_r3_q (K : Int → β) : β := (K (IntKind.wrap .i64 ((IntKind.wrap .i64 ((IntKind.wrap .i64 ((IntKind.wrap .i64 (y_ * s_.2.1)) + x_)) * s_.2.2)) + c_)))
def shape_Index_r3_p : Int := shape_Index_r3_q s_ y_ x_ c_ (fun y => y)
theorem shape_Index_r3_n (K : Int → β) : shape_Index_r3_q s_ y_ x_ c_ K = K (shape_Index_r3_p s_ y_ x_ c_) := rfl
theorem shape_Index_r3 : P46 1 C46.r.r (S46_0 s_ y_ x_ c_) k = k ⟨[(8, ri (shape_Index_r3_p s_ y_ x_ c_))], [], [], 53⟩ := Eq.trans (by kernel_rfl) (shape_Index_r3_n s_ y_ x_ c_ (fun y535 : Int => k ⟨[(8, ri y535)], [], [], 53⟩))
/-- quilt/shape.Index -/
def shape_Index : Option Int := (Option.bind (shape_Index_r1_p s_ y_ x_ c_) (fun y534 : Bool => (bif y534 then (some (-1 : Int)) else (some (shape_Index_r3_p s_ y_ x_ c_)))))
theorem shape_Index_is : stepS E cp46 noE 78 [rA tsI3 s_, ri y_, ri x_, ri c_] = Option.bind (shape_Index s_ y_ x_ c_) (fun y : Int => some (ri y : R)) := by
  refine .trans ?_ (bind_b fun y534 => (bif_b some_b some_b))
  refine (stepG_is (nt := 53) (regs := [(0, rA tsI3 s_), (1, ri y_), (2, ri x_), (3, ri c_)])).trans ?_
  refine (pre1 (shape_Index_f1 s_ y_ x_ c_ _)).trans ?_
  refine .trans seq_push ?_
  refine (pre1 (shape_Index_r1 s_ y_ x_ c_ _)).trans (bind_g fun y534 => ?_)
  refine (cond_e (b := y534) (st' := (S46_0 s_ y_ x_ c_)) ).trans (bif_g ?_ ?_)
  · refine (pre1 (shape_Index_fz s_ y_ x_ c_ _)).trans ?_
    refine (ret_eq).trans ?_
    refine seqC_ret.trans ?_
    kernel_rfl
  · refine (skip_eq).trans ?_
    refine (seqC_normal (st' := (S46_0 s_ y_ x_ c_))).trans ?_
    refine (pre1 (shape_Index_r3 s_ y_ x_ c_ _)).trans ?_
    refine (ret_eq).trans ?_
    kernel_rfl
noncomputable def cp47 : CallP := withC cp46 78 [(.agg tsI3), pI, pI, pI] (.one pI) (fun y : Int => y) (fun x => shape_Index x.1 x.2.1 x.2.2.1 x.2.2.2.1)
theorem cp47_ok : PureOK E cp47 := conS eok cp46_ok noE_ok fun x => Eq.mp (by kernel_rfl) (shape_Index_is x.1 x.2.1 x.2.2.1 x.2.2.2.1)
end
section
variable {α : Type} (y_ : Int) (x_ : Int) (c_ : Int) (c3_ : pane) (c4_ : I4) (k : St → Option α)
noncomputable abbrev C47 := codeOf E.P 77
noncomputable abbrev P47 := @preK α E 77 cp47 noE
def kern_made_4_r1_p : Option Int := (Option.bind (shape_Index (c4_.1, c4_.2.1, c4_.2.2.1) y_ x_ c_) (fun y536 : Int => (bif (decide ((0 : Int) ≤ y536)) then (bif (decide (y536 < (c3_.2.2.2.2.2.2.length : Int))) then (some (IntKind.wrap .i64 (gt c3_.2.2.2.2.2.2 y536 (0 : Int)))) else none) else none)))
theorem kern_made_4_r1 : P47 2 C47 ⟨[(0, ri y_), (1, ri x_), (2, ri c_), (3, rC tspane c3_), (4, rC tsI4 c4_)], [], [], 21⟩ k = Option.bind (kern_made_4_r1_p y_ x_ c_ c3_ c4_) (fun y537 : Int => k ⟨[(8, ri y537)], [], [], 21⟩) := .trans (by kernel_rfl) (bind_b fun y536 => (bif_b (bif_b some_b none_b) none_b))
/-- quilt/kern.made$4 -/
def kern_made_4 : Option Int := (Option.bind (kern_made_4_r1_p y_ x_ c_ c3_ c4_) (fun y537 : Int => (some y537)))
theorem kern_made_4_is : stepS E cp47 noE 77 [ri y_, ri x_, ri c_, rC tspane c3_, rC tsI4 c4_] = Option.bind (kern_made_4 y_ x_ c_ c3_ c4_) (fun y : Int => some (ri y : R)) := by
  refine .trans ?_ (bind_b fun y537 => some_b)
  refine (stepG_is (nt := 21) (regs := [(0, ri y_), (1, ri x_), (2, ri c_), (3, rC tspane c3_), (4, rC tsI4 c4_)])).trans ?_
  refine (pre2 (kern_made_4_r1 y_ x_ c_ c3_ c4_ _)).trans (bind_g fun y537 => ?_)
  refine (ret_eq).trans ?_
  kernel_rfl
noncomputable def cp48 : CallP := withC cp47 77 [pI, pI, pI, (.one (.cell (.cons (.g (.int .i64)) (.cons (.g (.int .i64)) (.cons (.g (.int .i64)) (.cons (.g (.int .i64)) (.cons (.g (.int .i64)) (.cons (.g (.int .i64)) (.cons (.g (.sl (.one (.int .i8)))) .nil))))))))), (.one Z1)] (.one pI) (fun y : Int => y) (fun x => kern_made_4 x.1 x.2.1 x.2.2.1 (x.2.2.2.1.1, x.2.2.2.1.2.1, x.2.2.2.1.2.2.1, x.2.2.2.1.2.2.2.1, x.2.2.2.1.2.2.2.2.1, x.2.2.2.1.2.2.2.2.2.1, x.2.2.2.1.2.2.2.2.2.2.1) (x.2.2.2.2.1.1, x.2.2.2.2.1.2.1, x.2.2.2.2.1.2.2.1, x.2.2.2.2.1.2.2.2.1))
theorem cp48_ok : PureOK E cp48 := conS eok cp47_ok noE_ok fun x => Eq.mp (by kernel_rfl) (kern_made_4_is x.1 x.2.1 x.2.2.1 (x.2.2.2.1.1, x.2.2.2.1.2.1, x.2.2.2.1.2.2.1, x.2.2.2.1.2.2.2.1, x.2.2.2.1.2.2.2.2.1, x.2.2.2.1.2.2.2.2.2.1, x.2.2.2.1.2.2.2.2.2.2.1) (x.2.2.2.2.1.1, x.2.2.2.2.1.2.1, x.2.2.2.2.1.2.2.1, x.2.2.2.2.1.2.2.2.1))
end
section
variable {α : Type} (y_ : Int) (x_ : Int) (c_ : Int) (c3_ : Node) (c4_ : pane) (k : St → Option α)
noncomputable abbrev C48 := codeOf E.P 79
noncomputable abbrev P48 := @preK α E 79 cp48 noE
def kern_made_5_r1_p : Option Int := (Option.bind (kern_pane_at c4_ y_ x_ c_) (fun y540 : Int => (bif (decide ((0 : Int) ≤ (IntKind.wrap .i64 ((IntKind.wrap .i64 (y540 + c4_.2.2.2.1)) + 128)))) then (bif (decide ((IntKind.wrap .i64 ((IntKind.wrap .i64 (y540 + c4_.2.2.2.1)) + 128)) < (c3_.2.2.2.2.2.2.2.2.2.2.2.2.1.length : Int))) then (some (IntKind.wrap .i64 (gt c3_.2.2.2.2.2.2.2.2.2.2.2.2.1 (IntKind.wrap .i64 ((IntKind.wrap .i64 (y540 + c4_.2.2.2.1)) + 128)) (0 : Int)))) else none) else none)))
theorem kern_made_5_r1 : P48 2 C48 ⟨[(0, ri y_), (1, ri x_), (2, ri c_), (3, rC tsNode c3_), (4, rC tspane c4_)], [], [], 24⟩ k = Option.bind (kern_made_5_r1_p y_ x_ c_ c3_ c4_) (fun y541 : Int => k ⟨[(8, ri y541)], [], [], 24⟩) := .trans (by kernel_rfl) (bind_b fun y540 => (bif_b (bif_b some_b none_b) none_b))
/-- quilt/kern.made$5 -/
def kern_made_5 : Option Int := (Option.bind (kern_made_5_r1_p y_ x_ c_ c3_ c4_) (fun y541 : Int => (some y541)))
theorem kern_made_5_is : stepS E cp48 noE 79 [ri y_, ri x_, ri c_, rC tsNode c3_, rC tspane c4_] = Option.bind (kern_made_5 y_ x_ c_ c3_ c4_) (fun y : Int => some (ri y : R)) := by
  refine .trans ?_ (bind_b fun y541 => some_b)
  refine (stepG_is (nt := 24) (regs := [(0, ri y_), (1, ri x_), (2, ri c_), (3, rC tsNode c3_), (4, rC tspane c4_)])).trans ?_
  refine (pre2 (kern_made_5_r1 y_ x_ c_ c3_ c4_ _)).trans (bind_g fun y541 => ?_)
  refine (ret_eq).trans ?_
  kernel_rfl
noncomputable def cp49 : CallP := withC cp48 79 [pI, pI, pI, (.one (.cell (.cons (.g (.int .i64)) (.cons (.g (.sl (.one (.int .i64)))) (.cons (.g (.int .i64)) (.cons (.g (.int .i64)) (.cons (.g (.int .i64)) (.cons (.g (.int .i64)) (.cons (.g (.int .i64)) (.cons (.g (.int .i64)) (.cons (.g (.int .i64)) (.cons (.g (.int .i64)) (.cons (.g (.int .i64)) (.cons (.g (.int .i64)) (.cons (.g (.sl (.one (.int .i8)))) (.cons (.g (.sl (.one (.int .i32)))) .nil)))))))))))))))), (.one (.cell (.cons (.g (.int .i64)) (.cons (.g (.int .i64)) (.cons (.g (.int .i64)) (.cons (.g (.int .i64)) (.cons (.g (.int .i64)) (.cons (.g (.int .i64)) (.cons (.g (.sl (.one (.int .i8)))) .nil)))))))))] (.one pI) (fun y : Int => y) (fun x => kern_made_5 x.1 x.2.1 x.2.2.1 (x.2.2.2.1.1, x.2.2.2.1.2.1, x.2.2.2.1.2.2.1, x.2.2.2.1.2.2.2.1, x.2.2.2.1.2.2.2.2.1, x.2.2.2.1.2.2.2.2.2.1, x.2.2.2.1.2.2.2.2.2.2.1, x.2.2.2.1.2.2.2.2.2.2.2.1, x.2.2.2.1.2.2.2.2.2.2.2.2.1, x.2.2.2.1.2.2.2.2.2.2.2.2.2.1, x.2.2.2.1.2.2.2.2.2.2.2.2.2.2.1, x.2.2.2.1.2.2.2.2.2.2.2.2.2.2.2.1, x.2.2.2.1.2.2.2.2.2.2.2.2.2.2.2.2.1, x.2.2.2.1.2.2.2.2.2.2.2.2.2.2.2.2.2.1) (x.2.2.2.2.1.1, x.2.2.2.2.1.2.1, x.2.2.2.2.1.2.2.1, x.2.2.2.2.1.2.2.2.1, x.2.2.2.2.1.2.2.2.2.1, x.2.2.2.2.1.2.2.2.2.2.1, x.2.2.2.2.1.2.2.2.2.2.2.1))
theorem cp49_ok : PureOK E cp49 := conS eok cp48_ok noE_ok fun x => Eq.mp (by kernel_rfl) (kern_made_5_is x.1 x.2.1 x.2.2.1 (x.2.2.2.1.1, x.2.2.2.1.2.1, x.2.2.2.1.2.2.1, x.2.2.2.1.2.2.2.1, x.2.2.2.1.2.2.2.2.1, x.2.2.2.1.2.2.2.2.2.1, x.2.2.2.1.2.2.2.2.2.2.1, x.2.2.2.1.2.2.2.2.2.2.2.1, x.2.2.2.1.2.2.2.2.2.2.2.2.1, x.2.2.2.1.2.2.2.2.2.2.2.2.2.1, x.2.2.2.1.2.2.2.2.2.2.2.2.2.2.1, x.2.2.2.1.2.2.2.2.2.2.2.2.2.2.2.1, x.2.2.2.1.2.2.2.2.2.2.2.2.2.2.2.2.1, x.2.2.2.1.2.2.2.2.2.2.2.2.2.2.2.2.2.1) (x.2.2.2.2.1.1, x.2.2.2.2.1.2.1, x.2.2.2.2.1.2.2.1, x.2.2.2.2.1.2.2.2.1, x.2.2.2.2.1.2.2.2.2.1, x.2.2.2.2.1.2.2.2.2.2.1, x.2.2.2.2.1.2.2.2.2.2.2.1))
end
section
variable {α β : Type} (i_ : Int) (j_ : Int) (c2_ : Int) (c3_ : Node) (c4_ : Int) (c5_ : Int) (c7_ : pane) (c8_ : Int) (s557 : (Int × Int)) (y561 : Int) (k : St → Option α) (q : Kont α)
noncomputable abbrev C49 := codeOf E.P 83
noncomputable abbrev P49 := @preK α E 83 cp49 noE
noncomputable abbrev R49 := @runCode α E 83 cp49 noE
def kern_conv_1_1_r0_q (K : (Int × Int × Int) → β) : β := (K ((IntKind.wrap .i64 ((IntKind.wrap .i64 ((IntKind.wrap .i64 (c2_ * c3_.2.2.2.1)) - c3_.2.2.2.2.1)) + i_)), (IntKind.wrap .i64 ((IntKind.wrap .i64 ((IntKind.wrap .i64 (c4_ * c3_.2.2.2.1)) - c3_.2.2.2.2.1)) + j_)), (IntKind.wrap .i64 ((IntKind.wrap .i64 ((IntKind.wrap .i64 ((IntKind.wrap .i64 (c5_ * c3_.2.2.1)) + i_)) * c3_.2.2.1)) + j_))))
def kern_conv_1_1_r0_p : (Int × Int × Int) := kern_conv_1_1_r0_q i_ j_ c2_ c3_ c4_ c5_ (fun y => y)
theorem kern_conv_1_1_r0_n (K : (Int × Int × Int) → β) : kern_conv_1_1_r0_q i_ j_ c2_ c3_ c4_ c5_ K = K (kern_conv_1_1_r0_p i_ j_ c2_ c3_ c4_ c5_) := rfl
abbrev S49_0 : St := ⟨[(3, rC tsNode c3_), (5, .one (.cell [di c5_])), (6, rF 0), (7, rC tspane c7_), (10, ri ((kern_conv_1_1_r0_p i_ j_ c2_ c3_ c4_ c5_).1)), (11, ri ((kern_conv_1_1_r0_p i_ j_ c2_ c3_ c4_ c5_).2.1)), (12, ri ((kern_conv_1_1_r0_p i_ j_ c2_ c3_ c4_ c5_).2.2))], [[di c8_]], [], 89⟩
theorem kern_conv_1_1_r0 : P49 1 C49 ⟨[(0, ri i_), (1, ri j_), (2, .one (.cell [di c2_])), (3, rC tsNode c3_), (4, .one (.cell [di c4_])), (5, .one (.cell [di c5_])), (6, rF 0), (7, rC tspane c7_)], [[di c8_]], [], 89⟩ k = k (S49_0 i_ j_ c2_ c3_ c4_ c5_ c7_ c8_) := Eq.trans (by kernel_rfl) (kern_conv_1_1_r0_n i_ j_ c2_ c3_ c4_ c5_ (fun y547 : (Int × Int × Int) => k ⟨[(3, rC tsNode c3_), (5, .one (.cell [di c5_])), (6, rF 0), (7, rC tspane c7_), (10, ri y547.1), (11, ri y547.2.1), (12, ri y547.2.2)], [[di c8_]], [], 89⟩))
theorem kern_conv_1_1_f1000002 : P49 1 C49.r.l (S49_0 i_ j_ c2_ c3_ c4_ c5_ c7_ c8_) k = k ⟨[(3, rC tsNode c3_), (5, .one (.cell [di c5_])), (6, rF 0), (7, rC tspane c7_), (10, ri ((kern_conv_1_1_r0_p i_ j_ c2_ c3_ c4_ c5_).1)), (11, ri ((kern_conv_1_1_r0_p i_ j_ c2_ c3_ c4_ c5_).2.1)), (12, ri ((kern_conv_1_1_r0_p i_ j_ c2_ c3_ c4_ c5_).2.2)), (45, rb (c3_.1 == 2))], [[di c8_]], [], 89⟩ := by kernel_rfl
def kern_conv_1_1_r2_p : Option Int := (Option.bind (kern_pane_at c7_ ((kern_conv_1_1_r0_p i_ j_ c2_ c3_ c4_ c5_).1) ((kern_conv_1_1_r0_p i_ j_ c2_ c3_ c4_ c5_).2.1) c5_) (fun y550 : Int => (bif (decide ((0 : Int) ≤ ((kern_conv_1_1_r0_p i_ j_ c2_ c3_ c4_ c5_).2.2))) then (bif (decide (((kern_conv_1_1_r0_p i_ j_ c2_ c3_ c4_ c5_).2.2) < (c3_.2.2.2.2.2.2.2.2.2.2.2.2.1.length : Int))) then (some (IntKind.wrap .i64 (c8_ + (IntKind.wrap .i64 (y550 * (IntKind.wrap .i64 (gt c3_.2.2.2.2.2.2.2.2.2.2.2.2.1 ((kern_conv_1_1_r0_p i_ j_ c2_ c3_ c4_ c5_).2.2) (0 : Int)))))))) else none) else none)))
theorem kern_conv_1_1_r2 : P49 1 C49.r.l.r.t (S49_0 i_ j_ c2_ c3_ c4_ c5_ c7_ c8_) k = Option.bind (kern_conv_1_1_r2_p i_ j_ c2_ c3_ c4_ c5_ c7_ c8_) (fun y551 : Int => k ⟨[], [[di y551]], [], 89⟩) := .trans (by kernel_rfl) (bind_b fun y550 => (bif_b (bif_b some_b none_b) none_b))
abbrev S49_1 : St := ⟨[(3, rC tsNode c3_), (6, rF 0), (7, rC tspane c7_), (10, ri ((kern_conv_1_1_r0_p i_ j_ c2_ c3_ c4_ c5_).1)), (11, ri ((kern_conv_1_1_r0_p i_ j_ c2_ c3_ c4_ c5_).2.1)), (12, ri ((kern_conv_1_1_r0_p i_ j_ c2_ c3_ c4_ c5_).2.2))], [[di c8_]], [], 89⟩
abbrev S49_2 : St := ⟨[(3, rC tsNode c3_), (6, rF 0), (7, rC tspane c7_), (10, ri ((kern_conv_1_1_r0_p i_ j_ c2_ c3_ c4_ c5_).1)), (11, ri ((kern_conv_1_1_r0_p i_ j_ c2_ c3_ c4_ c5_).2.1)), (12, ri ((kern_conv_1_1_r0_p i_ j_ c2_ c3_ c4_ c5_).2.2)), (63, ri c7_.2.2.1), (64, ri 0)], [[di c8_]], [], 89⟩
theorem kern_conv_1_1_f4 : P49 1 C49.r.r (S49_1 i_ j_ c2_ c3_ c4_ c5_ c7_ c8_) k = k (S49_2 i_ j_ c2_ c3_ c4_ c5_ c7_ c8_) := by kernel_rfl
abbrev S49_3 : St := ⟨[(3, rC tsNode c3_), (6, rF 0), (7, rC tspane c7_), (10, ri ((kern_conv_1_1_r0_p i_ j_ c2_ c3_ c4_ c5_).1)), (11, ri ((kern_conv_1_1_r0_p i_ j_ c2_ c3_ c4_ c5_).2.1)), (12, ri ((kern_conv_1_1_r0_p i_ j_ c2_ c3_ c4_ c5_).2.2)), (63, ri c7_.2.2.1), (64, ri s557.1)], [[di s557.2]], [], 89⟩
theorem kern_conv_1_1_fz : P49 1 C49.r.r.r.b.b (S49_3 i_ j_ c2_ c3_ c4_ c5_ c7_ s557) k = k ⟨[(3, rC tsNode c3_), (6, rF 0), (7, rC tspane c7_), (10, ri ((kern_conv_1_1_r0_p i_ j_ c2_ c3_ c4_ c5_).1)), (11, ri ((kern_conv_1_1_r0_p i_ j_ c2_ c3_ c4_ c5_).2.1)), (12, ri ((kern_conv_1_1_r0_p i_ j_ c2_ c3_ c4_ c5_).2.2)), (63, ri c7_.2.2.1), (64, ri s557.1), (65, rb (decide (s557.1 < c7_.2.2.1)))], [[di s557.2]], [], 89⟩ := by kernel_rfl
abbrev S49_4 : St := ⟨[(3, rC tsNode c3_), (6, rF 0), (7, rC tspane c7_), (10, ri ((kern_conv_1_1_r0_p i_ j_ c2_ c3_ c4_ c5_).1)), (11, ri ((kern_conv_1_1_r0_p i_ j_ c2_ c3_ c4_ c5_).2.1)), (12, ri ((kern_conv_1_1_r0_p i_ j_ c2_ c3_ c4_ c5_).2.2)), (13, ri s557.1), (63, ri c7_.2.2.1), (64, ri s557.1)], [[di s557.2]], [], 89⟩
theorem kern_conv_1_1_f6 : P49 1 C49.r.r.r.b.b.r.r.l.b (S49_3 i_ j_ c2_ c3_ c4_ c5_ c7_ s557) k = k (S49_4 i_ j_ c2_ c3_ c4_ c5_ c7_ s557) := by kernel_rfl
def kern_conv_1_1_r6_p : Option Int := (Option.bind (kern_pane_at c7_ ((kern_conv_1_1_r0_p i_ j_ c2_ c3_ c4_ c5_).1) ((kern_conv_1_1_r0_p i_ j_ c2_ c3_ c4_ c5_).2.1) s557.1) (fun y560 : Int => (bif (decide ((0 : Int) ≤ (IntKind.wrap .i64 ((IntKind.wrap .i64 (((kern_conv_1_1_r0_p i_ j_ c2_ c3_ c4_ c5_).2.2) * c7_.2.2.1)) + s557.1)))) then (bif (decide ((IntKind.wrap .i64 ((IntKind.wrap .i64 (((kern_conv_1_1_r0_p i_ j_ c2_ c3_ c4_ c5_).2.2) * c7_.2.2.1)) + s557.1)) < (c3_.2.2.2.2.2.2.2.2.2.2.2.2.1.length : Int))) then (some (IntKind.wrap .i64 (s557.2 + (IntKind.wrap .i64 (y560 * (IntKind.wrap .i64 (gt c3_.2.2.2.2.2.2.2.2.2.2.2.2.1 (IntKind.wrap .i64 ((IntKind.wrap .i64 (((kern_conv_1_1_r0_p i_ j_ c2_ c3_ c4_ c5_).2.2) * c7_.2.2.1)) + s557.1)) (0 : Int)))))))) else none) else none)))
abbrev S49_5 : St := ⟨[(3, rC tsNode c3_), (6, rF 0), (7, rC tspane c7_), (10, ri ((kern_conv_1_1_r0_p i_ j_ c2_ c3_ c4_ c5_).1)), (11, ri ((kern_conv_1_1_r0_p i_ j_ c2_ c3_ c4_ c5_).2.1)), (12, ri ((kern_conv_1_1_r0_p i_ j_ c2_ c3_ c4_ c5_).2.2)), (63, ri c7_.2.2.1), (64, ri s557.1)], [[di y561]], [], 89⟩
theorem kern_conv_1_1_r6 : R49 C49.r.r.r.b.b.r.r.l.b.r (S49_4 i_ j_ c2_ c3_ c4_ c5_ c7_ s557) q = Option.bind (kern_conv_1_1_r6_p i_ j_ c2_ c3_ c4_ c5_ c7_ s557) (fun y561 : Int => q .normal (S49_5 i_ j_ c2_ c3_ c4_ c5_ c7_ s557 y561)) := .trans (by kernel_rfl) (bind_b fun y560 => (bif_b (bif_b some_b none_b) none_b))
theorem kern_conv_1_1_r7 : R49 C49.r.r.r.b.b.r.r.r (S49_5 i_ j_ c2_ c3_ c4_ c5_ c7_ s557 y561) q = q .normal ⟨[(3, rC tsNode c3_), (6, rF 0), (7, rC tspane c7_), (10, ri ((kern_conv_1_1_r0_p i_ j_ c2_ c3_ c4_ c5_).1)), (11, ri ((kern_conv_1_1_r0_p i_ j_ c2_ c3_ c4_ c5_).2.1)), (12, ri ((kern_conv_1_1_r0_p i_ j_ c2_ c3_ c4_ c5_).2.2)), (63, ri c7_.2.2.1), (64, ri (IntKind.wrap .i64 (s557.1 + 1)))], [[di y561]], [], 89⟩ := by kernel_rfl
def kern_conv_1_1_l4_p : Option ((Int × Int) ⊕ (Int × Int)) := (bif (decide (s557.1 < c7_.2.2.1)) then (Option.bind (kern_conv_1_1_r6_p i_ j_ c2_ c3_ c4_ c5_ c7_ s557) (fun y561 : Int => (some (Sum.inl ((IntKind.wrap .i64 (s557.1 + 1)), y561))))) else (some (Sum.inr s557)))
abbrev S49_6 (y562 : (Int × Int)) : St := ⟨[(3, rC tsNode c3_), (6, rF 0), (7, rC tspane c7_), (10, ri ((kern_conv_1_1_r0_p i_ j_ c2_ c3_ c4_ c5_).1)), (11, ri ((kern_conv_1_1_r0_p i_ j_ c2_ c3_ c4_ c5_).2.1)), (12, ri ((kern_conv_1_1_r0_p i_ j_ c2_ c3_ c4_ c5_).2.2)), (63, ri c7_.2.2.1), (64, ri y562.1)], [[di y562.2]], [], 89⟩
theorem kern_conv_1_1_l4_b : R49 C49.r.r.r.b.b (S49_3 i_ j_ c2_ c3_ c4_ c5_ c7_ s557) (loopKont 1 q) = Option.bind (kern_conv_1_1_l4_p i_ j_ c2_ c3_ c4_ c5_ c7_ s557) (either (fun y : (Int × Int) => q .normal ⟨[(3, rC tsNode c3_), (6, rF 0), (7, rC tspane c7_), (10, ri ((kern_conv_1_1_r0_p i_ j_ c2_ c3_ c4_ c5_).1)), (11, ri ((kern_conv_1_1_r0_p i_ j_ c2_ c3_ c4_ c5_).2.1)), (12, ri ((kern_conv_1_1_r0_p i_ j_ c2_ c3_ c4_ c5_).2.2)), (63, ri c7_.2.2.1), (64, ri y.1)], [[di y.2]], [], 89⟩) (fun y562 : (Int × Int) => q (.exit 0) (S49_6 i_ j_ c2_ c3_ c4_ c5_ c7_ y562))) := by
  refine .trans ?_ (bif_b (bind_b fun y561 => e2_0) e2_1)
  refine (pre1 (kern_conv_1_1_fz i_ j_ c2_ c3_ c4_ c5_ c7_ s557 _)).trans ?_
  refine .trans seq_push ?_
  refine (cond_e (b := (decide (s557.1 < c7_.2.2.1))) (st' := (S49_3 i_ j_ c2_ c3_ c4_ c5_ c7_ s557)) ).trans (bif_g ?_ ?_)
  · refine (skip_eq).trans ?_
    refine (seqC_normal (st' := (S49_3 i_ j_ c2_ c3_ c4_ c5_ c7_ s557))).trans ?_
    refine .trans seq_push ?_
    refine (block_push (id := 1)).trans ?_
    refine (pre1 (kern_conv_1_1_f6 i_ j_ c2_ c3_ c4_ c5_ c7_ s557 _)).trans ?_
    refine (kern_conv_1_1_r6 i_ j_ c2_ c3_ c4_ c5_ c7_ s557 _).trans (bind_g fun y561 => ?_)
    refine block_normal.trans ?_
    refine (seqC_normal (st' := (S49_5 i_ j_ c2_ c3_ c4_ c5_ c7_ s557 y561))).trans ?_
    refine (kern_conv_1_1_r7 i_ j_ c2_ c3_ c4_ c5_ c7_ s557 y561 _).trans ?_
    kernel_rfl
  · refine ((exit_eq (j := 0))).trans ?_
    refine seqC_exit.trans ?_
    kernel_rfl
theorem kern_conv_1_1_l4 : R49 C49.r.r.r.b (S49_2 i_ j_ c2_ c3_ c4_ c5_ c7_ c8_) q = Option.bind (iterN (kern_conv_1_1_l4_p i_ j_ c2_ c3_ c4_ c5_ c7_) LL ((0 : Int), c8_)) (fun y562 : (Int × Int) => q (.exit 0) (S49_6 i_ j_ c2_ c3_ c4_ c5_ c7_ y562)) :=
  Eq.trans (by kernel_rfl) (loop_iter1 (S := fun s557 : (Int × Int) => (S49_3 i_ j_ c2_ c3_ c4_ c5_ c7_ s557)) (Y1 := fun y562 : (Int × Int) => ((.exit 0), (S49_6 i_ j_ c2_ c3_ c4_ c5_ c7_ y562))) (fun s q => kern_conv_1_1_l4_b i_ j_ c2_ c3_ c4_ c5_ c7_ s q) (fun z => rfl) LL ((0 : Int), c8_))
/-- quilt/kern.conv$1$1 -/
def kern_conv_1_1 : Option Int := (bif (c3_.1 == 2) then (Option.bind (kern_conv_1_1_r2_p i_ j_ c2_ c3_ c4_ c5_ c7_ c8_) (fun y551 : Int => (some y551))) else (Option.bind (iterN (kern_conv_1_1_l4_p i_ j_ c2_ c3_ c4_ c5_ c7_) LL ((0 : Int), c8_)) (fun y562 : (Int × Int) => (some y562.2))))
theorem kern_conv_1_1_is (k : R → Heap → Option α) : callBody E cp49 noE α 83 [ri i_, ri j_, .one (.cell [di c2_]), rC tsNode c3_, .one (.cell [di c4_]), .one (.cell [di c5_]), rF 0, rC tspane c7_] [[di c8_]] k = Option.bind (kern_conv_1_1 i_ j_ c2_ c3_ c4_ c5_ c7_ c8_) (fun y : Int => k (.tup []) [[di y]]) := by
  refine .trans ?_ (bif_b (bind_b fun y551 => some_b) (bind_b fun y562 => some_b))
  refine (body_is (nt := 89) (regs := [(0, ri i_), (1, ri j_), (2, .one (.cell [di c2_])), (3, rC tsNode c3_), (4, .one (.cell [di c4_])), (5, .one (.cell [di c5_])), (6, rF 0), (7, rC tspane c7_)]) (by kernel_rfl) (by kernel_rfl)).trans ?_
  refine (pre1 (kern_conv_1_1_r0 i_ j_ c2_ c3_ c4_ c5_ c7_ c8_ _)).trans ?_
  refine .trans seq_push ?_
  refine (pre1 (kern_conv_1_1_f1000002 i_ j_ c2_ c3_ c4_ c5_ c7_ c8_ _)).trans ?_
  refine (cond_e (b := (c3_.1 == 2)) (st' := (S49_0 i_ j_ c2_ c3_ c4_ c5_ c7_ c8_)) ).trans (bif_g ?_ ?_)
  · refine (pre1 (kern_conv_1_1_r2 i_ j_ c2_ c3_ c4_ c5_ c7_ c8_ _)).trans (bind_g fun y551 => ?_)
    refine (ret_eq).trans ?_
    refine seqC_ret.trans ?_
    kernel_rfl
  · refine (skip_eq).trans ?_
    refine (seqC_normal (st' := (S49_1 i_ j_ c2_ c3_ c4_ c5_ c7_ c8_))).trans ?_
    refine (pre1 (kern_conv_1_1_f4 i_ j_ c2_ c3_ c4_ c5_ c7_ c8_ _)).trans ?_
    refine (block_push (id := 0)).trans ?_
    refine (kern_conv_1_1_l4 i_ j_ c2_ c3_ c4_ c5_ c7_ c8_ _).trans (bind_g fun y562 => ?_)
    refine block_same.trans ?_
    kernel_rfl
noncomputable def ce1 : CallE := withE noE 83 (decA [pI, pI, (.one (.cell (.cons (.g (.int .i64)) .nil))), (.one (.cell (.cons (.g (.int .i64)) (.cons (.g (.sl (.one (.int .i64)))) (.cons (.g (.int .i64)) (.cons (.g (.int .i64)) (.cons (.g (.int .i64)) (.cons (.g (.int .i64)) (.cons (.g (.int .i64)) (.cons (.g (.int .i64)) (.cons (.g (.int .i64)) (.cons (.g (.int .i64)) (.cons (.g (.int .i64)) (.cons (.g (.int .i64)) (.cons (.g (.sl (.one (.int .i8)))) (.cons (.g (.sl (.one (.int .i32)))) .nil)))))))))))))))), (.one (.cell (.cons (.g (.int .i64)) .nil))), (.one (.cell (.cons (.g (.int .i64)) .nil))), (.one (.ref 0 0)), (.one (.cell (.cons (.g (.int .i64)) (.cons (.g (.int .i64)) (.cons (.g (.int .i64)) (.cons (.g (.int .i64)) (.cons (.g (.int .i64)) (.cons (.g (.int .i64)) (.cons (.g (.sl (.one (.int .i8)))) .nil)))))))))] [(.cons (.g (.int .i64)) .nil)]) .unit (fun y : Int => ()) (fun x y => [[di y]]) (fun x => kern_conv_1_1 x.1.1 x.1.2.1 x.1.2.2.1.1 (x.1.2.2.2.1.1, x.1.2.2.2.1.2.1, x.1.2.2.2.1.2.2.1, x.1.2.2.2.1.2.2.2.1, x.1.2.2.2.1.2.2.2.2.1, x.1.2.2.2.1.2.2.2.2.2.1, x.1.2.2.2.1.2.2.2.2.2.2.1, x.1.2.2.2.1.2.2.2.2.2.2.2.1, x.1.2.2.2.1.2.2.2.2.2.2.2.2.1, x.1.2.2.2.1.2.2.2.2.2.2.2.2.2.1, x.1.2.2.2.1.2.2.2.2.2.2.2.2.2.2.1, x.1.2.2.2.1.2.2.2.2.2.2.2.2.2.2.2.1, x.1.2.2.2.1.2.2.2.2.2.2.2.2.2.2.2.2.1, x.1.2.2.2.1.2.2.2.2.2.2.2.2.2.2.2.2.2.1) x.1.2.2.2.2.1.1 x.1.2.2.2.2.2.1.1 (x.1.2.2.2.2.2.2.2.1.1, x.1.2.2.2.2.2.2.2.1.2.1, x.1.2.2.2.2.2.2.2.1.2.2.1, x.1.2.2.2.2.2.2.2.1.2.2.2.1, x.1.2.2.2.2.2.2.2.1.2.2.2.2.1, x.1.2.2.2.2.2.2.2.1.2.2.2.2.2.1, x.1.2.2.2.2.2.2.2.1.2.2.2.2.2.2.1) x.2.1.1)
theorem ce1_ok : EffOK E ce1 := conE eok cp49_ok noE_ok fun α x k => Eq.mp (by kernel_rfl) (kern_conv_1_1_is x.1.1 x.1.2.1 x.1.2.2.1.1 (x.1.2.2.2.1.1, x.1.2.2.2.1.2.1, x.1.2.2.2.1.2.2.1, x.1.2.2.2.1.2.2.2.1, x.1.2.2.2.1.2.2.2.2.1, x.1.2.2.2.1.2.2.2.2.2.1, x.1.2.2.2.1.2.2.2.2.2.2.1, x.1.2.2.2.1.2.2.2.2.2.2.2.1, x.1.2.2.2.1.2.2.2.2.2.2.2.2.1, x.1.2.2.2.1.2.2.2.2.2.2.2.2.2.1, x.1.2.2.2.1.2.2.2.2.2.2.2.2.2.2.1, x.1.2.2.2.1.2.2.2.2.2.2.2.2.2.2.2.1, x.1.2.2.2.1.2.2.2.2.2.2.2.2.2.2.2.2.1, x.1.2.2.2.1.2.2.2.2.2.2.2.2.2.2.2.2.2.1) x.1.2.2.2.2.1.1 x.1.2.2.2.2.2.1.1 (x.1.2.2.2.2.2.2.2.1.1, x.1.2.2.2.2.2.2.2.1.2.1, x.1.2.2.2.2.2.2.2.1.2.2.1, x.1.2.2.2.2.2.2.2.1.2.2.2.1, x.1.2.2.2.2.2.2.2.1.2.2.2.2.1, x.1.2.2.2.2.2.2.2.1.2.2.2.2.2.1, x.1.2.2.2.2.2.2.2.1.2.2.2.2.2.2.1) x.2.1.1 k)
end
section
variable {α : Type} (k_ : Int) (do_ : Int) (do_' : Node) (do_'' : Int) (do_''' : Int) (do_'''' : pane) (c2_ : Int) (s576 : (Int × Int)) (s587 : (Int × Int)) (y589 : Int) (y590 : (Int × Int)) (k : St → Option α) (q : Kont α)
noncomputable abbrev C50 := codeOf E.P 82
noncomputable abbrev P50 := @preK α E 82 cp49 ce1
noncomputable abbrev R50 := @runCode α E 82 cp49 ce1
abbrev S50_0 : St := ⟨[(0, ri k_), (1, .one (.fn 83 [.cell [di do_], .cell (tsNode.leaves do_'), .cell [di do_''], .cell [di do_'''], .ref 0 0, .cell (tspane.leaves do_'''')])), (6, ri k_), (7, ri 0)], [[di c2_]], [], 20⟩
theorem kern_slide_f1 : P50 1 C50 ⟨[(0, ri k_), (1, .one (.fn 83 [.cell [di do_], .cell (tsNode.leaves do_'), .cell [di do_''], .cell [di do_'''], .ref 0 0, .cell (tspane.leaves do_'''')]))], [[di c2_]], [], 20⟩ k = k (S50_0 k_ do_ do_' do_'' do_''' do_'''' c2_) := by kernel_rfl
abbrev S50_1 : St := ⟨[(0, ri k_), (1, .one (.fn 83 [.cell [di do_], .cell (tsNode.leaves do_'), .cell [di do_''], .cell [di do_'''], .ref 0 0, .cell (tspane.leaves do_'''')])), (6, ri k_), (7, ri s576.1)], [[di s576.2]], [], 20⟩
theorem kern_slide_fz : P50 1 C50.r.b.b (S50_1 k_ do_ do_' do_'' do_''' do_'''' s576) k = k ⟨[(0, ri k_), (1, .one (.fn 83 [.cell [di do_], .cell (tsNode.leaves do_'), .cell [di do_''], .cell [di do_'''], .ref 0 0, .cell (tspane.leaves do_'''')])), (6, ri k_), (7, ri s576.1), (8, rb (decide (s576.1 < k_)))], [[di s576.2]], [], 20⟩ := by kernel_rfl
abbrev S50_2 : St := ⟨[(0, ri k_), (1, .one (.fn 83 [.cell [di do_], .cell (tsNode.leaves do_'), .cell [di do_''], .cell [di do_'''], .ref 0 0, .cell (tspane.leaves do_'''')])), (4, ri s576.1), (6, ri k_), (7, ri s576.1), (10, ri k_), (11, ri 0)], [[di s576.2]], [], 20⟩
theorem kern_slide_f4 : P50 2 C50.r.b.b.r.r.l.b (S50_1 k_ do_ do_' do_'' do_''' do_'''' s576) k = k (S50_2 k_ do_ do_' do_'' do_''' do_'''' s576) := by kernel_rfl
abbrev S50_3 : St := ⟨[(0, ri k_), (1, .one (.fn 83 [.cell [di do_], .cell (tsNode.leaves do_'), .cell [di do_''], .cell [di do_'''], .ref 0 0, .cell (tspane.leaves do_'''')])), (4, ri s576.1), (6, ri k_), (7, ri s576.1), (10, ri k_), (11, ri s587.1)], [[di s587.2]], [], 20⟩
theorem kern_slide_fzx1 : P50 1 C50.r.b.b.r.r.l.b.r.r.b.b (S50_3 k_ do_ do_' do_'' do_''' do_'''' s576 s587) k = k ⟨[(0, ri k_), (1, .one (.fn 83 [.cell [di do_], .cell (tsNode.leaves do_'), .cell [di do_''], .cell [di do_'''], .ref 0 0, .cell (tspane.leaves do_'''')])), (4, ri s576.1), (6, ri k_), (7, ri s576.1), (10, ri k_), (11, ri s587.1), (12, rb (decide (s587.1 < k_)))], [[di s587.2]], [], 20⟩ := by kernel_rfl
abbrev S50_4 : St := ⟨[(0, ri k_), (1, .one (.fn 83 [.cell [di do_], .cell (tsNode.leaves do_'), .cell [di do_''], .cell [di do_'''], .ref 0 0, .cell (tspane.leaves do_'''')])), (4, ri s576.1), (5, ri s587.1), (6, ri k_), (7, ri s576.1), (10, ri k_), (11, ri s587.1)], [[di s587.2]], [], 20⟩
theorem kern_slide_f6 : P50 1 C50.r.b.b.r.r.l.b.r.r.b.b.r.r.l.b (S50_3 k_ do_ do_' do_'' do_''' do_'''' s576 s587) k = k (S50_4 k_ do_ do_' do_'' do_''' do_'''' s576 s587) := by kernel_rfl
abbrev S50_5 : St := ⟨[(0, ri k_), (1, .one (.fn 83 [.cell [di do_], .cell (tsNode.leaves do_'), .cell [di do_''], .cell [di do_'''], .ref 0 0, .cell (tspane.leaves do_'''')])), (4, ri s576.1), (6, ri k_), (7, ri s576.1), (10, ri k_), (11, ri s587.1)], [[di y589]], [], 20⟩
theorem kern_slide_r6 : R50 C50.r.b.b.r.r.l.b.r.r.b.b.r.r.l.b.r (S50_4 k_ do_ do_' do_'' do_''' do_'''' s576 s587) q = Option.bind (kern_conv_1_1 s576.1 s587.1 do_ do_' do_'' do_''' do_'''' s587.2) fun y589 : Int => q .normal (S50_5 k_ do_ do_' do_'' do_''' do_'''' s576 s587 y589) := by kernel_rfl
theorem kern_slide_r7 : R50 C50.r.b.b.r.r.l.b.r.r.b.b.r.r.r (S50_5 k_ do_ do_' do_'' do_''' do_'''' s576 s587 y589) q = q .normal ⟨[(0, ri k_), (1, .one (.fn 83 [.cell [di do_], .cell (tsNode.leaves do_'), .cell [di do_''], .cell [di do_'''], .ref 0 0, .cell (tspane.leaves do_'''')])), (4, ri s576.1), (6, ri k_), (7, ri s576.1), (10, ri k_), (11, ri (IntKind.wrap .i64 (s587.1 + 1)))], [[di y589]], [], 20⟩ := by kernel_rfl
def kern_slide_l4_p : Option ((Int × Int) ⊕ (Int × Int)) := (bif (decide (s587.1 < k_)) then (Option.bind (kern_conv_1_1 s576.1 s587.1 do_ do_' do_'' do_''' do_'''' s587.2) (fun y589 : Int => (some (Sum.inl ((IntKind.wrap .i64 (s587.1 + 1)), y589))))) else (some (Sum.inr s587)))
abbrev S50_6 : St := ⟨[(0, ri k_), (1, .one (.fn 83 [.cell [di do_], .cell (tsNode.leaves do_'), .cell [di do_''], .cell [di do_'''], .ref 0 0, .cell (tspane.leaves do_'''')])), (4, ri s576.1), (6, ri k_), (7, ri s576.1), (10, ri k_), (11, ri y590.1)], [[di y590.2]], [], 20⟩
theorem kern_slide_l4_b : R50 C50.r.b.b.r.r.l.b.r.r.b.b (S50_3 k_ do_ do_' do_'' do_''' do_'''' s576 s587) (loopKont 1 q) = Option.bind (kern_slide_l4_p k_ do_ do_' do_'' do_''' do_'''' s576 s587) (either (fun y : (Int × Int) => q .normal ⟨[(0, ri k_), (1, .one (.fn 83 [.cell [di do_], .cell (tsNode.leaves do_'), .cell [di do_''], .cell [di do_'''], .ref 0 0, .cell (tspane.leaves do_'''')])), (4, ri s576.1), (6, ri k_), (7, ri s576.1), (10, ri k_), (11, ri y.1)], [[di y.2]], [], 20⟩) (fun y590 : (Int × Int) => q (.exit 2) (S50_6 k_ do_ do_' do_'' do_''' do_'''' s576 y590))) := by
  refine .trans ?_ (bif_b (bind_b fun y589 => e2_0) e2_1)
  refine (pre1 (kern_slide_fzx1 k_ do_ do_' do_'' do_''' do_'''' s576 s587 _)).trans ?_
  refine .trans seq_push ?_
  refine (cond_e (b := (decide (s587.1 < k_))) (st' := (S50_3 k_ do_ do_' do_'' do_''' do_'''' s576 s587)) ).trans (bif_g ?_ ?_)
  · refine (skip_eq).trans ?_
    refine (seqC_normal (st' := (S50_3 k_ do_ do_' do_'' do_''' do_'''' s576 s587))).trans ?_
    refine .trans seq_push ?_
    refine (block_push (id := 3)).trans ?_
    refine (pre1 (kern_slide_f6 k_ do_ do_' do_'' do_''' do_'''' s576 s587 _)).trans ?_
    refine (kern_slide_r6 k_ do_ do_' do_'' do_''' do_'''' s576 s587 _).trans (bind_g fun y589 => ?_)
    refine block_normal.trans ?_
    refine (seqC_normal (st' := (S50_5 k_ do_ do_' do_'' do_''' do_'''' s576 s587 y589))).trans ?_
    refine (kern_slide_r7 k_ do_ do_' do_'' do_''' do_'''' s576 s587 y589 _).trans ?_
    kernel_rfl
  · refine ((exit_eq (j := 2))).trans ?_
    refine seqC_exit.trans ?_
    kernel_rfl
theorem kern_slide_l4 : R50 C50.r.b.b.r.r.l.b.r.r.b (S50_2 k_ do_ do_' do_'' do_''' do_'''' s576) q = Option.bind (iterN (kern_slide_l4_p k_ do_ do_' do_'' do_''' do_'''' s576) LL ((0 : Int), s576.2)) (fun y590 : (Int × Int) => q (.exit 2) (S50_6 k_ do_ do_' do_'' do_''' do_'''' s576 y590)) :=
  Eq.trans (by kernel_rfl) (loop_iter1 (S := fun s587 : (Int × Int) => (S50_3 k_ do_ do_' do_'' do_''' do_'''' s576 s587)) (Y1 := fun y590 : (Int × Int) => ((.exit 2), (S50_6 k_ do_ do_' do_'' do_''' do_'''' s576 y590))) (fun s q => kern_slide_l4_b k_ do_ do_' do_'' do_''' do_'''' s576 s q) (fun z => rfl) LL ((0 : Int), s576.2))
abbrev S50_7 : St := ⟨[(0, ri k_), (1, .one (.fn 83 [.cell [di do_], .cell (tsNode.leaves do_'), .cell [di do_''], .cell [di do_'''], .ref 0 0, .cell (tspane.leaves do_'''')])), (6, ri k_), (7, ri s576.1)], [[di y590.2]], [], 20⟩
theorem kern_slide_r8 : R50 C50.r.b.b.r.r.r (S50_7 k_ do_ do_' do_'' do_''' do_'''' s576 y590) q = q .normal ⟨[(0, ri k_), (1, .one (.fn 83 [.cell [di do_], .cell (tsNode.leaves do_'), .cell [di do_''], .cell [di do_'''], .ref 0 0, .cell (tspane.leaves do_'''')])), (6, ri k_), (7, ri (IntKind.wrap .i64 (s576.1 + 1)))], [[di y590.2]], [], 20⟩ := by kernel_rfl
def kern_slide_l1_p : Option ((Int × Int) ⊕ (Int × Int)) := (bif (decide (s576.1 < k_)) then (Option.bind (iterN (kern_slide_l4_p k_ do_ do_' do_'' do_''' do_'''' s576) LL ((0 : Int), s576.2)) (fun y590 : (Int × Int) => (some (Sum.inl ((IntKind.wrap .i64 (s576.1 + 1)), y590.2))))) else (some (Sum.inr s576)))
abbrev S50_8 (y591 : (Int × Int)) : St := ⟨[(0, ri k_), (1, .one (.fn 83 [.cell [di do_], .cell (tsNode.leaves do_'), .cell [di do_''], .cell [di do_'''], .ref 0 0, .cell (tspane.leaves do_'''')])), (6, ri k_), (7, ri y591.1)], [[di y591.2]], [], 20⟩
theorem kern_slide_l1_b : R50 C50.r.b.b (S50_1 k_ do_ do_' do_'' do_''' do_'''' s576) (loopKont 1 q) = Option.bind (kern_slide_l1_p k_ do_ do_' do_'' do_''' do_'''' s576) (either (fun y : (Int × Int) => q .normal ⟨[(0, ri k_), (1, .one (.fn 83 [.cell [di do_], .cell (tsNode.leaves do_'), .cell [di do_''], .cell [di do_'''], .ref 0 0, .cell (tspane.leaves do_'''')])), (6, ri k_), (7, ri y.1)], [[di y.2]], [], 20⟩) (fun y591 : (Int × Int) => q (.exit 0) (S50_8 k_ do_ do_' do_'' do_''' do_'''' y591))) := by
  refine .trans ?_ (bif_b (bind_b fun y590 => e2_0) e2_1)
  refine (pre1 (kern_slide_fz k_ do_ do_' do_'' do_''' do_'''' s576 _)).trans ?_
  refine .trans seq_push ?_
  refine (cond_e (b := (decide (s576.1 < k_))) (st' := (S50_1 k_ do_ do_' do_'' do_''' do_'''' s576)) ).trans (bif_g ?_ ?_)
  · refine (skip_eq).trans ?_
    refine (seqC_normal (st' := (S50_1 k_ do_ do_' do_'' do_''' do_'''' s576))).trans ?_
    refine .trans seq_push ?_
    refine (block_push (id := 1)).trans ?_
    refine (pre2 (kern_slide_f4 k_ do_ do_' do_'' do_''' do_'''' s576 _)).trans ?_
    refine (block_push (id := 2)).trans ?_
    refine (kern_slide_l4 k_ do_ do_' do_'' do_''' do_'''' s576 _).trans (bind_g fun y590 => ?_)
    refine block_same.trans ?_
    refine block_normal.trans ?_
    refine (seqC_normal (st' := (S50_7 k_ do_ do_' do_'' do_''' do_'''' s576 y590))).trans ?_
    refine (kern_slide_r8 k_ do_ do_' do_'' do_''' do_'''' s576 y590 _).trans ?_
    kernel_rfl
  · refine ((exit_eq (j := 0))).trans ?_
    refine seqC_exit.trans ?_
    kernel_rfl
theorem kern_slide_l1 : R50 C50.r.b (S50_0 k_ do_ do_' do_'' do_''' do_'''' c2_) q = Option.bind (iterN (kern_slide_l1_p k_ do_ do_' do_'' do_''' do_'''') LL ((0 : Int), c2_)) (fun y591 : (Int × Int) => q (.exit 0) (S50_8 k_ do_ do_' do_'' do_''' do_'''' y591)) :=
  Eq.trans (by kernel_rfl) (loop_iter1 (S := fun s576 : (Int × Int) => (S50_1 k_ do_ do_' do_'' do_''' do_'''' s576)) (Y1 := fun y591 : (Int × Int) => ((.exit 0), (S50_8 k_ do_ do_' do_'' do_''' do_'''' y591))) (fun s q => kern_slide_l1_b k_ do_ do_' do_'' do_''' do_'''' s q) (fun z => rfl) LL ((0 : Int), c2_))
/-- quilt/kern.slide -/
def kern_slide : Option Int := (Option.bind (iterN (kern_slide_l1_p k_ do_ do_' do_'' do_''' do_'''') LL ((0 : Int), c2_)) (fun y591 : (Int × Int) => (some y591.2)))
theorem kern_slide_is (k : R → Heap → Option α) : callBody E cp49 ce1 α 82 [ri k_, .one (.fn 83 [.cell [di do_], .cell (tsNode.leaves do_'), .cell [di do_''], .cell [di do_'''], .ref 0 0, .cell (tspane.leaves do_'''')])] [[di c2_]] k = Option.bind (kern_slide k_ do_ do_' do_'' do_''' do_'''' c2_) (fun y : Int => k (.tup []) [[di y]]) := by
  refine .trans ?_ (bind_b fun y591 => some_b)
  refine (body_is (nt := 20) (regs := [(0, ri k_), (1, .one (.fn 83 [.cell [di do_], .cell (tsNode.leaves do_'), .cell [di do_''], .cell [di do_'''], .ref 0 0, .cell (tspane.leaves do_'''')]))]) (by kernel_rfl) (by kernel_rfl)).trans ?_
  refine (pre1 (kern_slide_f1 k_ do_ do_' do_'' do_''' do_'''' c2_ _)).trans ?_
  refine (block_push (id := 0)).trans ?_
  refine (kern_slide_l1 k_ do_ do_' do_'' do_''' do_'''' c2_ _).trans (bind_g fun y591 => ?_)
  refine block_same.trans ?_
  kernel_rfl
noncomputable def ce2 : CallE := withE ce1 82 (decA [pI, (.one (.fn 83 (.cons (.cell (.cons (.g (.int .i64)) .nil)) (.cons (.cell (.cons (.g (.int .i64)) (.cons (.g (.sl (.one (.int .i64)))) (.cons (.g (.int .i64)) (.cons (.g (.int .i64)) (.cons (.g (.int .i64)) (.cons (.g (.int .i64)) (.cons (.g (.int .i64)) (.cons (.g (.int .i64)) (.cons (.g (.int .i64)) (.cons (.g (.int .i64)) (.cons (.g (.int .i64)) (.cons (.g (.int .i64)) (.cons (.g (.sl (.one (.int .i8)))) (.cons (.g (.sl (.one (.int .i32)))) .nil))))))))))))))) (.cons (.cell (.cons (.g (.int .i64)) .nil)) (.cons (.cell (.cons (.g (.int .i64)) .nil)) (.cons (.ref 0 0) (.cons (.cell (.cons (.g (.int .i64)) (.cons (.g (.int .i64)) (.cons (.g (.int .i64)) (.cons (.g (.int .i64)) (.cons (.g (.int .i64)) (.cons (.g (.int .i64)) (.cons (.g (.sl (.one (.int .i8)))) .nil)))))))) .nil))))))))] [(.cons (.g (.int .i64)) .nil)]) .unit (fun y : Int => ()) (fun x y => [[di y]]) (fun x => kern_slide x.1.1 x.1.2.1.1.1 (x.1.2.1.2.1.1, x.1.2.1.2.1.2.1, x.1.2.1.2.1.2.2.1, x.1.2.1.2.1.2.2.2.1, x.1.2.1.2.1.2.2.2.2.1, x.1.2.1.2.1.2.2.2.2.2.1, x.1.2.1.2.1.2.2.2.2.2.2.1, x.1.2.1.2.1.2.2.2.2.2.2.2.1, x.1.2.1.2.1.2.2.2.2.2.2.2.2.1, x.1.2.1.2.1.2.2.2.2.2.2.2.2.2.1, x.1.2.1.2.1.2.2.2.2.2.2.2.2.2.2.1, x.1.2.1.2.1.2.2.2.2.2.2.2.2.2.2.2.1, x.1.2.1.2.1.2.2.2.2.2.2.2.2.2.2.2.2.1, x.1.2.1.2.1.2.2.2.2.2.2.2.2.2.2.2.2.2.1) x.1.2.1.2.2.1.1 x.1.2.1.2.2.2.1.1 (x.1.2.1.2.2.2.2.2.1.1, x.1.2.1.2.2.2.2.2.1.2.1, x.1.2.1.2.2.2.2.2.1.2.2.1, x.1.2.1.2.2.2.2.2.1.2.2.2.1, x.1.2.1.2.2.2.2.2.1.2.2.2.2.1, x.1.2.1.2.2.2.2.2.1.2.2.2.2.2.1, x.1.2.1.2.2.2.2.2.1.2.2.2.2.2.2.1) x.2.1.1)
theorem ce2_ok : EffOK E ce2 := conE eok cp49_ok ce1_ok fun α x k => Eq.mp (by kernel_rfl) (kern_slide_is x.1.1 x.1.2.1.1.1 (x.1.2.1.2.1.1, x.1.2.1.2.1.2.1, x.1.2.1.2.1.2.2.1, x.1.2.1.2.1.2.2.2.1, x.1.2.1.2.1.2.2.2.2.1, x.1.2.1.2.1.2.2.2.2.2.1, x.1.2.1.2.1.2.2.2.2.2.2.1, x.1.2.1.2.1.2.2.2.2.2.2.2.1, x.1.2.1.2.1.2.2.2.2.2.2.2.2.1, x.1.2.1.2.1.2.2.2.2.2.2.2.2.2.1, x.1.2.1.2.1.2.2.2.2.2.2.2.2.2.2.1, x.1.2.1.2.1.2.2.2.2.2.2.2.2.2.2.2.1, x.1.2.1.2.1.2.2.2.2.2.2.2.2.2.2.2.2.1, x.1.2.1.2.1.2.2.2.2.2.2.2.2.2.2.2.2.2.1) x.1.2.1.2.2.1.1 x.1.2.1.2.2.2.1.1 (x.1.2.1.2.2.2.2.2.1.1, x.1.2.1.2.2.2.2.2.1.2.1, x.1.2.1.2.2.2.2.2.1.2.2.1, x.1.2.1.2.2.2.2.2.1.2.2.2.1, x.1.2.1.2.2.2.2.2.1.2.2.2.2.1, x.1.2.1.2.2.2.2.2.1.2.2.2.2.2.1, x.1.2.1.2.2.2.2.2.1.2.2.2.2.2.2.1) x.2.1.1 k)
end
section
variable {α β : Type} (low : Int) (high : Int) (k : St → Option α)
noncomputable abbrev C51 := codeOf E.P 93
noncomputable abbrev P51 := @preK α E 93 cp49 ce2
theorem fixed_held_fz : P51 2 C51 ⟨[(0, ri low), (1, ri high)], [], [], 6⟩ k = k ⟨[(4, .one (.fn 94 [.cell [di low], .cell [di high]]))], [], [], 6⟩ := by kernel_rfl
/-- quilt/fixed.held -/
def fixed_held_q (K : ((Int × Unit) × (Int × Unit) × Unit) → β) : β := (K ((low, ()), (high, ()), ()))
def fixed_held : ((Int × Unit) × (Int × Unit) × Unit) := fixed_held_q low high (fun y => y)
theorem fixed_held_n (K : ((Int × Unit) × (Int × Unit) × Unit) → β) : fixed_held_q low high K = K (fixed_held low high) := rfl
theorem fixed_held_is : stepS E cp49 ce2 93 [ri low, ri high] = (fun y : ((Int × Unit) × (Int × Unit) × Unit) => some (.one (.fn 94 [.cell [di y.1.1], .cell [di y.2.1.1]]) : R)) (fixed_held low high) := by
  refine Eq.trans ?_ (fixed_held_n low high (fun y : ((Int × Unit) × (Int × Unit) × Unit) => some (.one (.fn 94 [.cell [di y.1.1], .cell [di y.2.1.1]]) : R)))
  refine (stepG_is (nt := 6) (regs := [(0, ri low), (1, ri high)])).trans ?_
  unfold fixed_held_q
  refine (pre2 (fixed_held_fz low high _)).trans ?_
  refine (ret_eq).trans ?_
  kernel_rfl
noncomputable def cp50 : CallP := withC cp49 93 [pI, pI] (.one (.one (.fn 94 (.cons (.cell (.cons (.g (.int .i64)) .nil)) (.cons (.cell (.cons (.g (.int .i64)) .nil)) .nil))))) (fun y : ((Int × Unit) × (Int × Unit) × Unit) => y) (fun x => some (fixed_held x.1 x.2.1))
theorem cp50_ok : PureOK E cp50 := conS eok cp49_ok ce2_ok fun x => Eq.mp (by kernel_rfl) (fixed_held_is x.1 x.2.1)
end
section
variable {α β : Type} (x_ : Int) (c1_ : Int) (c2_ : Int) (k : St → Option α)
noncomputable abbrev C52 := codeOf E.P 94
noncomputable abbrev P52 := @preK α E 94 cp50 ce2
theorem fixed_held_1_fz : P52 2 C52 ⟨[(0, ri x_), (1, .one (.cell [di c1_])), (2, .one (.cell [di c2_]))], [], [], 10⟩ k = k ⟨[(4, ri (min (max x_ c1_) c2_))], [], [], 10⟩ := by kernel_rfl
/-- quilt/fixed.held$1 -/
def fixed_held_1_q (K : Int → β) : β := (K (min (max x_ c1_) c2_))
def fixed_held_1 : Int := fixed_held_1_q x_ c1_ c2_ (fun y => y)
theorem fixed_held_1_n (K : Int → β) : fixed_held_1_q x_ c1_ c2_ K = K (fixed_held_1 x_ c1_ c2_) := rfl
theorem fixed_held_1_is : stepS E cp50 ce2 94 [ri x_, .one (.cell [di c1_]), .one (.cell [di c2_])] = (fun y : Int => some (ri y : R)) (fixed_held_1 x_ c1_ c2_) := by
  refine Eq.trans ?_ (fixed_held_1_n x_ c1_ c2_ (fun y : Int => some (ri y : R)))
  refine (stepG_is (nt := 10) (regs := [(0, ri x_), (1, .one (.cell [di c1_])), (2, .one (.cell [di c2_]))])).trans ?_
  unfold fixed_held_1_q
  refine (pre2 (fixed_held_1_fz x_ c1_ c2_ _)).trans ?_
  refine (ret_eq).trans ?_
  kernel_rfl
noncomputable def cp51 : CallP := withC cp50 94 [pI, (.one (.cell (.cons (.g (.int .i64)) .nil))), (.one (.cell (.cons (.g (.int .i64)) .nil)))] (.one pI) (fun y : Int => y) (fun x => some (fixed_held_1 x.1 x.2.1.1 x.2.2.1.1))
theorem cp51_ok : PureOK E cp51 := conS eok cp50_ok ce2_ok fun x => Eq.mp (by kernel_rfl) (fixed_held_1_is x.1 x.2.1.1 x.2.2.1.1)
end
noncomputable abbrev C53 := codeOf E.P 90
noncomputable abbrev P53 {α : Type} := @preK α E 90 cp51 ce2
def fixed_Clamp_r1_q {β : Type} (x_ : Int) (K : Int → β) : β := (K (fixed_held_1 x_ (((fixed_held (-128 : Int) (127 : Int)).1).1) (((fixed_held (-128 : Int) (127 : Int)).2.1).1)))
def fixed_Clamp_r1_p (x_ : Int) : Int := fixed_Clamp_r1_q x_ (fun y => y)
theorem fixed_Clamp_r1_n {β : Type} (x_ : Int) (K : Int → β) : fixed_Clamp_r1_q x_ K = K (fixed_Clamp_r1_p x_) := rfl
theorem fixed_Clamp_r1 {α : Type} (x_ : Int) (k : St → Option α) : P53 2 C53 ⟨[(0, ri x_)], [], [], 6⟩ k = k ⟨[(2, ri (fixed_Clamp_r1_p x_))], [], [], 6⟩ := Eq.trans (by kernel_rfl) (fixed_Clamp_r1_n x_ (fun y593 : Int => k ⟨[(2, ri y593)], [], [], 6⟩))
/-- quilt/fixed.Clamp -/
def fixed_Clamp_q {β : Type} (x_ : Int) (K : Int → β) : β := (K (fixed_Clamp_r1_p x_))
def fixed_Clamp (x_ : Int) : Int := fixed_Clamp_q x_ (fun y => y)
theorem fixed_Clamp_n {β : Type} (x_ : Int) (K : Int → β) : fixed_Clamp_q x_ K = K (fixed_Clamp x_) := rfl
theorem fixed_Clamp_is (x_ : Int) : stepS E cp51 ce2 90 [ri x_] = (fun y : Int => some (ri y : R)) (fixed_Clamp x_) := by
  refine Eq.trans ?_ (fixed_Clamp_n x_ (fun y : Int => some (ri y : R)))
  refine (stepG_is (nt := 6) (regs := [(0, ri x_)])).trans ?_
  unfold fixed_Clamp_q
  refine (pre2 (fixed_Clamp_r1 x_ _)).trans ?_
  refine (ret_eq).trans ?_
  kernel_rfl
noncomputable def cp52 : CallP := withC cp51 90 [pI] (.one pI) (fun y : Int => y) (fun x => some (fixed_Clamp x.1))
theorem cp52_ok : PureOK E cp52 := conS eok cp51_ok ce2_ok fun x => Eq.mp (by kernel_rfl) (fixed_Clamp_is x.1)
noncomputable abbrev C54 := codeOf E.P 92
noncomputable abbrev P54 {α : Type} := @preK α E 92 cp52 ce2
def fixed_Sat_r1_q {β : Type} (x_ : Int) (K : Int → β) : β := (K (fixed_held_1 x_ (((fixed_held (-2147483648 : Int) (2147483647 : Int)).1).1) (((fixed_held (-2147483648 : Int) (2147483647 : Int)).2.1).1)))
def fixed_Sat_r1_p (x_ : Int) : Int := fixed_Sat_r1_q x_ (fun y => y)
theorem fixed_Sat_r1_n {β : Type} (x_ : Int) (K : Int → β) : fixed_Sat_r1_q x_ K = K (fixed_Sat_r1_p x_) := rfl
theorem fixed_Sat_r1 {α : Type} (x_ : Int) (k : St → Option α) : P54 2 C54 ⟨[(0, ri x_)], [], [], 6⟩ k = k ⟨[(2, ri (fixed_Sat_r1_p x_))], [], [], 6⟩ := Eq.trans (by kernel_rfl) (fixed_Sat_r1_n x_ (fun y594 : Int => k ⟨[(2, ri y594)], [], [], 6⟩))
/-- quilt/fixed.Sat -/
def fixed_Sat_q {β : Type} (x_ : Int) (K : Int → β) : β := (K (fixed_Sat_r1_p x_))
def fixed_Sat (x_ : Int) : Int := fixed_Sat_q x_ (fun y => y)
theorem fixed_Sat_n {β : Type} (x_ : Int) (K : Int → β) : fixed_Sat_q x_ K = K (fixed_Sat x_) := rfl
theorem fixed_Sat_is (x_ : Int) : stepS E cp52 ce2 92 [ri x_] = (fun y : Int => some (ri y : R)) (fixed_Sat x_) := by
  refine Eq.trans ?_ (fixed_Sat_n x_ (fun y : Int => some (ri y : R)))
  refine (stepG_is (nt := 6) (regs := [(0, ri x_)])).trans ?_
  unfold fixed_Sat_q
  refine (pre2 (fixed_Sat_r1 x_ _)).trans ?_
  refine (ret_eq).trans ?_
  kernel_rfl
noncomputable def cp53 : CallP := withC cp52 92 [pI] (.one pI) (fun y : Int => y) (fun x => some (fixed_Sat x.1))
theorem cp53_ok : PureOK E cp53 := conS eok cp52_ok ce2_ok fun x => Eq.mp (by kernel_rfl) (fixed_Sat_is x.1)
def fixed_Div_lv0 (x_ : Int) (by_ : Int) : Option Int := none
noncomputable def cp54 : CallP := withC cp53 88 [(.one (.g (.int .i64))), (.one (.g (.int .i64)))] (.one (.one (.g (.int .i64)))) (fun y : Int => y) (fun x => fixed_Div_lv0 x.1 x.2.1)
theorem cp54_ok : PureOK E cp54 := withC_ok cp53_ok (stepS_ok eok cp53_ok ce2_ok) fun x y h => by cases h
section
variable {α : Type} (x_ : Int) (by_ : Int) (k : St → Option α)
noncomputable abbrev C56 := codeOf E.P 88
noncomputable abbrev P56 := @preK α E 88 cp54 ce2
abbrev S56_0 : St := ⟨[(0, ri x_), (1, ri (max by_ (1 : Int)))], [], [], 21⟩
theorem fixed_Div_lv1_f2 : P56 2 C56 ⟨[(0, ri x_), (1, ri by_)], [], [], 21⟩ k = k (S56_0 x_ by_) := by kernel_rfl
theorem fixed_Div_lv1_f1000003 : P56 1 C56.r.r.l (S56_0 x_ by_) k = k ⟨[(0, ri x_), (1, ri (max by_ (1 : Int))), (8, rb (decide (x_ < 0)))], [], [], 21⟩ := by kernel_rfl
theorem fixed_Div_lv1_r3 : P56 1 C56.r.r.l.r.t (S56_0 x_ by_) k = Option.bind (fixed_Div_lv0 (max (IntKind.wrap .i64 (0 - x_)) (0 : Int)) (max by_ (1 : Int))) fun y596 : Int => k ⟨[(4, ri (IntKind.wrap .i64 (0 - y596)))], [], [], 21⟩ := by kernel_rfl
def fixed_Div_lv1_r4_p : Option Int := (bif ((max by_ (1 : Int)) == 0) then none else (some (IntKind.wrap .i64 (Int.tdiv (IntKind.wrap .i64 (x_ + (IntKind.wrap .i64 (Int.tdiv (max by_ (1 : Int)) (2 : Int))))) (max by_ (1 : Int))))))
theorem fixed_Div_lv1_r4 : P56 1 C56.r.r.r (S56_0 x_ by_) k = Option.bind (fixed_Div_lv1_r4_p x_ by_) (fun y597 : Int => k ⟨[(4, ri y597)], [], [], 21⟩) := .trans (by kernel_rfl) (bif_b none_b some_b)
/-- quilt/fixed.Div -/
def fixed_Div_lv1 : Option Int := (bif (decide (x_ < 0)) then (Option.bind (fixed_Div_lv0 (max (IntKind.wrap .i64 (0 - x_)) (0 : Int)) (max by_ (1 : Int))) (fun y596 : Int => (some (IntKind.wrap .i64 (0 - y596))))) else (Option.bind (fixed_Div_lv1_r4_p x_ by_) (fun y597 : Int => (some y597))))
theorem fixed_Div_lv1_is : stepS E cp54 ce2 88 [ri x_, ri by_] = Option.bind (fixed_Div_lv1 x_ by_) (fun y : Int => some (ri y : R)) := by
  refine .trans ?_ (bif_b (bind_b fun y596 => some_b) (bind_b fun y597 => some_b))
  refine (stepG_is (nt := 21) (regs := [(0, ri x_), (1, ri by_)])).trans ?_
  refine (pre2 (fixed_Div_lv1_f2 x_ by_ _)).trans ?_
  refine .trans seq_push ?_
  refine (pre1 (fixed_Div_lv1_f1000003 x_ by_ _)).trans ?_
  refine (cond_e (b := (decide (x_ < 0))) (st' := (S56_0 x_ by_)) ).trans (bif_g ?_ ?_)
  · refine (pre1 (fixed_Div_lv1_r3 x_ by_ _)).trans (bind_g fun y596 => ?_)
    refine (ret_eq).trans ?_
    refine seqC_ret.trans ?_
    kernel_rfl
  · refine (skip_eq).trans ?_
    refine (seqC_normal (st' := (S56_0 x_ by_))).trans ?_
    refine (pre1 (fixed_Div_lv1_r4 x_ by_ _)).trans (bind_g fun y597 => ?_)
    refine (ret_eq).trans ?_
    kernel_rfl
noncomputable def cp55 : CallP := withC cp54 88 [pI, pI] (.one pI) (fun y : Int => y) (fun x => fixed_Div_lv1 x.1 x.2.1)
theorem cp55_ok : PureOK E cp55 := conS eok cp54_ok ce2_ok fun x => Eq.mp (by kernel_rfl) (fixed_Div_lv1_is x.1 x.2.1)
end
section
variable {α : Type} (x_ : Int) (by_ : Int) (k : St → Option α)
noncomputable abbrev C57 := codeOf E.P 88
noncomputable abbrev P57 := @preK α E 88 cp55 ce2
abbrev S57_0 : St := ⟨[(0, ri x_), (1, ri (max by_ (1 : Int)))], [], [], 21⟩
theorem fixed_Div_f2 : P57 2 C57 ⟨[(0, ri x_), (1, ri by_)], [], [], 21⟩ k = k (S57_0 x_ by_) := by kernel_rfl
theorem fixed_Div_f1000003 : P57 1 C57.r.r.l (S57_0 x_ by_) k = k ⟨[(0, ri x_), (1, ri (max by_ (1 : Int))), (8, rb (decide (x_ < 0)))], [], [], 21⟩ := by kernel_rfl
theorem fixed_Div_r3 : P57 1 C57.r.r.l.r.t (S57_0 x_ by_) k = Option.bind (fixed_Div_lv1 (max (IntKind.wrap .i64 (0 - x_)) (0 : Int)) (max by_ (1 : Int))) fun y599 : Int => k ⟨[(4, ri (IntKind.wrap .i64 (0 - y599)))], [], [], 21⟩ := by kernel_rfl
def fixed_Div_r4_p : Option Int := (bif ((max by_ (1 : Int)) == 0) then none else (some (IntKind.wrap .i64 (Int.tdiv (IntKind.wrap .i64 (x_ + (IntKind.wrap .i64 (Int.tdiv (max by_ (1 : Int)) (2 : Int))))) (max by_ (1 : Int))))))
theorem fixed_Div_r4 : P57 1 C57.r.r.r (S57_0 x_ by_) k = Option.bind (fixed_Div_r4_p x_ by_) (fun y600 : Int => k ⟨[(4, ri y600)], [], [], 21⟩) := .trans (by kernel_rfl) (bif_b none_b some_b)
/-- quilt/fixed.Div -/
def fixed_Div : Option Int := (bif (decide (x_ < 0)) then (Option.bind (fixed_Div_lv1 (max (IntKind.wrap .i64 (0 - x_)) (0 : Int)) (max by_ (1 : Int))) (fun y599 : Int => (some (IntKind.wrap .i64 (0 - y599))))) else (Option.bind (fixed_Div_r4_p x_ by_) (fun y600 : Int => (some y600))))
theorem fixed_Div_is : stepS E cp55 ce2 88 [ri x_, ri by_] = Option.bind (fixed_Div x_ by_) (fun y : Int => some (ri y : R)) := by
  refine .trans ?_ (bif_b (bind_b fun y599 => some_b) (bind_b fun y600 => some_b))
  refine (stepG_is (nt := 21) (regs := [(0, ri x_), (1, ri by_)])).trans ?_
  refine (pre2 (fixed_Div_f2 x_ by_ _)).trans ?_
  refine .trans seq_push ?_
  refine (pre1 (fixed_Div_f1000003 x_ by_ _)).trans ?_
  refine (cond_e (b := (decide (x_ < 0))) (st' := (S57_0 x_ by_)) ).trans (bif_g ?_ ?_)
  · refine (pre1 (fixed_Div_r3 x_ by_ _)).trans (bind_g fun y599 => ?_)
    refine (ret_eq).trans ?_
    refine seqC_ret.trans ?_
    kernel_rfl
  · refine (skip_eq).trans ?_
    refine (seqC_normal (st' := (S57_0 x_ by_))).trans ?_
    refine (pre1 (fixed_Div_r4 x_ by_ _)).trans (bind_g fun y600 => ?_)
    refine (ret_eq).trans ?_
    kernel_rfl
noncomputable def cp56 : CallP := withC cp55 88 [pI, pI] (.one pI) (fun y : Int => y) (fun x => fixed_Div x.1 x.2.1)
theorem cp56_ok : PureOK E cp56 := conS eok cp55_ok ce2_ok fun x => Eq.mp (by kernel_rfl) (fixed_Div_is x.1 x.2.1)
end
section
variable {α : Type} (x_ : Int) (shift : Int) (k : St → Option α)
noncomputable abbrev C58 := codeOf E.P 91
noncomputable abbrev P58 := @preK α E 91 cp56 ce2
def fixed_Shift_r1_p : Option Int := (bif (decide ((0:Int) ≤ (fixed_held_1 shift (((fixed_held (0 : Int) (31 : Int)).1).1) (((fixed_held (0 : Int) (31 : Int)).2.1).1)))) then (Option.bind (fixed_Div x_ (IntKind.wrap .i64 ((1 : Int) * 2 ^ min (Int.toNat (fixed_held_1 shift (((fixed_held (0 : Int) (31 : Int)).1).1) (((fixed_held (0 : Int) (31 : Int)).2.1).1))) (IntKind.bits .i64)))) (fun y601 : Int => (some y601))) else none)
theorem fixed_Shift_r1 : P58 2 C58 ⟨[(0, ri x_), (1, ri shift)], [], [], 11⟩ k = Option.bind (fixed_Shift_r1_p x_ shift) (fun y602 : Int => k ⟨[(4, ri y602)], [], [], 11⟩) := .trans (by kernel_rfl) (bif_b (bind_b fun y601 => some_b) none_b)
/-- quilt/fixed.Shift -/
def fixed_Shift : Option Int := (Option.bind (fixed_Shift_r1_p x_ shift) (fun y602 : Int => (some y602)))
theorem fixed_Shift_is : stepS E cp56 ce2 91 [ri x_, ri shift] = Option.bind (fixed_Shift x_ shift) (fun y : Int => some (ri y : R)) := by
  refine .trans ?_ (bind_b fun y602 => some_b)
  refine (stepG_is (nt := 11) (regs := [(0, ri x_), (1, ri shift)])).trans ?_
  refine (pre2 (fixed_Shift_r1 x_ shift _)).trans (bind_g fun y602 => ?_)
  refine (ret_eq).trans ?_
  kernel_rfl
noncomputable def cp57 : CallP := withC cp56 91 [pI, pI] (.one pI) (fun y : Int => y) (fun x => fixed_Shift x.1 x.2.1)
theorem cp57_ok : PureOK E cp57 := conS eok cp56_ok ce2_ok fun x => Eq.mp (by kernel_rfl) (fixed_Shift_is x.1 x.2.1)
end
section
variable {α : Type} (acc : Int) (mul : Int) (shift : Int) (zero : Int) (k : St → Option α)
noncomputable abbrev C59 := codeOf E.P 84
noncomputable abbrev P59 := @preK α E 84 cp57 ce2
theorem fixed_Scale_r1 : P59 2 C59 ⟨[(0, ri acc), (1, ri mul), (2, ri shift), (3, ri zero)], [], [], 21⟩ k = Option.bind (fixed_Shift (IntKind.wrap .i64 ((fixed_Sat acc) * (fixed_held_1 mul (((fixed_held (1 : Int) (32767 : Int)).1).1) (((fixed_held (1 : Int) (32767 : Int)).2.1).1)))) shift) fun y603 : Int => k ⟨[(8, ri (fixed_Clamp (IntKind.wrap .i64 ((fixed_Clamp zero) + y603))))], [], [], 21⟩ := by kernel_rfl
/-- quilt/fixed.Scale -/
def fixed_Scale : Option Int := (Option.bind (fixed_Shift (IntKind.wrap .i64 ((fixed_Sat acc) * (fixed_held_1 mul (((fixed_held (1 : Int) (32767 : Int)).1).1) (((fixed_held (1 : Int) (32767 : Int)).2.1).1)))) shift) (fun y603 : Int => (some (fixed_Clamp (IntKind.wrap .i64 ((fixed_Clamp zero) + y603))))))
theorem fixed_Scale_is : stepS E cp57 ce2 84 [ri acc, ri mul, ri shift, ri zero] = Option.bind (fixed_Scale acc mul shift zero) (fun y : Int => some (ri y : R)) := by
  refine .trans ?_ (bind_b fun y603 => some_b)
  refine (stepG_is (nt := 21) (regs := [(0, ri acc), (1, ri mul), (2, ri shift), (3, ri zero)])).trans ?_
  refine (pre2 (fixed_Scale_r1 acc mul shift zero _)).trans (bind_g fun y603 => ?_)
  refine (ret_eq).trans ?_
  kernel_rfl
noncomputable def cp58 : CallP := withC cp57 84 [pI, pI, pI, pI] (.one pI) (fun y : Int => y) (fun x => fixed_Scale x.1 x.2.1 x.2.2.1 x.2.2.2.1)
theorem cp58_ok : PureOK E cp58 := conS eok cp57_ok ce2_ok fun x => Eq.mp (by kernel_rfl) (fixed_Scale_is x.1 x.2.1 x.2.2.1 x.2.2.2.1)
end
section
variable {α : Type} (y_ : Int) (x_ : Int) (c_ : Int) (c3_ : Node) (c4_ : pane) (y592 : Int) (k : St → Option α)
noncomputable abbrev C60 := codeOf E.P 81
noncomputable abbrev P60 := @preK α E 81 cp58 ce2
def kern_conv_1_r1_p : Option Unit := (bif (decide ((0 : Int) ≤ c_)) then (bif (decide (c_ < (c3_.2.2.2.2.2.2.2.2.2.2.2.2.2.length : Int))) then (some ()) else none) else none)
abbrev S60_0 : St := ⟨[(3, rC tsNode c3_), (4, rC tspane c4_), (5, .one (.cell [di y_])), (6, .one (.cell [di x_])), (7, .one (.cell [di c_])), (9, rF 0)], [[di (IntKind.wrap .i64 (gt c3_.2.2.2.2.2.2.2.2.2.2.2.2.2 c_ (0 : Int)))]], [], 28⟩
theorem kern_conv_1_r1 : P60 2 C60 ⟨[(0, ri y_), (1, ri x_), (2, ri c_), (3, rC tsNode c3_), (4, rC tspane c4_)], [], [], 28⟩ k = Option.bind (kern_conv_1_r1_p c_ c3_) (fun y544 : Unit => k (S60_0 y_ x_ c_ c3_ c4_)) := .trans (by kernel_rfl) (bif_b (bif_b some_b none_b) none_b)
abbrev S60_1 : St := ⟨[(3, rC tsNode c3_), (9, rF 0)], [[di y592]], [], 28⟩
theorem kern_conv_1_r2 : P60 1 C60.r.r (S60_0 y_ x_ c_ c3_ c4_) k = Option.bind (kern_slide c3_.2.2.1 y_ c3_ x_ c_ c4_ (IntKind.wrap .i64 (gt c3_.2.2.2.2.2.2.2.2.2.2.2.2.2 c_ (0 : Int)))) fun y592 : Int => k (S60_1 c3_ y592) := by kernel_rfl
theorem kern_conv_1_r3 : P60 1 C60.r.r.r (S60_1 c3_ y592) k = Option.bind (fixed_Scale y592 c3_.2.2.2.2.2.2.1 c3_.2.2.2.2.2.2.2.1 c3_.2.2.2.2.2.2.2.2.1) fun y604 : Int => k ⟨[(8, ri y604)], [[]], [], 28⟩ := by kernel_rfl
/-- quilt/kern.conv$1 -/
def kern_conv_1 : Option Int := (Option.bind (kern_conv_1_r1_p c_ c3_) (fun y544 : Unit => (Option.bind (kern_slide c3_.2.2.1 y_ c3_ x_ c_ c4_ (IntKind.wrap .i64 (gt c3_.2.2.2.2.2.2.2.2.2.2.2.2.2 c_ (0 : Int)))) (fun y592 : Int => (Option.bind (fixed_Scale y592 c3_.2.2.2.2.2.2.1 c3_.2.2.2.2.2.2.2.1 c3_.2.2.2.2.2.2.2.2.1) (fun y604 : Int => (some y604)))))))
theorem kern_conv_1_is : stepS E cp58 ce2 81 [ri y_, ri x_, ri c_, rC tsNode c3_, rC tspane c4_] = Option.bind (kern_conv_1 y_ x_ c_ c3_ c4_) (fun y : Int => some (ri y : R)) := by
  refine .trans ?_ (bind_b fun y544 => (bind_b fun y592 => (bind_b fun y604 => some_b)))
  refine (stepG_is (nt := 28) (regs := [(0, ri y_), (1, ri x_), (2, ri c_), (3, rC tsNode c3_), (4, rC tspane c4_)])).trans ?_
  refine (pre2 (kern_conv_1_r1 y_ x_ c_ c3_ c4_ _)).trans (bind_g fun y544 => ?_)
  refine (pre1 (kern_conv_1_r2 y_ x_ c_ c3_ c4_ _)).trans (bind_g fun y592 => ?_)
  refine (pre1 (kern_conv_1_r3 c3_ y592 _)).trans (bind_g fun y604 => ?_)
  refine (ret_eq).trans ?_
  kernel_rfl
noncomputable def cp59 : CallP := withC cp58 81 [pI, pI, pI, (.one (.cell (.cons (.g (.int .i64)) (.cons (.g (.sl (.one (.int .i64)))) (.cons (.g (.int .i64)) (.cons (.g (.int .i64)) (.cons (.g (.int .i64)) (.cons (.g (.int .i64)) (.cons (.g (.int .i64)) (.cons (.g (.int .i64)) (.cons (.g (.int .i64)) (.cons (.g (.int .i64)) (.cons (.g (.int .i64)) (.cons (.g (.int .i64)) (.cons (.g (.sl (.one (.int .i8)))) (.cons (.g (.sl (.one (.int .i32)))) .nil)))))))))))))))), (.one (.cell (.cons (.g (.int .i64)) (.cons (.g (.int .i64)) (.cons (.g (.int .i64)) (.cons (.g (.int .i64)) (.cons (.g (.int .i64)) (.cons (.g (.int .i64)) (.cons (.g (.sl (.one (.int .i8)))) .nil)))))))))] (.one pI) (fun y : Int => y) (fun x => kern_conv_1 x.1 x.2.1 x.2.2.1 (x.2.2.2.1.1, x.2.2.2.1.2.1, x.2.2.2.1.2.2.1, x.2.2.2.1.2.2.2.1, x.2.2.2.1.2.2.2.2.1, x.2.2.2.1.2.2.2.2.2.1, x.2.2.2.1.2.2.2.2.2.2.1, x.2.2.2.1.2.2.2.2.2.2.2.1, x.2.2.2.1.2.2.2.2.2.2.2.2.1, x.2.2.2.1.2.2.2.2.2.2.2.2.2.1, x.2.2.2.1.2.2.2.2.2.2.2.2.2.2.1, x.2.2.2.1.2.2.2.2.2.2.2.2.2.2.2.1, x.2.2.2.1.2.2.2.2.2.2.2.2.2.2.2.2.1, x.2.2.2.1.2.2.2.2.2.2.2.2.2.2.2.2.2.1) (x.2.2.2.2.1.1, x.2.2.2.2.1.2.1, x.2.2.2.2.1.2.2.1, x.2.2.2.2.1.2.2.2.1, x.2.2.2.2.1.2.2.2.2.1, x.2.2.2.2.1.2.2.2.2.2.1, x.2.2.2.2.1.2.2.2.2.2.2.1))
theorem cp59_ok : PureOK E cp59 := conS eok cp58_ok ce2_ok fun x => Eq.mp (by kernel_rfl) (kern_conv_1_is x.1 x.2.1 x.2.2.1 (x.2.2.2.1.1, x.2.2.2.1.2.1, x.2.2.2.1.2.2.1, x.2.2.2.1.2.2.2.1, x.2.2.2.1.2.2.2.2.1, x.2.2.2.1.2.2.2.2.2.1, x.2.2.2.1.2.2.2.2.2.2.1, x.2.2.2.1.2.2.2.2.2.2.2.1, x.2.2.2.1.2.2.2.2.2.2.2.2.1, x.2.2.2.1.2.2.2.2.2.2.2.2.2.1, x.2.2.2.1.2.2.2.2.2.2.2.2.2.2.1, x.2.2.2.1.2.2.2.2.2.2.2.2.2.2.2.1, x.2.2.2.1.2.2.2.2.2.2.2.2.2.2.2.2.1, x.2.2.2.1.2.2.2.2.2.2.2.2.2.2.2.2.2.1) (x.2.2.2.2.1.1, x.2.2.2.2.1.2.1, x.2.2.2.2.1.2.2.1, x.2.2.2.2.1.2.2.2.1, x.2.2.2.2.1.2.2.2.2.1, x.2.2.2.2.1.2.2.2.2.2.1, x.2.2.2.2.1.2.2.2.2.2.2.1))
end
section
variable {α : Type} (a0 : Int) (a1 : Int) (c_ : Int) (c3_ : Node) (c4_ : pane) (y608 : Int) (s625 : (Int × Int)) (y629 : Int) (y630 : (Int × Int)) (k : St → Option α) (q : Kont α)
noncomputable abbrev C61 := codeOf E.P 85
noncomputable abbrev P61 := @preK α E 85 cp59 ce2
noncomputable abbrev R61 := @runCode α E 85 cp59 ce2
def kern_full_1_r1_p : Option Int := (bif (decide ((0 : Int) ≤ c_)) then (bif (decide (c_ < (c3_.2.2.2.2.2.2.2.2.2.2.2.2.2.length : Int))) then (Option.bind (shape_Size (c4_.1, c4_.2.1, c4_.2.2.1)) (fun y607 : Int => (some y607))) else none) else none)
abbrev S61_0 : St := ⟨[(2, ri c_), (3, rC tsNode c3_), (4, rC tspane c4_), (9, ri (IntKind.wrap .i64 (gt c3_.2.2.2.2.2.2.2.2.2.2.2.2.2 c_ (0 : Int)))), (10, ri y608)], [], [], 60⟩
theorem kern_full_1_r1 : P61 2 C61 ⟨[(0, ri a0), (1, ri a1), (2, ri c_), (3, rC tsNode c3_), (4, rC tspane c4_)], [], [], 60⟩ k = Option.bind (kern_full_1_r1_p c_ c3_ c4_) (fun y608 : Int => k (S61_0 c_ c3_ c4_ y608)) := .trans (by kernel_rfl) (bif_b (bif_b (bind_b fun y607 => some_b) none_b) none_b)
abbrev S61_1 : St := ⟨[(2, ri c_), (3, rC tsNode c3_), (4, rC tspane c4_), (9, ri (IntKind.wrap .i64 (gt c3_.2.2.2.2.2.2.2.2.2.2.2.2.2 c_ (0 : Int)))), (10, ri y608), (25, rl (.one (.int .i8)) c4_.2.2.2.2.2.2), (26, ri (c4_.2.2.2.2.2.2.length : Int)), (27, ri 0)], [], [], 60⟩
theorem kern_full_1_f3 : P61 1 C61.r.r.l (S61_0 c_ c3_ c4_ y608) k = k (S61_1 c_ c3_ c4_ y608) := by kernel_rfl
abbrev S61_2 : St := ⟨[(2, ri c_), (3, rC tsNode c3_), (4, rC tspane c4_), (9, ri s625.1), (10, ri y608), (25, rl (.one (.int .i8)) c4_.2.2.2.2.2.2), (26, ri (c4_.2.2.2.2.2.2.length : Int)), (27, ri s625.2)], [], [], 60⟩
theorem kern_full_1_fz : P61 1 C61.r.r.l.r.b.b (S61_2 c_ c3_ c4_ y608 s625) k = k ⟨[(2, ri c_), (3, rC tsNode c3_), (4, rC tspane c4_), (9, ri s625.1), (10, ri y608), (25, rl (.one (.int .i8)) c4_.2.2.2.2.2.2), (26, ri (c4_.2.2.2.2.2.2.length : Int)), (27, ri s625.2), (28, rb (decide (s625.2 < (c4_.2.2.2.2.2.2.length : Int))))], [], [], 60⟩ := by kernel_rfl
def kern_full_1_r4_p : Option Unit := (bif (decide ((0 : Int) ≤ s625.2)) then (bif (decide (s625.2 < (c4_.2.2.2.2.2.2.length : Int))) then (some ()) else none) else none)
abbrev S61_3 : St := ⟨[(2, ri c_), (3, rC tsNode c3_), (4, rC tspane c4_), (9, ri s625.1), (10, ri y608), (11, ri s625.2), (12, rk .i8 (gt c4_.2.2.2.2.2.2 s625.2 (0 : Int))), (25, rl (.one (.int .i8)) c4_.2.2.2.2.2.2), (26, ri (c4_.2.2.2.2.2.2.length : Int)), (27, ri s625.2)], [], [], 60⟩
theorem kern_full_1_r4 : P61 1 C61.r.r.l.r.b.b.r.r.l.b (S61_2 c_ c3_ c4_ y608 s625) k = Option.bind (kern_full_1_r4_p c4_ s625) (fun y628 : Unit => k (S61_3 c_ c3_ c4_ y608 s625)) := .trans (by kernel_rfl) (bif_b (bif_b some_b none_b) none_b)
def kern_full_1_r5_p : Option Int := (bif (decide ((0 : Int) ≤ (IntKind.wrap .i64 ((IntKind.wrap .i64 (c_ * y608)) + s625.2)))) then (bif (decide ((IntKind.wrap .i64 ((IntKind.wrap .i64 (c_ * y608)) + s625.2)) < (c3_.2.2.2.2.2.2.2.2.2.2.2.2.1.length : Int))) then (some (IntKind.wrap .i64 (s625.1 + (IntKind.wrap .i64 ((IntKind.wrap .i64 ((IntKind.wrap .i64 (gt c4_.2.2.2.2.2.2 s625.2 (0 : Int))) - c4_.2.2.2.1)) * (IntKind.wrap .i64 (gt c3_.2.2.2.2.2.2.2.2.2.2.2.2.1 (IntKind.wrap .i64 ((IntKind.wrap .i64 (c_ * y608)) + s625.2)) (0 : Int)))))))) else none) else none)
abbrev S61_4 : St := ⟨[(2, ri c_), (3, rC tsNode c3_), (4, rC tspane c4_), (9, ri y629), (10, ri y608), (25, rl (.one (.int .i8)) c4_.2.2.2.2.2.2), (26, ri (c4_.2.2.2.2.2.2.length : Int)), (27, ri s625.2)], [], [], 60⟩
theorem kern_full_1_r5 : R61 C61.r.r.l.r.b.b.r.r.l.b.r (S61_3 c_ c3_ c4_ y608 s625) q = Option.bind (kern_full_1_r5_p c_ c3_ c4_ y608 s625) (fun y629 : Int => q .normal (S61_4 c_ c3_ c4_ y608 s625 y629)) := .trans (by kernel_rfl) (bif_b (bif_b some_b none_b) none_b)
theorem kern_full_1_r6 : R61 C61.r.r.l.r.b.b.r.r.r (S61_4 c_ c3_ c4_ y608 s625 y629) q = q .normal ⟨[(2, ri c_), (3, rC tsNode c3_), (4, rC tspane c4_), (9, ri y629), (10, ri y608), (25, rl (.one (.int .i8)) c4_.2.2.2.2.2.2), (26, ri (c4_.2.2.2.2.2.2.length : Int)), (27, ri (IntKind.wrap .i64 (s625.2 + 1)))], [], [], 60⟩ := by kernel_rfl
def kern_full_1_l3_p : Option ((Int × Int) ⊕ (Int × Int)) := (bif (decide (s625.2 < (c4_.2.2.2.2.2.2.length : Int))) then (Option.bind (kern_full_1_r4_p c4_ s625) (fun y628 : Unit => (Option.bind (kern_full_1_r5_p c_ c3_ c4_ y608 s625) (fun y629 : Int => (some (Sum.inl (y629, (IntKind.wrap .i64 (s625.2 + 1))))))))) else (some (Sum.inr s625)))
abbrev S61_5 : St := ⟨[(2, ri c_), (3, rC tsNode c3_), (4, rC tspane c4_), (9, ri y630.1), (10, ri y608), (25, rl (.one (.int .i8)) c4_.2.2.2.2.2.2), (26, ri (c4_.2.2.2.2.2.2.length : Int)), (27, ri y630.2)], [], [], 60⟩
theorem kern_full_1_l3_b : R61 C61.r.r.l.r.b.b (S61_2 c_ c3_ c4_ y608 s625) (loopKont 0 q) = Option.bind (kern_full_1_l3_p c_ c3_ c4_ y608 s625) (either (fun y : (Int × Int) => q .normal ⟨[(2, ri c_), (3, rC tsNode c3_), (4, rC tspane c4_), (9, ri y.1), (10, ri y608), (25, rl (.one (.int .i8)) c4_.2.2.2.2.2.2), (26, ri (c4_.2.2.2.2.2.2.length : Int)), (27, ri y.2)], [], [], 60⟩) (fun y630 : (Int × Int) => q (.exit 0) (S61_5 c_ c3_ c4_ y608 y630))) := by
  refine .trans ?_ (bif_b (bind_b fun y628 => (bind_b fun y629 => e2_0)) e2_1)
  refine (pre1 (kern_full_1_fz c_ c3_ c4_ y608 s625 _)).trans ?_
  refine .trans seq_push ?_
  refine (cond_e (b := (decide (s625.2 < (c4_.2.2.2.2.2.2.length : Int)))) (st' := (S61_2 c_ c3_ c4_ y608 s625)) ).trans (bif_g ?_ ?_)
  · refine (skip_eq).trans ?_
    refine (seqC_normal (st' := (S61_2 c_ c3_ c4_ y608 s625))).trans ?_
    refine .trans seq_push ?_
    refine (block_push (id := 1)).trans ?_
    refine (pre1 (kern_full_1_r4 c_ c3_ c4_ y608 s625 _)).trans (bind_g fun y628 => ?_)
    refine (kern_full_1_r5 c_ c3_ c4_ y608 s625 _).trans (bind_g fun y629 => ?_)
    refine block_normal.trans ?_
    refine (seqC_normal (st' := (S61_4 c_ c3_ c4_ y608 s625 y629))).trans ?_
    refine (kern_full_1_r6 c_ c3_ c4_ y608 s625 y629 _).trans ?_
    kernel_rfl
  · refine ((exit_eq (j := 0))).trans ?_
    refine seqC_exit.trans ?_
    kernel_rfl
theorem kern_full_1_l3 : R61 C61.r.r.l.r.b (S61_1 c_ c3_ c4_ y608) q = Option.bind (iterN (kern_full_1_l3_p c_ c3_ c4_ y608) LL ((IntKind.wrap .i64 (gt c3_.2.2.2.2.2.2.2.2.2.2.2.2.2 c_ (0 : Int))), (0 : Int))) (fun y630 : (Int × Int) => q (.exit 0) (S61_5 c_ c3_ c4_ y608 y630)) :=
  Eq.trans (by kernel_rfl) (loop_iter1 (S := fun s625 : (Int × Int) => (S61_2 c_ c3_ c4_ y608 s625)) (Y1 := fun y630 : (Int × Int) => ((.exit 0), (S61_5 c_ c3_ c4_ y608 y630))) (fun s q => kern_full_1_l3_b c_ c3_ c4_ y608 s q) (fun z => rfl) LL ((IntKind.wrap .i64 (gt c3_.2.2.2.2.2.2.2.2.2.2.2.2.2 c_ (0 : Int))), (0 : Int)))
theorem kern_full_1_r7 : P61 1 C61.r.r.r ⟨[(3, rC tsNode c3_), (9, ri y630.1)], [], [], 60⟩ k = Option.bind (fixed_Scale y630.1 c3_.2.2.2.2.2.2.1 c3_.2.2.2.2.2.2.2.1 c3_.2.2.2.2.2.2.2.2.1) fun y631 : Int => k ⟨[(8, ri y631)], [], [], 60⟩ := by kernel_rfl
/-- quilt/kern.full$1 -/
def kern_full_1 (a0 : Int) (a1 : Int) (c_ : Int) (c3_ : Node) (c4_ : pane) : Option Int := (Option.bind (kern_full_1_r1_p c_ c3_ c4_) (fun y608 : Int => (Option.bind (iterN (kern_full_1_l3_p c_ c3_ c4_ y608) LL ((IntKind.wrap .i64 (gt c3_.2.2.2.2.2.2.2.2.2.2.2.2.2 c_ (0 : Int))), (0 : Int))) (fun y630 : (Int × Int) => (Option.bind (fixed_Scale y630.1 c3_.2.2.2.2.2.2.1 c3_.2.2.2.2.2.2.2.1 c3_.2.2.2.2.2.2.2.2.1) (fun y631 : Int => (some y631)))))))
theorem kern_full_1_is : stepS E cp59 ce2 85 [ri a0, ri a1, ri c_, rC tsNode c3_, rC tspane c4_] = Option.bind (kern_full_1 a0 a1 c_ c3_ c4_) (fun y : Int => some (ri y : R)) := by
  refine .trans ?_ (bind_b fun y608 => (bind_b fun y630 => (bind_b fun y631 => some_b)))
  refine (stepG_is (nt := 60) (regs := [(0, ri a0), (1, ri a1), (2, ri c_), (3, rC tsNode c3_), (4, rC tspane c4_)])).trans ?_
  refine (pre2 (kern_full_1_r1 a0 a1 c_ c3_ c4_ _)).trans (bind_g fun y608 => ?_)
  refine .trans seq_push ?_
  refine (pre1 (kern_full_1_f3 c_ c3_ c4_ y608 _)).trans ?_
  refine (block_push (id := 0)).trans ?_
  refine (kern_full_1_l3 c_ c3_ c4_ y608 _).trans (bind_g fun y630 => ?_)
  refine block_same.trans ?_
  refine (seqC_normal (st' := ⟨[(3, rC tsNode c3_), (9, ri y630.1)], [], [], 60⟩)).trans ?_
  refine (pre1 (kern_full_1_r7 c3_ y630 _)).trans (bind_g fun y631 => ?_)
  refine (ret_eq).trans ?_
  kernel_rfl
noncomputable def cp60 : CallP := withC cp59 85 [pI, pI, pI, (.one (.cell (.cons (.g (.int .i64)) (.cons (.g (.sl (.one (.int .i64)))) (.cons (.g (.int .i64)) (.cons (.g (.int .i64)) (.cons (.g (.int .i64)) (.cons (.g (.int .i64)) (.cons (.g (.int .i64)) (.cons (.g (.int .i64)) (.cons (.g (.int .i64)) (.cons (.g (.int .i64)) (.cons (.g (.int .i64)) (.cons (.g (.int .i64)) (.cons (.g (.sl (.one (.int .i8)))) (.cons (.g (.sl (.one (.int .i32)))) .nil)))))))))))))))), (.one (.cell (.cons (.g (.int .i64)) (.cons (.g (.int .i64)) (.cons (.g (.int .i64)) (.cons (.g (.int .i64)) (.cons (.g (.int .i64)) (.cons (.g (.int .i64)) (.cons (.g (.sl (.one (.int .i8)))) .nil)))))))))] (.one pI) (fun y : Int => y) (fun x => kern_full_1 x.1 x.2.1 x.2.2.1 (x.2.2.2.1.1, x.2.2.2.1.2.1, x.2.2.2.1.2.2.1, x.2.2.2.1.2.2.2.1, x.2.2.2.1.2.2.2.2.1, x.2.2.2.1.2.2.2.2.2.1, x.2.2.2.1.2.2.2.2.2.2.1, x.2.2.2.1.2.2.2.2.2.2.2.1, x.2.2.2.1.2.2.2.2.2.2.2.2.1, x.2.2.2.1.2.2.2.2.2.2.2.2.2.1, x.2.2.2.1.2.2.2.2.2.2.2.2.2.2.1, x.2.2.2.1.2.2.2.2.2.2.2.2.2.2.2.1, x.2.2.2.1.2.2.2.2.2.2.2.2.2.2.2.2.1, x.2.2.2.1.2.2.2.2.2.2.2.2.2.2.2.2.2.1) (x.2.2.2.2.1.1, x.2.2.2.2.1.2.1, x.2.2.2.2.1.2.2.1, x.2.2.2.2.1.2.2.2.1, x.2.2.2.2.1.2.2.2.2.1, x.2.2.2.2.1.2.2.2.2.2.1, x.2.2.2.2.1.2.2.2.2.2.2.1))
theorem cp60_ok : PureOK E cp60 := conS eok cp59_ok ce2_ok fun x => Eq.mp (by kernel_rfl) (kern_full_1_is x.1 x.2.1 x.2.2.1 (x.2.2.2.1.1, x.2.2.2.1.2.1, x.2.2.2.1.2.2.1, x.2.2.2.1.2.2.2.1, x.2.2.2.1.2.2.2.2.1, x.2.2.2.1.2.2.2.2.2.1, x.2.2.2.1.2.2.2.2.2.2.1, x.2.2.2.1.2.2.2.2.2.2.2.1, x.2.2.2.1.2.2.2.2.2.2.2.2.1, x.2.2.2.1.2.2.2.2.2.2.2.2.2.1, x.2.2.2.1.2.2.2.2.2.2.2.2.2.2.1, x.2.2.2.1.2.2.2.2.2.2.2.2.2.2.2.1, x.2.2.2.1.2.2.2.2.2.2.2.2.2.2.2.2.1, x.2.2.2.1.2.2.2.2.2.2.2.2.2.2.2.2.2.1) (x.2.2.2.2.1.1, x.2.2.2.2.1.2.1, x.2.2.2.2.1.2.2.1, x.2.2.2.2.1.2.2.2.1, x.2.2.2.2.1.2.2.2.2.1, x.2.2.2.2.1.2.2.2.2.2.1, x.2.2.2.2.1.2.2.2.2.2.2.1))
end
section
variable {α : Type} (i_ : Int) (j_ : Int) (c2_ : pane) (c3_ : Int) (c4_ : Node) (c5_ : Int) (c6_ : Int) (c9_ : Int) (c10_ : Int) (y636 : Int) (k : St → Option α) (q : Kont α)
noncomputable abbrev C62 := codeOf E.P 87
noncomputable abbrev P62 := @preK α E 87 cp60 ce2
noncomputable abbrev R62 := @runCode α E 87 cp60 ce2
abbrev S62_0 : St := ⟨[(7, rF 0), (8, rF 1), (11, ri y636)], [[di c9_], [di c10_]], [], 33⟩
theorem kern_pool_1_1_r0 : P62 1 C62 ⟨[(0, ri i_), (1, ri j_), (2, rC tspane c2_), (3, .one (.cell [di c3_])), (4, rC tsNode c4_), (5, .one (.cell [di c5_])), (6, .one (.cell [di c6_])), (7, rF 0), (8, rF 1)], [[di c9_], [di c10_]], [], 33⟩ k = Option.bind (kern_pane_at c2_ (IntKind.wrap .i64 ((IntKind.wrap .i64 (c3_ * c4_.2.2.2.1)) + i_)) (IntKind.wrap .i64 ((IntKind.wrap .i64 (c5_ * c4_.2.2.2.1)) + j_)) c6_) fun y636 : Int => k (S62_0 c9_ c10_ y636) := by kernel_rfl
theorem kern_pool_1_1_r1 : R62 C62.r (S62_0 c9_ c10_ y636) q = q .normal ⟨[], [[di (max c9_ y636)], [di (IntKind.wrap .i64 (c10_ + y636))]], [], 33⟩ := by kernel_rfl
/-- quilt/kern.pool$1$1 -/
def kern_pool_1_1 : Option (Int × Int) := (Option.bind (kern_pane_at c2_ (IntKind.wrap .i64 ((IntKind.wrap .i64 (c3_ * c4_.2.2.2.1)) + i_)) (IntKind.wrap .i64 ((IntKind.wrap .i64 (c5_ * c4_.2.2.2.1)) + j_)) c6_) (fun y636 : Int => (some ((max c9_ y636), (IntKind.wrap .i64 (c10_ + y636))))))
theorem kern_pool_1_1_is (k : R → Heap → Option α) : callBody E cp60 ce2 α 87 [ri i_, ri j_, rC tspane c2_, .one (.cell [di c3_]), rC tsNode c4_, .one (.cell [di c5_]), .one (.cell [di c6_]), rF 0, rF 1] [[di c9_], [di c10_]] k = Option.bind (kern_pool_1_1 i_ j_ c2_ c3_ c4_ c5_ c6_ c9_ c10_) (fun y : (Int × Int) => k (.tup []) [[di y.1], [di y.2]]) := by
  refine .trans ?_ (bind_b fun y636 => some_b)
  refine (body_is (nt := 33) (regs := [(0, ri i_), (1, ri j_), (2, rC tspane c2_), (3, .one (.cell [di c3_])), (4, rC tsNode c4_), (5, .one (.cell [di c5_])), (6, .one (.cell [di c6_])), (7, rF 0), (8, rF 1)]) (by kernel_rfl) (by kernel_rfl)).trans ?_
  refine (pre1 (kern_pool_1_1_r0 i_ j_ c2_ c3_ c4_ c5_ c6_ c9_ c10_ _)).trans (bind_g fun y636 => ?_)
  refine (kern_pool_1_1_r1 c9_ c10_ y636 _).trans ?_
  kernel_rfl
noncomputable def ce3 : CallE := withE ce2 87 (decA [pI, pI, (.one (.cell (.cons (.g (.int .i64)) (.cons (.g (.int .i64)) (.cons (.g (.int .i64)) (.cons (.g (.int .i64)) (.cons (.g (.int .i64)) (.cons (.g (.int .i64)) (.cons (.g (.sl (.one (.int .i8)))) .nil))))))))), (.one (.cell (.cons (.g (.int .i64)) .nil))), (.one (.cell (.cons (.g (.int .i64)) (.cons (.g (.sl (.one (.int .i64)))) (.cons (.g (.int .i64)) (.cons (.g (.int .i64)) (.cons (.g (.int .i64)) (.cons (.g (.int .i64)) (.cons (.g (.int .i64)) (.cons (.g (.int .i64)) (.cons (.g (.int .i64)) (.cons (.g (.int .i64)) (.cons (.g (.int .i64)) (.cons (.g (.int .i64)) (.cons (.g (.sl (.one (.int .i8)))) (.cons (.g (.sl (.one (.int .i32)))) .nil)))))))))))))))), (.one (.cell (.cons (.g (.int .i64)) .nil))), (.one (.cell (.cons (.g (.int .i64)) .nil))), (.one (.ref 0 0)), (.one (.ref 1 0))] [(.cons (.g (.int .i64)) .nil), (.cons (.g (.int .i64)) .nil)]) .unit (fun y : (Int × Int) => ()) (fun x y => [[di y.1], [di y.2]]) (fun x => kern_pool_1_1 x.1.1 x.1.2.1 (x.1.2.2.1.1, x.1.2.2.1.2.1, x.1.2.2.1.2.2.1, x.1.2.2.1.2.2.2.1, x.1.2.2.1.2.2.2.2.1, x.1.2.2.1.2.2.2.2.2.1, x.1.2.2.1.2.2.2.2.2.2.1) x.1.2.2.2.1.1 (x.1.2.2.2.2.1.1, x.1.2.2.2.2.1.2.1, x.1.2.2.2.2.1.2.2.1, x.1.2.2.2.2.1.2.2.2.1, x.1.2.2.2.2.1.2.2.2.2.1, x.1.2.2.2.2.1.2.2.2.2.2.1, x.1.2.2.2.2.1.2.2.2.2.2.2.1, x.1.2.2.2.2.1.2.2.2.2.2.2.2.1, x.1.2.2.2.2.1.2.2.2.2.2.2.2.2.1, x.1.2.2.2.2.1.2.2.2.2.2.2.2.2.2.1, x.1.2.2.2.2.1.2.2.2.2.2.2.2.2.2.2.1, x.1.2.2.2.2.1.2.2.2.2.2.2.2.2.2.2.2.1, x.1.2.2.2.2.1.2.2.2.2.2.2.2.2.2.2.2.2.1, x.1.2.2.2.2.1.2.2.2.2.2.2.2.2.2.2.2.2.2.1) x.1.2.2.2.2.2.1.1 x.1.2.2.2.2.2.2.1.1 x.2.1.1 x.2.2.1.1)
theorem ce3_ok : EffOK E ce3 := conE eok cp60_ok ce2_ok fun α x k => Eq.mp (by kernel_rfl) (kern_pool_1_1_is x.1.1 x.1.2.1 (x.1.2.2.1.1, x.1.2.2.1.2.1, x.1.2.2.1.2.2.1, x.1.2.2.1.2.2.2.1, x.1.2.2.1.2.2.2.2.1, x.1.2.2.1.2.2.2.2.2.1, x.1.2.2.1.2.2.2.2.2.2.1) x.1.2.2.2.1.1 (x.1.2.2.2.2.1.1, x.1.2.2.2.2.1.2.1, x.1.2.2.2.2.1.2.2.1, x.1.2.2.2.2.1.2.2.2.1, x.1.2.2.2.2.1.2.2.2.2.1, x.1.2.2.2.2.1.2.2.2.2.2.1, x.1.2.2.2.2.1.2.2.2.2.2.2.1, x.1.2.2.2.2.1.2.2.2.2.2.2.2.1, x.1.2.2.2.2.1.2.2.2.2.2.2.2.2.1, x.1.2.2.2.2.1.2.2.2.2.2.2.2.2.2.1, x.1.2.2.2.2.1.2.2.2.2.2.2.2.2.2.2.1, x.1.2.2.2.2.1.2.2.2.2.2.2.2.2.2.2.2.1, x.1.2.2.2.2.1.2.2.2.2.2.2.2.2.2.2.2.2.1, x.1.2.2.2.2.1.2.2.2.2.2.2.2.2.2.2.2.2.2.1) x.1.2.2.2.2.2.1.1 x.1.2.2.2.2.2.2.1.1 x.2.1.1 x.2.2.1.1 k)
end
end Go.V.P
