/- What functions compute. -/
import Derived.Test.YtokpndlkheofjaaKp2
namespace Go.V.P
open Go.RowKit Go.V Go.Proofs
set_option linter.unusedVariables false
set_option maxRecDepth 100000
section
variable {α : Type} (y_ : Int) (x_ : Int) (c_ : Int) (c3_ : pane) (c4_ : Node) (k : St → Option α)
noncomputable abbrev C43 := Q0r E.P 73
noncomputable abbrev P43 := @preK α E 73 cp43 noE
theorem c8w : P43 2 C43 ⟨[(0, ri y_), (1, ri x_), (2, ri c_), (3, rC a04 c3_), (4, rC a01 c4_)], [], [], 21⟩ k = Option.bind (a0j c3_ y_ x_ c_) fun y513 : Int => k ⟨[(8, ri (max (IntKind.wrap .i64 (y513 + c3_.2.2.2.1)) c4_.2.2.2.2.2.2.2.2.1))], [], [], 21⟩ := by kernel_rfl
def b2z : Option Int := (Option.bind (a0j c3_ y_ x_ c_) (fun y513 : Int => (some (max (IntKind.wrap .i64 (y513 + c3_.2.2.2.1)) c4_.2.2.2.2.2.2.2.2.1))))
theorem c8v : Q2j E cp43 noE 73 [ri y_, ri x_, ri c_, rC a04 c3_, rC a01 c4_] = Option.bind (b2z y_ x_ c_ c3_ c4_) (fun y : Int => some (ri y : R)) := by
  refine .trans ?_ (Q0d fun y513 => Q0b)
  refine (Q0l (nt := 21) (regs := [(0, ri y_), (1, ri x_), (2, ri c_), (3, rC a04 c3_), (4, rC a01 c4_)])).trans ?_
  refine (pre2 (c8w y_ x_ c_ c3_ c4_ _)).trans (Q0e fun y513 => ?_)
  refine (Q0h).trans ?_
  kernel_rfl
noncomputable def cp44 : Q2g := Q2i cp43 73 [pI, pI, pI, (.one (.cell (.cons (.g (.int .i64)) (.cons (.g (.int .i64)) (.cons (.g (.int .i64)) (.cons (.g (.int .i64)) (.cons (.g (.int .i64)) (.cons (.g (.int .i64)) (.cons (.g (.sl (.one (.int .i8)))) .nil))))))))), (.one (.cell (.cons (.g (.int .i64)) (.cons (.g (.sl (.one (.int .i64)))) (.cons (.g (.int .i64)) (.cons (.g (.int .i64)) (.cons (.g (.int .i64)) (.cons (.g (.int .i64)) (.cons (.g (.int .i64)) (.cons (.g (.int .i64)) (.cons (.g (.int .i64)) (.cons (.g (.int .i64)) (.cons (.g (.int .i64)) (.cons (.g (.int .i64)) (.cons (.g (.sl (.one (.int .i8)))) (.cons (.g (.sl (.one (.int .i32)))) .nil))))))))))))))))] (.one pI) (fun y : Int => y) (fun x => b2z x.1 x.2.1 x.2.2.1 (x.2.2.2.1.1, x.2.2.2.1.2.1, x.2.2.2.1.2.2.1, x.2.2.2.1.2.2.2.1, x.2.2.2.1.2.2.2.2.1, x.2.2.2.1.2.2.2.2.2.1, x.2.2.2.1.2.2.2.2.2.2.1) (x.2.2.2.2.1.1, x.2.2.2.2.1.2.1, x.2.2.2.2.1.2.2.1, x.2.2.2.2.1.2.2.2.1, x.2.2.2.2.1.2.2.2.2.1, x.2.2.2.2.1.2.2.2.2.2.1, x.2.2.2.2.1.2.2.2.2.2.2.1, x.2.2.2.2.1.2.2.2.2.2.2.2.1, x.2.2.2.2.1.2.2.2.2.2.2.2.2.1, x.2.2.2.2.1.2.2.2.2.2.2.2.2.2.1, x.2.2.2.2.1.2.2.2.2.2.2.2.2.2.2.1, x.2.2.2.2.1.2.2.2.2.2.2.2.2.2.2.2.1, x.2.2.2.2.1.2.2.2.2.2.2.2.2.2.2.2.2.1, x.2.2.2.2.1.2.2.2.2.2.2.2.2.2.2.2.2.2.1))
theorem e3g : Q0p E cp44 := conS eok e3f Q0z fun x => Eq.mp (by kernel_rfl) (c8v x.1 x.2.1 x.2.2.1 (x.2.2.2.1.1, x.2.2.2.1.2.1, x.2.2.2.1.2.2.1, x.2.2.2.1.2.2.2.1, x.2.2.2.1.2.2.2.2.1, x.2.2.2.1.2.2.2.2.2.1, x.2.2.2.1.2.2.2.2.2.2.1) (x.2.2.2.2.1.1, x.2.2.2.2.1.2.1, x.2.2.2.2.1.2.2.1, x.2.2.2.2.1.2.2.2.1, x.2.2.2.2.1.2.2.2.2.1, x.2.2.2.2.1.2.2.2.2.2.1, x.2.2.2.2.1.2.2.2.2.2.2.1, x.2.2.2.2.1.2.2.2.2.2.2.2.1, x.2.2.2.2.1.2.2.2.2.2.2.2.2.1, x.2.2.2.2.1.2.2.2.2.2.2.2.2.2.1, x.2.2.2.2.1.2.2.2.2.2.2.2.2.2.2.1, x.2.2.2.2.1.2.2.2.2.2.2.2.2.2.2.2.1, x.2.2.2.2.1.2.2.2.2.2.2.2.2.2.2.2.2.1, x.2.2.2.2.1.2.2.2.2.2.2.2.2.2.2.2.2.2.1))
end
section
variable {α : Type} (y_ : Int) (x_ : Int) (c_ : Int) (c3_ : pane) (k : St → Option α)
noncomputable abbrev C44 := Q0r E.P 75
noncomputable abbrev P44 := @preK α E 75 cp44 noE
theorem c8y : P44 2 C44 ⟨[(0, ri y_), (1, ri x_), (2, ri c_), (3, rC a04 c3_)], [], [], 19⟩ k = Option.bind (a0j c3_ (IntKind.wrap .i64 (y_ - 1)) (IntKind.wrap .i64 (x_ - 1)) c_) fun y516 : Int => k ⟨[(7, ri (IntKind.wrap .i64 (y516 + c3_.2.2.2.1)))], [], [], 19⟩ := by kernel_rfl
def b30 : Option Int := (Option.bind (a0j c3_ (IntKind.wrap .i64 (y_ - 1)) (IntKind.wrap .i64 (x_ - 1)) c_) (fun y516 : Int => (some (IntKind.wrap .i64 (y516 + c3_.2.2.2.1)))))
theorem c8x : Q2j E cp44 noE 75 [ri y_, ri x_, ri c_, rC a04 c3_] = Option.bind (b30 y_ x_ c_ c3_) (fun y : Int => some (ri y : R)) := by
  refine .trans ?_ (Q0d fun y516 => Q0b)
  refine (Q0l (nt := 19) (regs := [(0, ri y_), (1, ri x_), (2, ri c_), (3, rC a04 c3_)])).trans ?_
  refine (pre2 (c8y y_ x_ c_ c3_ _)).trans (Q0e fun y516 => ?_)
  refine (Q0h).trans ?_
  kernel_rfl
noncomputable def cp45 : Q2g := Q2i cp44 75 [pI, pI, pI, (.one (.cell (.cons (.g (.int .i64)) (.cons (.g (.int .i64)) (.cons (.g (.int .i64)) (.cons (.g (.int .i64)) (.cons (.g (.int .i64)) (.cons (.g (.int .i64)) (.cons (.g (.sl (.one (.int .i8)))) .nil)))))))))] (.one pI) (fun y : Int => y) (fun x => b30 x.1 x.2.1 x.2.2.1 (x.2.2.2.1.1, x.2.2.2.1.2.1, x.2.2.2.1.2.2.1, x.2.2.2.1.2.2.2.1, x.2.2.2.1.2.2.2.2.1, x.2.2.2.1.2.2.2.2.2.1, x.2.2.2.1.2.2.2.2.2.2.1))
theorem e3h : Q0p E cp45 := conS eok e3g Q0z fun x => Eq.mp (by kernel_rfl) (c8x x.1 x.2.1 x.2.2.1 (x.2.2.2.1.1, x.2.2.2.1.2.1, x.2.2.2.1.2.2.1, x.2.2.2.1.2.2.2.1, x.2.2.2.1.2.2.2.2.1, x.2.2.2.1.2.2.2.2.2.1, x.2.2.2.1.2.2.2.2.2.2.1))
end
section
variable {α : Type} (y_ : Int) (x_ : Int) (c_ : Int) (c3_ : pane) (c4_ : Int) (c4_' : Int) (c4_'' : Int) (c4_''' : Int) (c4_'''' : Int) (c4_''''' : Int) (c4_'''''' : (List Int)) (c4_''''''' : Int) (c4_'''''''' : Int) (c4_''''''''' : Int) (c4_'''''''''' : Int) (c4_''''''''''' : Int) (c4_'''''''''''' : Int) (c4_''''''''''''' : (List Int)) (k : St → Option α)
noncomputable abbrev C45 := Q0r E.P 76
noncomputable abbrev P45 := @preK α E 76 cp45 noE
def b0u : Option Unit := (bif (c3_.2.2.1 == 0) then none else (some ()))
abbrev S45_0 : St := ⟨[(0, ri y_), (1, ri x_), (2, ri c_), (3, rC a04 c3_), (4, .one (.cell [di c4_, di c4_', di c4_'', di c4_''', di c4_'''', di c4_''''', dl (.one (.int .i8)) c4_'''''', di c4_''''''', di c4_'''''''', di c4_''''''''', di c4_'''''''''', di c4_''''''''''', di c4_'''''''''''', dl (.one (.int .i8)) c4_''''''''''''']))], [], [], 43⟩
abbrev S45_1 : St := ⟨[(0, ri y_), (1, ri x_), (2, ri c_), (3, rC a04 c3_), (4, .one (.cell [di c4_, di c4_', di c4_'', di c4_''', di c4_'''', di c4_''''', dl (.one (.int .i8)) c4_'''''', di c4_''''''', di c4_'''''''', di c4_''''''''', di c4_'''''''''', di c4_''''''''''', di c4_'''''''''''', dl (.one (.int .i8)) c4_'''''''''''''])), (9, ri (IntKind.wrap .i64 (Int.tdiv c_ c3_.2.2.1)))], [], [], 43⟩
theorem c90 : P45 2 C45 (S45_0 y_ x_ c_ c3_ c4_ c4_' c4_'' c4_''' c4_'''' c4_''''' c4_'''''' c4_''''''' c4_'''''''' c4_''''''''' c4_'''''''''' c4_''''''''''' c4_'''''''''''' c4_''''''''''''') k = Option.bind (b0u c3_) (fun y519 : Unit => k (S45_1 y_ x_ c_ c3_ c4_ c4_' c4_'' c4_''' c4_'''' c4_''''' c4_'''''' c4_''''''' c4_'''''''' c4_''''''''' c4_'''''''''' c4_''''''''''' c4_'''''''''''' c4_''''''''''''')) := .trans (by kernel_rfl) (Q2b Q0n Q0b)
theorem b5u : P45 1 C45.r.r.l (S45_1 y_ x_ c_ c3_ c4_ c4_' c4_'' c4_''' c4_'''' c4_''''' c4_'''''' c4_''''''' c4_'''''''' c4_''''''''' c4_'''''''''' c4_''''''''''' c4_'''''''''''' c4_''''''''''''') k = k ⟨[(0, ri y_), (1, ri x_), (2, ri c_), (3, rC a04 c3_), (4, .one (.cell [di c4_, di c4_', di c4_'', di c4_''', di c4_'''', di c4_''''', dl (.one (.int .i8)) c4_'''''', di c4_''''''', di c4_'''''''', di c4_''''''''', di c4_'''''''''', di c4_''''''''''', di c4_'''''''''''', dl (.one (.int .i8)) c4_'''''''''''''])), (17, rb ((IntKind.wrap .i64 (Int.tdiv c_ c3_.2.2.1)) == 0))], [], [], 43⟩ := by kernel_rfl
theorem c91 : P45 1 C45.r.r.l.r.t (S45_0 y_ x_ c_ c3_ c4_ c4_' c4_'' c4_''' c4_'''' c4_''''' c4_'''''' c4_''''''' c4_'''''''' c4_''''''''' c4_'''''''''' c4_''''''''''' c4_'''''''''''' c4_''''''''''''') k = Option.bind (a0j c3_ y_ x_ c_) fun y521 : Int => k ⟨[(8, ri (IntKind.wrap .i64 (y521 + c3_.2.2.2.1)))], [], [], 43⟩ := by kernel_rfl
theorem c92 : P45 1 C45.r.r.r (S45_0 y_ x_ c_ c3_ c4_ c4_' c4_'' c4_''' c4_'''' c4_''''' c4_'''''' c4_''''''' c4_'''''''' c4_''''''''' c4_'''''''''' c4_''''''''''' c4_'''''''''''' c4_''''''''''''') k = Option.bind (a0j (c4_''''''', c4_'''''''', c4_''''''''', c4_'''''''''', c4_''''''''''', c4_'''''''''''', c4_''''''''''''') y_ x_ (IntKind.wrap .i64 (c_ - c3_.2.2.1))) fun y522 : Int => k ⟨[(8, ri (IntKind.wrap .i64 (y522 + c4_'''''''''')))], [], [], 43⟩ := by kernel_rfl
def b31 (y_ : Int) (x_ : Int) (c_ : Int) (c3_ : pane) (c4_ : Int) (c4_' : Int) (c4_'' : Int) (c4_''' : Int) (c4_'''' : Int) (c4_''''' : Int) (c4_'''''' : (List Int)) (c4_''''''' : Int) (c4_'''''''' : Int) (c4_''''''''' : Int) (c4_'''''''''' : Int) (c4_''''''''''' : Int) (c4_'''''''''''' : Int) (c4_''''''''''''' : (List Int)) : Option Int := (Option.bind (b0u c3_) (fun y519 : Unit => (bif ((IntKind.wrap .i64 (Int.tdiv c_ c3_.2.2.1)) == 0) then (Option.bind (a0j c3_ y_ x_ c_) (fun y521 : Int => (some (IntKind.wrap .i64 (y521 + c3_.2.2.2.1))))) else (Option.bind (a0j (c4_''''''', c4_'''''''', c4_''''''''', c4_'''''''''', c4_''''''''''', c4_'''''''''''', c4_''''''''''''') y_ x_ (IntKind.wrap .i64 (c_ - c3_.2.2.1))) (fun y522 : Int => (some (IntKind.wrap .i64 (y522 + c4_''''''''''))))))))
theorem c8z : Q2j E cp45 noE 76 [ri y_, ri x_, ri c_, rC a04 c3_, .one (.cell [di c4_, di c4_', di c4_'', di c4_''', di c4_'''', di c4_''''', dl (.one (.int .i8)) c4_'''''', di c4_''''''', di c4_'''''''', di c4_''''''''', di c4_'''''''''', di c4_''''''''''', di c4_'''''''''''', dl (.one (.int .i8)) c4_'''''''''''''])] = Option.bind (b31 y_ x_ c_ c3_ c4_ c4_' c4_'' c4_''' c4_'''' c4_''''' c4_'''''' c4_''''''' c4_'''''''' c4_''''''''' c4_'''''''''' c4_''''''''''' c4_'''''''''''' c4_''''''''''''') (fun y : Int => some (ri y : R)) := by
  refine .trans ?_ (Q0d fun y519 => (Q2b (Q0d fun y521 => Q0b) (Q0d fun y522 => Q0b)))
  refine (Q0l (nt := 43) (regs := [(0, ri y_), (1, ri x_), (2, ri c_), (3, rC a04 c3_), (4, .one (.cell [di c4_, di c4_', di c4_'', di c4_''', di c4_'''', di c4_''''', dl (.one (.int .i8)) c4_'''''', di c4_''''''', di c4_'''''''', di c4_''''''''', di c4_'''''''''', di c4_''''''''''', di c4_'''''''''''', dl (.one (.int .i8)) c4_''''''''''''']))])).trans ?_
  refine (pre2 (c90 y_ x_ c_ c3_ c4_ c4_' c4_'' c4_''' c4_'''' c4_''''' c4_'''''' c4_''''''' c4_'''''''' c4_''''''''' c4_'''''''''' c4_''''''''''' c4_'''''''''''' c4_''''''''''''' _)).trans (Q0e fun y519 => ?_)
  refine .trans Q0c ?_
  refine (Q2d (b5u y_ x_ c_ c3_ c4_ c4_' c4_'' c4_''' c4_'''' c4_''''' c4_'''''' c4_''''''' c4_'''''''' c4_''''''''' c4_'''''''''' c4_''''''''''' c4_'''''''''''' c4_''''''''''''' _)).trans ?_
  refine (Q0m (b := ((IntKind.wrap .i64 (Int.tdiv c_ c3_.2.2.1)) == 0)) (st' := (S45_0 y_ x_ c_ c3_ c4_ c4_' c4_'' c4_''' c4_'''' c4_''''' c4_'''''' c4_''''''' c4_'''''''' c4_''''''''' c4_'''''''''' c4_''''''''''' c4_'''''''''''' c4_''''''''''''')) ).trans (Q2f ?_ ?_)
  · refine (Q2d (c91 y_ x_ c_ c3_ c4_ c4_' c4_'' c4_''' c4_'''' c4_''''' c4_'''''' c4_''''''' c4_'''''''' c4_''''''''' c4_'''''''''' c4_''''''''''' c4_'''''''''''' c4_''''''''''''' _)).trans (Q0e fun y521 => ?_)
    refine (Q0h).trans ?_
    refine Q0k.trans ?_
    kernel_rfl
  · refine (Q0i).trans ?_
    refine (Q0a (st' := (S45_0 y_ x_ c_ c3_ c4_ c4_' c4_'' c4_''' c4_'''' c4_''''' c4_'''''' c4_''''''' c4_'''''''' c4_''''''''' c4_'''''''''' c4_''''''''''' c4_'''''''''''' c4_'''''''''''''))).trans ?_
    refine (Q2d (c92 y_ x_ c_ c3_ c4_ c4_' c4_'' c4_''' c4_'''' c4_''''' c4_'''''' c4_''''''' c4_'''''''' c4_''''''''' c4_'''''''''' c4_''''''''''' c4_'''''''''''' c4_''''''''''''' _)).trans (Q0e fun y522 => ?_)
    refine (Q0h).trans ?_
    kernel_rfl
noncomputable def cp46 : Q2g := Q2i cp45 76 [pI, pI, pI, (.one (.cell (.cons (.g (.int .i64)) (.cons (.g (.int .i64)) (.cons (.g (.int .i64)) (.cons (.g (.int .i64)) (.cons (.g (.int .i64)) (.cons (.g (.int .i64)) (.cons (.g (.sl (.one (.int .i8)))) .nil))))))))), (.one Z3)] (.one pI) (fun y : Int => y) (fun x => b31 x.1 x.2.1 x.2.2.1 (x.2.2.2.1.1, x.2.2.2.1.2.1, x.2.2.2.1.2.2.1, x.2.2.2.1.2.2.2.1, x.2.2.2.1.2.2.2.2.1, x.2.2.2.1.2.2.2.2.2.1, x.2.2.2.1.2.2.2.2.2.2.1) x.2.2.2.2.1.1 x.2.2.2.2.1.2.1 x.2.2.2.2.1.2.2.1 x.2.2.2.2.1.2.2.2.1 x.2.2.2.2.1.2.2.2.2.1 x.2.2.2.2.1.2.2.2.2.2.1 x.2.2.2.2.1.2.2.2.2.2.2.1 x.2.2.2.2.1.2.2.2.2.2.2.2.1 x.2.2.2.2.1.2.2.2.2.2.2.2.2.1 x.2.2.2.2.1.2.2.2.2.2.2.2.2.2.1 x.2.2.2.2.1.2.2.2.2.2.2.2.2.2.2.1 x.2.2.2.2.1.2.2.2.2.2.2.2.2.2.2.2.1 x.2.2.2.2.1.2.2.2.2.2.2.2.2.2.2.2.2.1 x.2.2.2.2.1.2.2.2.2.2.2.2.2.2.2.2.2.2.1)
theorem e3i : Q0p E cp46 := conS eok e3h Q0z fun x => Eq.mp (by kernel_rfl) (c8z x.1 x.2.1 x.2.2.1 (x.2.2.2.1.1, x.2.2.2.1.2.1, x.2.2.2.1.2.2.1, x.2.2.2.1.2.2.2.1, x.2.2.2.1.2.2.2.2.1, x.2.2.2.1.2.2.2.2.2.1, x.2.2.2.1.2.2.2.2.2.2.1) x.2.2.2.2.1.1 x.2.2.2.2.1.2.1 x.2.2.2.2.1.2.2.1 x.2.2.2.2.1.2.2.2.1 x.2.2.2.2.1.2.2.2.2.1 x.2.2.2.2.1.2.2.2.2.2.1 x.2.2.2.2.1.2.2.2.2.2.2.1 x.2.2.2.2.1.2.2.2.2.2.2.2.1 x.2.2.2.2.1.2.2.2.2.2.2.2.2.1 x.2.2.2.2.1.2.2.2.2.2.2.2.2.2.1 x.2.2.2.2.1.2.2.2.2.2.2.2.2.2.2.1 x.2.2.2.2.1.2.2.2.2.2.2.2.2.2.2.2.1 x.2.2.2.2.1.2.2.2.2.2.2.2.2.2.2.2.2.1 x.2.2.2.2.1.2.2.2.2.2.2.2.2.2.2.2.2.2.1)
end
section
variable {α β : Type} (s_ : I3) (y_ : Int) (x_ : Int) (c_ : Int) (k : St → Option α)
noncomputable abbrev C46 := Q0r E.P 78
noncomputable abbrev P46 := @preK α E 78 cp46 noE
abbrev S46_0 : St := ⟨[(1, ri y_), (2, ri x_), (3, ri c_), (4, rC Q2o s_)], [], [], 53⟩
theorem d0p : P46 1 C46 ⟨[(0, rA Q2o s_), (1, ri y_), (2, ri x_), (3, ri c_)], [], [], 53⟩ k = k (S46_0 s_ y_ x_ c_) := by kernel_rfl
def b1i : Option Bool := (Option.bind (a4a s_) (fun y530 : Bool => (bif (!y530) then (some true) else (Option.bind (a0t [y_] (((a0e (0 : Int) (IntKind.wrap .i64 (s_.1 - 1))).1).1) (((a0e (0 : Int) (IntKind.wrap .i64 (s_.1 - 1))).2.1).1)) (fun y531 : Bool => (bif (!y531) then (some true) else (Option.bind (a0t [x_] (((a0e (0 : Int) (IntKind.wrap .i64 (s_.2.1 - 1))).1).1) (((a0e (0 : Int) (IntKind.wrap .i64 (s_.2.1 - 1))).2.1).1)) (fun y532 : Bool => (bif (!y532) then (some true) else (Option.bind (a0t [c_] (((a0e (0 : Int) (IntKind.wrap .i64 (s_.2.2 - 1))).1).1) (((a0e (0 : Int) (IntKind.wrap .i64 (s_.2.2 - 1))).2.1).1)) (fun y533 : Bool => (some (!y533)))))))))))))
theorem d0s : P46 1 C46.r.l (S46_0 s_ y_ x_ c_) k = Option.bind (b1i s_ y_ x_ c_) (fun y534 : Bool => k ⟨[(1, ri y_), (2, ri x_), (3, ri c_), (4, rC Q2o s_), (41, rb y534)], [], [], 53⟩) := .trans (by kernel_rfl) (Q0d fun y530 => (Q2b Q0b (Q0d fun y531 => (Q2b Q0b (Q0d fun y532 => (Q2b Q0b (Q0d fun y533 => Q0b)))))))
theorem d0q : P46 1 C46.r.l.r.t (S46_0 s_ y_ x_ c_) k = k ⟨[(8, ri (-1 : Int))], [], [], 53⟩ := by kernel_rfl
def b1j (K : Int → β) : β := (K (IntKind.wrap .i64 ((IntKind.wrap .i64 ((IntKind.wrap .i64 ((IntKind.wrap .i64 (y_ * s_.2.1)) + x_)) * s_.2.2)) + c_)))
def a65 : Int := b1j s_ y_ x_ c_ (fun y => y)
theorem c4l (K : Int → β) : b1j s_ y_ x_ c_ K = K (a65 s_ y_ x_ c_) := rfl
theorem d0t : P46 1 C46.r.r (S46_0 s_ y_ x_ c_) k = k ⟨[(8, ri (a65 s_ y_ x_ c_))], [], [], 53⟩ := Eq.trans (by kernel_rfl) (c4l s_ y_ x_ c_ (fun y535 : Int => k ⟨[(8, ri y535)], [], [], 53⟩))
def b3u : Option Int := (Option.bind (b1i s_ y_ x_ c_) (fun y534 : Bool => (bif y534 then (some (-1 : Int)) else (some (a65 s_ y_ x_ c_)))))
theorem d0r : Q2j E cp46 noE 78 [rA Q2o s_, ri y_, ri x_, ri c_] = Option.bind (b3u s_ y_ x_ c_) (fun y : Int => some (ri y : R)) := by
  refine .trans ?_ (Q0d fun y534 => (Q2b Q0b Q0b))
  refine (Q0l (nt := 53) (regs := [(0, rA Q2o s_), (1, ri y_), (2, ri x_), (3, ri c_)])).trans ?_
  refine (Q2d (d0p s_ y_ x_ c_ _)).trans ?_
  refine .trans Q0c ?_
  refine (Q2d (d0s s_ y_ x_ c_ _)).trans (Q0e fun y534 => ?_)
  refine (Q0m (b := y534) (st' := (S46_0 s_ y_ x_ c_)) ).trans (Q2f ?_ ?_)
  · refine (Q2d (d0q s_ y_ x_ c_ _)).trans ?_
    refine (Q0h).trans ?_
    refine Q0k.trans ?_
    kernel_rfl
  · refine (Q0i).trans ?_
    refine (Q0a (st' := (S46_0 s_ y_ x_ c_))).trans ?_
    refine (Q2d (d0t s_ y_ x_ c_ _)).trans ?_
    refine (Q0h).trans ?_
    kernel_rfl
noncomputable def cp47 : Q2g := Q2i cp46 78 [(.agg Q2o), pI, pI, pI] (.one pI) (fun y : Int => y) (fun x => b3u x.1 x.2.1 x.2.2.1 x.2.2.2.1)
theorem e3j : Q0p E cp47 := conS eok e3i Q0z fun x => Eq.mp (by kernel_rfl) (d0r x.1 x.2.1 x.2.2.1 x.2.2.2.1)
end
section
variable {α : Type} (y_ : Int) (x_ : Int) (c_ : Int) (c3_ : pane) (c4_ : I4) (k : St → Option α)
noncomputable abbrev C47 := Q0r E.P 77
noncomputable abbrev P47 := @preK α E 77 cp47 noE
def b0v : Option Int := (Option.bind (b3u (c4_.1, c4_.2.1, c4_.2.2.1) y_ x_ c_) (fun y536 : Int => (bif (decide ((0 : Int) ≤ y536)) then (bif (decide (y536 < (c3_.2.2.2.2.2.2.length : Int))) then (some (IntKind.wrap .i64 (gt c3_.2.2.2.2.2.2 y536 (0 : Int)))) else none) else none)))
theorem c94 : P47 2 C47 ⟨[(0, ri y_), (1, ri x_), (2, ri c_), (3, rC a04 c3_), (4, rC Q2n c4_)], [], [], 21⟩ k = Option.bind (b0v y_ x_ c_ c3_ c4_) (fun y537 : Int => k ⟨[(8, ri y537)], [], [], 21⟩) := .trans (by kernel_rfl) (Q0d fun y536 => (Q2b (Q2b Q0b Q0n) Q0n))
def b33 : Option Int := (Option.bind (b0v y_ x_ c_ c3_ c4_) (fun y537 : Int => (some y537)))
theorem c93 : Q2j E cp47 noE 77 [ri y_, ri x_, ri c_, rC a04 c3_, rC Q2n c4_] = Option.bind (b33 y_ x_ c_ c3_ c4_) (fun y : Int => some (ri y : R)) := by
  refine .trans ?_ (Q0d fun y537 => Q0b)
  refine (Q0l (nt := 21) (regs := [(0, ri y_), (1, ri x_), (2, ri c_), (3, rC a04 c3_), (4, rC Q2n c4_)])).trans ?_
  refine (pre2 (c94 y_ x_ c_ c3_ c4_ _)).trans (Q0e fun y537 => ?_)
  refine (Q0h).trans ?_
  kernel_rfl
noncomputable def cp48 : Q2g := Q2i cp47 77 [pI, pI, pI, (.one (.cell (.cons (.g (.int .i64)) (.cons (.g (.int .i64)) (.cons (.g (.int .i64)) (.cons (.g (.int .i64)) (.cons (.g (.int .i64)) (.cons (.g (.int .i64)) (.cons (.g (.sl (.one (.int .i8)))) .nil))))))))), (.one Z1)] (.one pI) (fun y : Int => y) (fun x => b33 x.1 x.2.1 x.2.2.1 (x.2.2.2.1.1, x.2.2.2.1.2.1, x.2.2.2.1.2.2.1, x.2.2.2.1.2.2.2.1, x.2.2.2.1.2.2.2.2.1, x.2.2.2.1.2.2.2.2.2.1, x.2.2.2.1.2.2.2.2.2.2.1) (x.2.2.2.2.1.1, x.2.2.2.2.1.2.1, x.2.2.2.2.1.2.2.1, x.2.2.2.2.1.2.2.2.1))
theorem e3k : Q0p E cp48 := conS eok e3j Q0z fun x => Eq.mp (by kernel_rfl) (c93 x.1 x.2.1 x.2.2.1 (x.2.2.2.1.1, x.2.2.2.1.2.1, x.2.2.2.1.2.2.1, x.2.2.2.1.2.2.2.1, x.2.2.2.1.2.2.2.2.1, x.2.2.2.1.2.2.2.2.2.1, x.2.2.2.1.2.2.2.2.2.2.1) (x.2.2.2.2.1.1, x.2.2.2.2.1.2.1, x.2.2.2.2.1.2.2.1, x.2.2.2.2.1.2.2.2.1))
end
section
variable {α : Type} (y_ : Int) (x_ : Int) (c_ : Int) (c3_ : Node) (c4_ : pane) (k : St → Option α)
noncomputable abbrev C48 := Q0r E.P 79
noncomputable abbrev P48 := @preK α E 79 cp48 noE
def b0w : Option Int := (Option.bind (a0j c4_ y_ x_ c_) (fun y540 : Int => (bif (decide ((0 : Int) ≤ (IntKind.wrap .i64 ((IntKind.wrap .i64 (y540 + c4_.2.2.2.1)) + 128)))) then (bif (decide ((IntKind.wrap .i64 ((IntKind.wrap .i64 (y540 + c4_.2.2.2.1)) + 128)) < (c3_.2.2.2.2.2.2.2.2.2.2.2.2.1.length : Int))) then (some (IntKind.wrap .i64 (gt c3_.2.2.2.2.2.2.2.2.2.2.2.2.1 (IntKind.wrap .i64 ((IntKind.wrap .i64 (y540 + c4_.2.2.2.1)) + 128)) (0 : Int)))) else none) else none)))
theorem c96 : P48 2 C48 ⟨[(0, ri y_), (1, ri x_), (2, ri c_), (3, rC a01 c3_), (4, rC a04 c4_)], [], [], 24⟩ k = Option.bind (b0w y_ x_ c_ c3_ c4_) (fun y541 : Int => k ⟨[(8, ri y541)], [], [], 24⟩) := .trans (by kernel_rfl) (Q0d fun y540 => (Q2b (Q2b Q0b Q0n) Q0n))
def b34 : Option Int := (Option.bind (b0w y_ x_ c_ c3_ c4_) (fun y541 : Int => (some y541)))
theorem c95 : Q2j E cp48 noE 79 [ri y_, ri x_, ri c_, rC a01 c3_, rC a04 c4_] = Option.bind (b34 y_ x_ c_ c3_ c4_) (fun y : Int => some (ri y : R)) := by
  refine .trans ?_ (Q0d fun y541 => Q0b)
  refine (Q0l (nt := 24) (regs := [(0, ri y_), (1, ri x_), (2, ri c_), (3, rC a01 c3_), (4, rC a04 c4_)])).trans ?_
  refine (pre2 (c96 y_ x_ c_ c3_ c4_ _)).trans (Q0e fun y541 => ?_)
  refine (Q0h).trans ?_
  kernel_rfl
noncomputable def cp49 : Q2g := Q2i cp48 79 [pI, pI, pI, (.one (.cell (.cons (.g (.int .i64)) (.cons (.g (.sl (.one (.int .i64)))) (.cons (.g (.int .i64)) (.cons (.g (.int .i64)) (.cons (.g (.int .i64)) (.cons (.g (.int .i64)) (.cons (.g (.int .i64)) (.cons (.g (.int .i64)) (.cons (.g (.int .i64)) (.cons (.g (.int .i64)) (.cons (.g (.int .i64)) (.cons (.g (.int .i64)) (.cons (.g (.sl (.one (.int .i8)))) (.cons (.g (.sl (.one (.int .i32)))) .nil)))))))))))))))), (.one (.cell (.cons (.g (.int .i64)) (.cons (.g (.int .i64)) (.cons (.g (.int .i64)) (.cons (.g (.int .i64)) (.cons (.g (.int .i64)) (.cons (.g (.int .i64)) (.cons (.g (.sl (.one (.int .i8)))) .nil)))))))))] (.one pI) (fun y : Int => y) (fun x => b34 x.1 x.2.1 x.2.2.1 (x.2.2.2.1.1, x.2.2.2.1.2.1, x.2.2.2.1.2.2.1, x.2.2.2.1.2.2.2.1, x.2.2.2.1.2.2.2.2.1, x.2.2.2.1.2.2.2.2.2.1, x.2.2.2.1.2.2.2.2.2.2.1, x.2.2.2.1.2.2.2.2.2.2.2.1, x.2.2.2.1.2.2.2.2.2.2.2.2.1, x.2.2.2.1.2.2.2.2.2.2.2.2.2.1, x.2.2.2.1.2.2.2.2.2.2.2.2.2.2.1, x.2.2.2.1.2.2.2.2.2.2.2.2.2.2.2.1, x.2.2.2.1.2.2.2.2.2.2.2.2.2.2.2.2.1, x.2.2.2.1.2.2.2.2.2.2.2.2.2.2.2.2.2.1) (x.2.2.2.2.1.1, x.2.2.2.2.1.2.1, x.2.2.2.2.1.2.2.1, x.2.2.2.2.1.2.2.2.1, x.2.2.2.2.1.2.2.2.2.1, x.2.2.2.2.1.2.2.2.2.2.1, x.2.2.2.2.1.2.2.2.2.2.2.1))
theorem c7e : Q0p E cp49 := conS eok e3k Q0z fun x => Eq.mp (by kernel_rfl) (c95 x.1 x.2.1 x.2.2.1 (x.2.2.2.1.1, x.2.2.2.1.2.1, x.2.2.2.1.2.2.1, x.2.2.2.1.2.2.2.1, x.2.2.2.1.2.2.2.2.1, x.2.2.2.1.2.2.2.2.2.1, x.2.2.2.1.2.2.2.2.2.2.1, x.2.2.2.1.2.2.2.2.2.2.2.1, x.2.2.2.1.2.2.2.2.2.2.2.2.1, x.2.2.2.1.2.2.2.2.2.2.2.2.2.1, x.2.2.2.1.2.2.2.2.2.2.2.2.2.2.1, x.2.2.2.1.2.2.2.2.2.2.2.2.2.2.2.1, x.2.2.2.1.2.2.2.2.2.2.2.2.2.2.2.2.1, x.2.2.2.1.2.2.2.2.2.2.2.2.2.2.2.2.2.1) (x.2.2.2.2.1.1, x.2.2.2.2.1.2.1, x.2.2.2.2.1.2.2.1, x.2.2.2.2.1.2.2.2.1, x.2.2.2.2.1.2.2.2.2.1, x.2.2.2.2.1.2.2.2.2.2.1, x.2.2.2.2.1.2.2.2.2.2.2.1))
end
section
variable {α β : Type} (i_ : Int) (j_ : Int) (c2_ : Int) (c3_ : Node) (c4_ : Int) (c5_ : Int) (c7_ : pane) (c8_ : Int) (s557 : (Int × Int)) (y561 : Int) (k : St → Option α) (q : Kont α)
noncomputable abbrev C49 := Q0r E.P 83
noncomputable abbrev P49 := @preK α E 83 cp49 noE
noncomputable abbrev R49 := @Q0o α E 83 cp49 noE
def a8v (K : (Int × Int × Int) → β) : β := (K ((IntKind.wrap .i64 ((IntKind.wrap .i64 ((IntKind.wrap .i64 (c2_ * c3_.2.2.2.1)) - c3_.2.2.2.2.1)) + i_)), (IntKind.wrap .i64 ((IntKind.wrap .i64 ((IntKind.wrap .i64 (c4_ * c3_.2.2.2.1)) - c3_.2.2.2.2.1)) + j_)), (IntKind.wrap .i64 ((IntKind.wrap .i64 ((IntKind.wrap .i64 ((IntKind.wrap .i64 (c5_ * c3_.2.2.1)) + i_)) * c3_.2.2.1)) + j_))))
def a03 : (Int × Int × Int) := a8v i_ j_ c2_ c3_ c4_ c5_ (fun y => y)
theorem b9q (K : (Int × Int × Int) → β) : a8v i_ j_ c2_ c3_ c4_ c5_ K = K (a03 i_ j_ c2_ c3_ c4_ c5_) := rfl
abbrev S49_0 : St := ⟨[(3, rC a01 c3_), (5, .one (.cell [di c5_])), (6, rF 0), (7, rC a04 c7_), (10, ri ((a03 i_ j_ c2_ c3_ c4_ c5_).1)), (11, ri ((a03 i_ j_ c2_ c3_ c4_ c5_).2.1)), (12, ri ((a03 i_ j_ c2_ c3_ c4_ c5_).2.2))], [[di c8_]], [], 89⟩
theorem c3j : P49 1 C49 ⟨[(0, ri i_), (1, ri j_), (2, .one (.cell [di c2_])), (3, rC a01 c3_), (4, .one (.cell [di c4_])), (5, .one (.cell [di c5_])), (6, rF 0), (7, rC a04 c7_)], [[di c8_]], [], 89⟩ k = k (S49_0 i_ j_ c2_ c3_ c4_ c5_ c7_ c8_) := Eq.trans (by kernel_rfl) (b9q i_ j_ c2_ c3_ c4_ c5_ (fun y547 : (Int × Int × Int) => k ⟨[(3, rC a01 c3_), (5, .one (.cell [di c5_])), (6, rF 0), (7, rC a04 c7_), (10, ri y547.1), (11, ri y547.2.1), (12, ri y547.2.2)], [[di c8_]], [], 89⟩))
theorem b2v : P49 1 C49.r.l (S49_0 i_ j_ c2_ c3_ c4_ c5_ c7_ c8_) k = k ⟨[(3, rC a01 c3_), (5, .one (.cell [di c5_])), (6, rF 0), (7, rC a04 c7_), (10, ri ((a03 i_ j_ c2_ c3_ c4_ c5_).1)), (11, ri ((a03 i_ j_ c2_ c3_ c4_ c5_).2.1)), (12, ri ((a03 i_ j_ c2_ c3_ c4_ c5_).2.2)), (45, rb (c3_.1 == 2))], [[di c8_]], [], 89⟩ := by kernel_rfl
def a8w : Option Int := (Option.bind (a0j c7_ ((a03 i_ j_ c2_ c3_ c4_ c5_).1) ((a03 i_ j_ c2_ c3_ c4_ c5_).2.1) c5_) (fun y550 : Int => (bif (decide ((0 : Int) ≤ ((a03 i_ j_ c2_ c3_ c4_ c5_).2.2))) then (bif (decide (((a03 i_ j_ c2_ c3_ c4_ c5_).2.2) < (c3_.2.2.2.2.2.2.2.2.2.2.2.2.1.length : Int))) then (some (IntKind.wrap .i64 (c8_ + (IntKind.wrap .i64 (y550 * (IntKind.wrap .i64 (gt c3_.2.2.2.2.2.2.2.2.2.2.2.2.1 ((a03 i_ j_ c2_ c3_ c4_ c5_).2.2) (0 : Int)))))))) else none) else none)))
theorem c3k : P49 1 C49.r.l.r.t (S49_0 i_ j_ c2_ c3_ c4_ c5_ c7_ c8_) k = Option.bind (a8w i_ j_ c2_ c3_ c4_ c5_ c7_ c8_) (fun y551 : Int => k ⟨[], [[di y551]], [], 89⟩) := .trans (by kernel_rfl) (Q0d fun y550 => (Q2b (Q2b Q0b Q0n) Q0n))
abbrev S49_1 : St := ⟨[(3, rC a01 c3_), (6, rF 0), (7, rC a04 c7_), (10, ri ((a03 i_ j_ c2_ c3_ c4_ c5_).1)), (11, ri ((a03 i_ j_ c2_ c3_ c4_ c5_).2.1)), (12, ri ((a03 i_ j_ c2_ c3_ c4_ c5_).2.2))], [[di c8_]], [], 89⟩
abbrev S49_2 : St := ⟨[(3, rC a01 c3_), (6, rF 0), (7, rC a04 c7_), (10, ri ((a03 i_ j_ c2_ c3_ c4_ c5_).1)), (11, ri ((a03 i_ j_ c2_ c3_ c4_ c5_).2.1)), (12, ri ((a03 i_ j_ c2_ c3_ c4_ c5_).2.2)), (63, ri c7_.2.2.1), (64, ri 0)], [[di c8_]], [], 89⟩
theorem c3e : P49 1 C49.r.r (S49_1 i_ j_ c2_ c3_ c4_ c5_ c7_ c8_) k = k (S49_2 i_ j_ c2_ c3_ c4_ c5_ c7_ c8_) := by kernel_rfl
abbrev S49_3 : St := ⟨[(3, rC a01 c3_), (6, rF 0), (7, rC a04 c7_), (10, ri ((a03 i_ j_ c2_ c3_ c4_ c5_).1)), (11, ri ((a03 i_ j_ c2_ c3_ c4_ c5_).2.1)), (12, ri ((a03 i_ j_ c2_ c3_ c4_ c5_).2.2)), (63, ri c7_.2.2.1), (64, ri s557.1)], [[di s557.2]], [], 89⟩
theorem c3g : P49 1 C49.r.r.r.b.b (S49_3 i_ j_ c2_ c3_ c4_ c5_ c7_ s557) k = k ⟨[(3, rC a01 c3_), (6, rF 0), (7, rC a04 c7_), (10, ri ((a03 i_ j_ c2_ c3_ c4_ c5_).1)), (11, ri ((a03 i_ j_ c2_ c3_ c4_ c5_).2.1)), (12, ri ((a03 i_ j_ c2_ c3_ c4_ c5_).2.2)), (63, ri c7_.2.2.1), (64, ri s557.1), (65, rb (decide (s557.1 < c7_.2.2.1)))], [[di s557.2]], [], 89⟩ := by kernel_rfl
abbrev S49_4 : St := ⟨[(3, rC a01 c3_), (6, rF 0), (7, rC a04 c7_), (10, ri ((a03 i_ j_ c2_ c3_ c4_ c5_).1)), (11, ri ((a03 i_ j_ c2_ c3_ c4_ c5_).2.1)), (12, ri ((a03 i_ j_ c2_ c3_ c4_ c5_).2.2)), (13, ri s557.1), (63, ri c7_.2.2.1), (64, ri s557.1)], [[di s557.2]], [], 89⟩
theorem c3f : P49 1 C49.r.r.r.b.b.r.r.l.b (S49_3 i_ j_ c2_ c3_ c4_ c5_ c7_ s557) k = k (S49_4 i_ j_ c2_ c3_ c4_ c5_ c7_ s557) := by kernel_rfl
def a8x : Option Int := (Option.bind (a0j c7_ ((a03 i_ j_ c2_ c3_ c4_ c5_).1) ((a03 i_ j_ c2_ c3_ c4_ c5_).2.1) s557.1) (fun y560 : Int => (bif (decide ((0 : Int) ≤ (IntKind.wrap .i64 ((IntKind.wrap .i64 (((a03 i_ j_ c2_ c3_ c4_ c5_).2.2) * c7_.2.2.1)) + s557.1)))) then (bif (decide ((IntKind.wrap .i64 ((IntKind.wrap .i64 (((a03 i_ j_ c2_ c3_ c4_ c5_).2.2) * c7_.2.2.1)) + s557.1)) < (c3_.2.2.2.2.2.2.2.2.2.2.2.2.1.length : Int))) then (some (IntKind.wrap .i64 (s557.2 + (IntKind.wrap .i64 (y560 * (IntKind.wrap .i64 (gt c3_.2.2.2.2.2.2.2.2.2.2.2.2.1 (IntKind.wrap .i64 ((IntKind.wrap .i64 (((a03 i_ j_ c2_ c3_ c4_ c5_).2.2) * c7_.2.2.1)) + s557.1)) (0 : Int)))))))) else none) else none)))
abbrev S49_5 : St := ⟨[(3, rC a01 c3_), (6, rF 0), (7, rC a04 c7_), (10, ri ((a03 i_ j_ c2_ c3_ c4_ c5_).1)), (11, ri ((a03 i_ j_ c2_ c3_ c4_ c5_).2.1)), (12, ri ((a03 i_ j_ c2_ c3_ c4_ c5_).2.2)), (63, ri c7_.2.2.1), (64, ri s557.1)], [[di y561]], [], 89⟩
theorem c3l : R49 C49.r.r.r.b.b.r.r.l.b.r (S49_4 i_ j_ c2_ c3_ c4_ c5_ c7_ s557) q = Option.bind (a8x i_ j_ c2_ c3_ c4_ c5_ c7_ s557) (fun y561 : Int => q .normal (S49_5 i_ j_ c2_ c3_ c4_ c5_ c7_ s557 y561)) := .trans (by kernel_rfl) (Q0d fun y560 => (Q2b (Q2b Q0b Q0n) Q0n))
theorem c3m : R49 C49.r.r.r.b.b.r.r.r (S49_5 i_ j_ c2_ c3_ c4_ c5_ c7_ s557 y561) q = q .normal ⟨[(3, rC a01 c3_), (6, rF 0), (7, rC a04 c7_), (10, ri ((a03 i_ j_ c2_ c3_ c4_ c5_).1)), (11, ri ((a03 i_ j_ c2_ c3_ c4_ c5_).2.1)), (12, ri ((a03 i_ j_ c2_ c3_ c4_ c5_).2.2)), (63, ri c7_.2.2.1), (64, ri (IntKind.wrap .i64 (s557.1 + 1)))], [[di y561]], [], 89⟩ := by kernel_rfl
def a47 : Option ((Int × Int) ⊕ (Int × Int)) := (bif (decide (s557.1 < c7_.2.2.1)) then (Option.bind (a8x i_ j_ c2_ c3_ c4_ c5_ c7_ s557) (fun y561 : Int => (some (Sum.inl ((IntKind.wrap .i64 (s557.1 + 1)), y561))))) else (some (Sum.inr s557)))
abbrev S49_6 (y562 : (Int × Int)) : St := ⟨[(3, rC a01 c3_), (6, rF 0), (7, rC a04 c7_), (10, ri ((a03 i_ j_ c2_ c3_ c4_ c5_).1)), (11, ri ((a03 i_ j_ c2_ c3_ c4_ c5_).2.1)), (12, ri ((a03 i_ j_ c2_ c3_ c4_ c5_).2.2)), (63, ri c7_.2.2.1), (64, ri y562.1)], [[di y562.2]], [], 89⟩
theorem b9p : R49 C49.r.r.r.b.b (S49_3 i_ j_ c2_ c3_ c4_ c5_ c7_ s557) (Q0w 1 q) = Option.bind (a47 i_ j_ c2_ c3_ c4_ c5_ c7_ s557) (Q1z (fun y : (Int × Int) => q .normal ⟨[(3, rC a01 c3_), (6, rF 0), (7, rC a04 c7_), (10, ri ((a03 i_ j_ c2_ c3_ c4_ c5_).1)), (11, ri ((a03 i_ j_ c2_ c3_ c4_ c5_).2.1)), (12, ri ((a03 i_ j_ c2_ c3_ c4_ c5_).2.2)), (63, ri c7_.2.2.1), (64, ri y.1)], [[di y.2]], [], 89⟩) (fun y562 : (Int × Int) => q (.exit 0) (S49_6 i_ j_ c2_ c3_ c4_ c5_ c7_ y562))) := by
  refine .trans ?_ (Q2b (Q0d fun y561 => e2_0) e2_1)
  refine (Q2d (c3g i_ j_ c2_ c3_ c4_ c5_ c7_ s557 _)).trans ?_
  refine .trans Q0c ?_
  refine (Q0m (b := (decide (s557.1 < c7_.2.2.1))) (st' := (S49_3 i_ j_ c2_ c3_ c4_ c5_ c7_ s557)) ).trans (Q2f ?_ ?_)
  · refine (Q0i).trans ?_
    refine (Q0a (st' := (S49_3 i_ j_ c2_ c3_ c4_ c5_ c7_ s557))).trans ?_
    refine .trans Q0c ?_
    refine (Q0j (id := 1)).trans ?_
    refine (Q2d (c3f i_ j_ c2_ c3_ c4_ c5_ c7_ s557 _)).trans ?_
    refine (c3l i_ j_ c2_ c3_ c4_ c5_ c7_ s557 _).trans (Q0e fun y561 => ?_)
    refine Q0f.trans ?_
    refine (Q0a (st' := (S49_5 i_ j_ c2_ c3_ c4_ c5_ c7_ s557 y561))).trans ?_
    refine (c3m i_ j_ c2_ c3_ c4_ c5_ c7_ s557 y561 _).trans ?_
    kernel_rfl
  · refine ((Q1f (j := 0))).trans ?_
    refine Q0v.trans ?_
    kernel_rfl
theorem c3i : R49 C49.r.r.r.b (S49_2 i_ j_ c2_ c3_ c4_ c5_ c7_ c8_) q = Option.bind (iterN (a47 i_ j_ c2_ c3_ c4_ c5_ c7_) LL ((0 : Int), c8_)) (fun y562 : (Int × Int) => q (.exit 0) (S49_6 i_ j_ c2_ c3_ c4_ c5_ c7_ y562)) :=
  Eq.trans (by kernel_rfl) (Q1a (S := fun s557 : (Int × Int) => (S49_3 i_ j_ c2_ c3_ c4_ c5_ c7_ s557)) (Y1 := fun y562 : (Int × Int) => ((.exit 0), (S49_6 i_ j_ c2_ c3_ c4_ c5_ c7_ y562))) (fun s q => b9p i_ j_ c2_ c3_ c4_ c5_ c7_ s q) (fun z => rfl) LL ((0 : Int), c8_))
def a5p : Option Int := (bif (c3_.1 == 2) then (Option.bind (a8w i_ j_ c2_ c3_ c4_ c5_ c7_ c8_) (fun y551 : Int => (some y551))) else (Option.bind (iterN (a47 i_ j_ c2_ c3_ c4_ c5_ c7_) LL ((0 : Int), c8_)) (fun y562 : (Int × Int) => (some y562.2))))
theorem c3h (k : R → Heap → Option α) : Q1m E cp49 noE α 83 [ri i_, ri j_, .one (.cell [di c2_]), rC a01 c3_, .one (.cell [di c4_]), .one (.cell [di c5_]), rF 0, rC a04 c7_] [[di c8_]] k = Option.bind (a5p i_ j_ c2_ c3_ c4_ c5_ c7_ c8_) (fun y : Int => k (.tup []) [[di y]]) := by
  refine .trans ?_ (Q2b (Q0d fun y551 => Q0b) (Q0d fun y562 => Q0b))
  refine (body_is (nt := 89) (regs := [(0, ri i_), (1, ri j_), (2, .one (.cell [di c2_])), (3, rC a01 c3_), (4, .one (.cell [di c4_])), (5, .one (.cell [di c5_])), (6, rF 0), (7, rC a04 c7_)]) (by kernel_rfl) (by kernel_rfl)).trans ?_
  refine (Q2d (c3j i_ j_ c2_ c3_ c4_ c5_ c7_ c8_ _)).trans ?_
  refine .trans Q0c ?_
  refine (Q2d (b2v i_ j_ c2_ c3_ c4_ c5_ c7_ c8_ _)).trans ?_
  refine (Q0m (b := (c3_.1 == 2)) (st' := (S49_0 i_ j_ c2_ c3_ c4_ c5_ c7_ c8_)) ).trans (Q2f ?_ ?_)
  · refine (Q2d (c3k i_ j_ c2_ c3_ c4_ c5_ c7_ c8_ _)).trans (Q0e fun y551 => ?_)
    refine (Q0h).trans ?_
    refine Q0k.trans ?_
    kernel_rfl
  · refine (Q0i).trans ?_
    refine (Q0a (st' := (S49_1 i_ j_ c2_ c3_ c4_ c5_ c7_ c8_))).trans ?_
    refine (Q2d (c3e i_ j_ c2_ c3_ c4_ c5_ c7_ c8_ _)).trans ?_
    refine (Q0j (id := 0)).trans ?_
    refine (c3i i_ j_ c2_ c3_ c4_ c5_ c7_ c8_ _).trans (Q0e fun y562 => ?_)
    refine Q0u.trans ?_
    kernel_rfl
noncomputable def ce1 : CallE := withE noE 83 (decA [pI, pI, (.one (.cell (.cons (.g (.int .i64)) .nil))), (.one (.cell (.cons (.g (.int .i64)) (.cons (.g (.sl (.one (.int .i64)))) (.cons (.g (.int .i64)) (.cons (.g (.int .i64)) (.cons (.g (.int .i64)) (.cons (.g (.int .i64)) (.cons (.g (.int .i64)) (.cons (.g (.int .i64)) (.cons (.g (.int .i64)) (.cons (.g (.int .i64)) (.cons (.g (.int .i64)) (.cons (.g (.int .i64)) (.cons (.g (.sl (.one (.int .i8)))) (.cons (.g (.sl (.one (.int .i32)))) .nil)))))))))))))))), (.one (.cell (.cons (.g (.int .i64)) .nil))), (.one (.cell (.cons (.g (.int .i64)) .nil))), (.one (.ref 0 0)), (.one (.cell (.cons (.g (.int .i64)) (.cons (.g (.int .i64)) (.cons (.g (.int .i64)) (.cons (.g (.int .i64)) (.cons (.g (.int .i64)) (.cons (.g (.int .i64)) (.cons (.g (.sl (.one (.int .i8)))) .nil)))))))))] [(.cons (.g (.int .i64)) .nil)]) .unit (fun y : Int => ()) (fun x y => [[di y]]) (fun x => a5p x.1.1 x.1.2.1 x.1.2.2.1.1 (x.1.2.2.2.1.1, x.1.2.2.2.1.2.1, x.1.2.2.2.1.2.2.1, x.1.2.2.2.1.2.2.2.1, x.1.2.2.2.1.2.2.2.2.1, x.1.2.2.2.1.2.2.2.2.2.1, x.1.2.2.2.1.2.2.2.2.2.2.1, x.1.2.2.2.1.2.2.2.2.2.2.2.1, x.1.2.2.2.1.2.2.2.2.2.2.2.2.1, x.1.2.2.2.1.2.2.2.2.2.2.2.2.2.1, x.1.2.2.2.1.2.2.2.2.2.2.2.2.2.2.1, x.1.2.2.2.1.2.2.2.2.2.2.2.2.2.2.2.1, x.1.2.2.2.1.2.2.2.2.2.2.2.2.2.2.2.2.1, x.1.2.2.2.1.2.2.2.2.2.2.2.2.2.2.2.2.2.1) x.1.2.2.2.2.1.1 x.1.2.2.2.2.2.1.1 (x.1.2.2.2.2.2.2.2.1.1, x.1.2.2.2.2.2.2.2.1.2.1, x.1.2.2.2.2.2.2.2.1.2.2.1, x.1.2.2.2.2.2.2.2.1.2.2.2.1, x.1.2.2.2.2.2.2.2.1.2.2.2.2.1, x.1.2.2.2.2.2.2.2.1.2.2.2.2.2.1, x.1.2.2.2.2.2.2.2.1.2.2.2.2.2.2.1) x.2.1.1)
theorem e4d : EffOK E ce1 := conE eok c7e Q0z fun α x k => Eq.mp (by kernel_rfl) (c3h x.1.1 x.1.2.1 x.1.2.2.1.1 (x.1.2.2.2.1.1, x.1.2.2.2.1.2.1, x.1.2.2.2.1.2.2.1, x.1.2.2.2.1.2.2.2.1, x.1.2.2.2.1.2.2.2.2.1, x.1.2.2.2.1.2.2.2.2.2.1, x.1.2.2.2.1.2.2.2.2.2.2.1, x.1.2.2.2.1.2.2.2.2.2.2.2.1, x.1.2.2.2.1.2.2.2.2.2.2.2.2.1, x.1.2.2.2.1.2.2.2.2.2.2.2.2.2.1, x.1.2.2.2.1.2.2.2.2.2.2.2.2.2.2.1, x.1.2.2.2.1.2.2.2.2.2.2.2.2.2.2.2.1, x.1.2.2.2.1.2.2.2.2.2.2.2.2.2.2.2.2.1, x.1.2.2.2.1.2.2.2.2.2.2.2.2.2.2.2.2.2.1) x.1.2.2.2.2.1.1 x.1.2.2.2.2.2.1.1 (x.1.2.2.2.2.2.2.2.1.1, x.1.2.2.2.2.2.2.2.1.2.1, x.1.2.2.2.2.2.2.2.1.2.2.1, x.1.2.2.2.2.2.2.2.1.2.2.2.1, x.1.2.2.2.2.2.2.2.1.2.2.2.2.1, x.1.2.2.2.2.2.2.2.1.2.2.2.2.2.1, x.1.2.2.2.2.2.2.2.1.2.2.2.2.2.2.1) x.2.1.1 k)
end
section
variable {α : Type} (k_ : Int) (do_ : Int) (do_' : Node) (do_'' : Int) (do_''' : Int) (do_'''' : pane) (c2_ : Int) (s576 : (Int × Int)) (s587 : (Int × Int)) (y589 : Int) (y590 : (Int × Int)) (k : St → Option α) (q : Kont α)
noncomputable abbrev C50 := Q0r E.P 82
noncomputable abbrev P50 := @preK α E 82 cp49 ce1
noncomputable abbrev R50 := @Q0o α E 82 cp49 ce1
abbrev S50_0 : St := ⟨[(0, ri k_), (1, .one (.fn 83 [.cell [di do_], .cell (a01.leaves do_'), .cell [di do_''], .cell [di do_'''], .ref 0 0, .cell (a04.leaves do_'''')])), (6, ri k_), (7, ri 0)], [[di c2_]], [], 20⟩
theorem d2p : P50 1 C50 ⟨[(0, ri k_), (1, .one (.fn 83 [.cell [di do_], .cell (a01.leaves do_'), .cell [di do_''], .cell [di do_'''], .ref 0 0, .cell (a04.leaves do_'''')]))], [[di c2_]], [], 20⟩ k = k (S50_0 k_ do_ do_' do_'' do_''' do_'''' c2_) := by kernel_rfl
abbrev S50_1 : St := ⟨[(0, ri k_), (1, .one (.fn 83 [.cell [di do_], .cell (a01.leaves do_'), .cell [di do_''], .cell [di do_'''], .ref 0 0, .cell (a04.leaves do_'''')])), (6, ri k_), (7, ri s576.1)], [[di s576.2]], [], 20⟩
theorem d2s : P50 1 C50.r.b.b (S50_1 k_ do_ do_' do_'' do_''' do_'''' s576) k = k ⟨[(0, ri k_), (1, .one (.fn 83 [.cell [di do_], .cell (a01.leaves do_'), .cell [di do_''], .cell [di do_'''], .ref 0 0, .cell (a04.leaves do_'''')])), (6, ri k_), (7, ri s576.1), (8, rb (decide (s576.1 < k_)))], [[di s576.2]], [], 20⟩ := by kernel_rfl
abbrev S50_2 : St := ⟨[(0, ri k_), (1, .one (.fn 83 [.cell [di do_], .cell (a01.leaves do_'), .cell [di do_''], .cell [di do_'''], .ref 0 0, .cell (a04.leaves do_'''')])), (4, ri s576.1), (6, ri k_), (7, ri s576.1), (10, ri k_), (11, ri 0)], [[di s576.2]], [], 20⟩
theorem d2q : P50 2 C50.r.b.b.r.r.l.b (S50_1 k_ do_ do_' do_'' do_''' do_'''' s576) k = k (S50_2 k_ do_ do_' do_'' do_''' do_'''' s576) := by kernel_rfl
abbrev S50_3 : St := ⟨[(0, ri k_), (1, .one (.fn 83 [.cell [di do_], .cell (a01.leaves do_'), .cell [di do_''], .cell [di do_'''], .ref 0 0, .cell (a04.leaves do_'''')])), (4, ri s576.1), (6, ri k_), (7, ri s576.1), (10, ri k_), (11, ri s587.1)], [[di s587.2]], [], 20⟩
theorem c5v : P50 1 C50.r.b.b.r.r.l.b.r.r.b.b (S50_3 k_ do_ do_' do_'' do_''' do_'''' s576 s587) k = k ⟨[(0, ri k_), (1, .one (.fn 83 [.cell [di do_], .cell (a01.leaves do_'), .cell [di do_''], .cell [di do_'''], .ref 0 0, .cell (a04.leaves do_'''')])), (4, ri s576.1), (6, ri k_), (7, ri s576.1), (10, ri k_), (11, ri s587.1), (12, rb (decide (s587.1 < k_)))], [[di s587.2]], [], 20⟩ := by kernel_rfl
abbrev S50_4 : St := ⟨[(0, ri k_), (1, .one (.fn 83 [.cell [di do_], .cell (a01.leaves do_'), .cell [di do_''], .cell [di do_'''], .ref 0 0, .cell (a04.leaves do_'''')])), (4, ri s576.1), (5, ri s587.1), (6, ri k_), (7, ri s576.1), (10, ri k_), (11, ri s587.1)], [[di s587.2]], [], 20⟩
theorem d2r : P50 1 C50.r.b.b.r.r.l.b.r.r.b.b.r.r.l.b (S50_3 k_ do_ do_' do_'' do_''' do_'''' s576 s587) k = k (S50_4 k_ do_ do_' do_'' do_''' do_'''' s576 s587) := by kernel_rfl
abbrev S50_5 : St := ⟨[(0, ri k_), (1, .one (.fn 83 [.cell [di do_], .cell (a01.leaves do_'), .cell [di do_''], .cell [di do_'''], .ref 0 0, .cell (a04.leaves do_'''')])), (4, ri s576.1), (6, ri k_), (7, ri s576.1), (10, ri k_), (11, ri s587.1)], [[di y589]], [], 20⟩
theorem d2w : R50 C50.r.b.b.r.r.l.b.r.r.b.b.r.r.l.b.r (S50_4 k_ do_ do_' do_'' do_''' do_'''' s576 s587) q = Option.bind (a5p s576.1 s587.1 do_ do_' do_'' do_''' do_'''' s587.2) fun y589 : Int => q .normal (S50_5 k_ do_ do_' do_'' do_''' do_'''' s576 s587 y589) := by kernel_rfl
theorem d2x : R50 C50.r.b.b.r.r.l.b.r.r.b.b.r.r.r (S50_5 k_ do_ do_' do_'' do_''' do_'''' s576 s587 y589) q = q .normal ⟨[(0, ri k_), (1, .one (.fn 83 [.cell [di do_], .cell (a01.leaves do_'), .cell [di do_''], .cell [di do_'''], .ref 0 0, .cell (a04.leaves do_'''')])), (4, ri s576.1), (6, ri k_), (7, ri s576.1), (10, ri k_), (11, ri (IntKind.wrap .i64 (s587.1 + 1)))], [[di y589]], [], 20⟩ := by kernel_rfl
def a6p : Option ((Int × Int) ⊕ (Int × Int)) := (bif (decide (s587.1 < k_)) then (Option.bind (a5p s576.1 s587.1 do_ do_' do_'' do_''' do_'''' s587.2) (fun y589 : Int => (some (Sum.inl ((IntKind.wrap .i64 (s587.1 + 1)), y589))))) else (some (Sum.inr s587)))
abbrev S50_6 : St := ⟨[(0, ri k_), (1, .one (.fn 83 [.cell [di do_], .cell (a01.leaves do_'), .cell [di do_''], .cell [di do_'''], .ref 0 0, .cell (a04.leaves do_'''')])), (4, ri s576.1), (6, ri k_), (7, ri s576.1), (10, ri k_), (11, ri y590.1)], [[di y590.2]], [], 20⟩
theorem c5x : R50 C50.r.b.b.r.r.l.b.r.r.b.b (S50_3 k_ do_ do_' do_'' do_''' do_'''' s576 s587) (Q0w 1 q) = Option.bind (a6p k_ do_ do_' do_'' do_''' do_'''' s576 s587) (Q1z (fun y : (Int × Int) => q .normal ⟨[(0, ri k_), (1, .one (.fn 83 [.cell [di do_], .cell (a01.leaves do_'), .cell [di do_''], .cell [di do_'''], .ref 0 0, .cell (a04.leaves do_'''')])), (4, ri s576.1), (6, ri k_), (7, ri s576.1), (10, ri k_), (11, ri y.1)], [[di y.2]], [], 20⟩) (fun y590 : (Int × Int) => q (.exit 2) (S50_6 k_ do_ do_' do_'' do_''' do_'''' s576 y590))) := by
  refine .trans ?_ (Q2b (Q0d fun y589 => e2_0) e2_1)
  refine (Q2d (c5v k_ do_ do_' do_'' do_''' do_'''' s576 s587 _)).trans ?_
  refine .trans Q0c ?_
  refine (Q0m (b := (decide (s587.1 < k_))) (st' := (S50_3 k_ do_ do_' do_'' do_''' do_'''' s576 s587)) ).trans (Q2f ?_ ?_)
  · refine (Q0i).trans ?_
    refine (Q0a (st' := (S50_3 k_ do_ do_' do_'' do_''' do_'''' s576 s587))).trans ?_
    refine .trans Q0c ?_
    refine (Q0j (id := 3)).trans ?_
    refine (Q2d (d2r k_ do_ do_' do_'' do_''' do_'''' s576 s587 _)).trans ?_
    refine (d2w k_ do_ do_' do_'' do_''' do_'''' s576 s587 _).trans (Q0e fun y589 => ?_)
    refine Q0f.trans ?_
    refine (Q0a (st' := (S50_5 k_ do_ do_' do_'' do_''' do_'''' s576 s587 y589))).trans ?_
    refine (d2x k_ do_ do_' do_'' do_''' do_'''' s576 s587 y589 _).trans ?_
    kernel_rfl
  · refine ((Q1f (j := 2))).trans ?_
    refine Q0v.trans ?_
    kernel_rfl
theorem d2v : R50 C50.r.b.b.r.r.l.b.r.r.b (S50_2 k_ do_ do_' do_'' do_''' do_'''' s576) q = Option.bind (iterN (a6p k_ do_ do_' do_'' do_''' do_'''' s576) LL ((0 : Int), s576.2)) (fun y590 : (Int × Int) => q (.exit 2) (S50_6 k_ do_ do_' do_'' do_''' do_'''' s576 y590)) :=
  Eq.trans (by kernel_rfl) (Q1a (S := fun s587 : (Int × Int) => (S50_3 k_ do_ do_' do_'' do_''' do_'''' s576 s587)) (Y1 := fun y590 : (Int × Int) => ((.exit 2), (S50_6 k_ do_ do_' do_'' do_''' do_'''' s576 y590))) (fun s q => c5x k_ do_ do_' do_'' do_''' do_'''' s576 s q) (fun z => rfl) LL ((0 : Int), s576.2))
abbrev S50_7 : St := ⟨[(0, ri k_), (1, .one (.fn 83 [.cell [di do_], .cell (a01.leaves do_'), .cell [di do_''], .cell [di do_'''], .ref 0 0, .cell (a04.leaves do_'''')])), (6, ri k_), (7, ri s576.1)], [[di y590.2]], [], 20⟩
theorem d2y : R50 C50.r.b.b.r.r.r (S50_7 k_ do_ do_' do_'' do_''' do_'''' s576 y590) q = q .normal ⟨[(0, ri k_), (1, .one (.fn 83 [.cell [di do_], .cell (a01.leaves do_'), .cell [di do_''], .cell [di do_'''], .ref 0 0, .cell (a04.leaves do_'''')])), (6, ri k_), (7, ri (IntKind.wrap .i64 (s576.1 + 1)))], [[di y590.2]], [], 20⟩ := by kernel_rfl
def a6o : Option ((Int × Int) ⊕ (Int × Int)) := (bif (decide (s576.1 < k_)) then (Option.bind (iterN (a6p k_ do_ do_' do_'' do_''' do_'''' s576) LL ((0 : Int), s576.2)) (fun y590 : (Int × Int) => (some (Sum.inl ((IntKind.wrap .i64 (s576.1 + 1)), y590.2))))) else (some (Sum.inr s576)))
abbrev S50_8 (y591 : (Int × Int)) : St := ⟨[(0, ri k_), (1, .one (.fn 83 [.cell [di do_], .cell (a01.leaves do_'), .cell [di do_''], .cell [di do_'''], .ref 0 0, .cell (a04.leaves do_'''')])), (6, ri k_), (7, ri y591.1)], [[di y591.2]], [], 20⟩
theorem c5w : R50 C50.r.b.b (S50_1 k_ do_ do_' do_'' do_''' do_'''' s576) (Q0w 1 q) = Option.bind (a6o k_ do_ do_' do_'' do_''' do_'''' s576) (Q1z (fun y : (Int × Int) => q .normal ⟨[(0, ri k_), (1, .one (.fn 83 [.cell [di do_], .cell (a01.leaves do_'), .cell [di do_''], .cell [di do_'''], .ref 0 0, .cell (a04.leaves do_'''')])), (6, ri k_), (7, ri y.1)], [[di y.2]], [], 20⟩) (fun y591 : (Int × Int) => q (.exit 0) (S50_8 k_ do_ do_' do_'' do_''' do_'''' y591))) := by
  refine .trans ?_ (Q2b (Q0d fun y590 => e2_0) e2_1)
  refine (Q2d (d2s k_ do_ do_' do_'' do_''' do_'''' s576 _)).trans ?_
  refine .trans Q0c ?_
  refine (Q0m (b := (decide (s576.1 < k_))) (st' := (S50_1 k_ do_ do_' do_'' do_''' do_'''' s576)) ).trans (Q2f ?_ ?_)
  · refine (Q0i).trans ?_
    refine (Q0a (st' := (S50_1 k_ do_ do_' do_'' do_''' do_'''' s576))).trans ?_
    refine .trans Q0c ?_
    refine (Q0j (id := 1)).trans ?_
    refine (pre2 (d2q k_ do_ do_' do_'' do_''' do_'''' s576 _)).trans ?_
    refine (Q0j (id := 2)).trans ?_
    refine (d2v k_ do_ do_' do_'' do_''' do_'''' s576 _).trans (Q0e fun y590 => ?_)
    refine Q0u.trans ?_
    refine Q0f.trans ?_
    refine (Q0a (st' := (S50_7 k_ do_ do_' do_'' do_''' do_'''' s576 y590))).trans ?_
    refine (d2y k_ do_ do_' do_'' do_''' do_'''' s576 y590 _).trans ?_
    kernel_rfl
  · refine ((Q1f (j := 0))).trans ?_
    refine Q0v.trans ?_
    kernel_rfl
theorem d2u : R50 C50.r.b (S50_0 k_ do_ do_' do_'' do_''' do_'''' c2_) q = Option.bind (iterN (a6o k_ do_ do_' do_'' do_''' do_'''') LL ((0 : Int), c2_)) (fun y591 : (Int × Int) => q (.exit 0) (S50_8 k_ do_ do_' do_'' do_''' do_'''' y591)) :=
  Eq.trans (by kernel_rfl) (Q1a (S := fun s576 : (Int × Int) => (S50_1 k_ do_ do_' do_'' do_''' do_'''' s576)) (Y1 := fun y591 : (Int × Int) => ((.exit 0), (S50_8 k_ do_ do_' do_'' do_''' do_'''' y591))) (fun s q => c5w k_ do_ do_' do_'' do_''' do_'''' s q) (fun z => rfl) LL ((0 : Int), c2_))
def a9z : Option Int := (Option.bind (iterN (a6o k_ do_ do_' do_'' do_''' do_'''') LL ((0 : Int), c2_)) (fun y591 : (Int × Int) => (some y591.2)))
theorem d2t (k : R → Heap → Option α) : Q1m E cp49 ce1 α 82 [ri k_, .one (.fn 83 [.cell [di do_], .cell (a01.leaves do_'), .cell [di do_''], .cell [di do_'''], .ref 0 0, .cell (a04.leaves do_'''')])] [[di c2_]] k = Option.bind (a9z k_ do_ do_' do_'' do_''' do_'''' c2_) (fun y : Int => k (.tup []) [[di y]]) := by
  refine .trans ?_ (Q0d fun y591 => Q0b)
  refine (body_is (nt := 20) (regs := [(0, ri k_), (1, .one (.fn 83 [.cell [di do_], .cell (a01.leaves do_'), .cell [di do_''], .cell [di do_'''], .ref 0 0, .cell (a04.leaves do_'''')]))]) (by kernel_rfl) (by kernel_rfl)).trans ?_
  refine (Q2d (d2p k_ do_ do_' do_'' do_''' do_'''' c2_ _)).trans ?_
  refine (Q0j (id := 0)).trans ?_
  refine (d2u k_ do_ do_' do_'' do_''' do_'''' c2_ _).trans (Q0e fun y591 => ?_)
  refine Q0u.trans ?_
  kernel_rfl
noncomputable def ce2 : CallE := withE ce1 82 (decA [pI, (.one (.fn 83 (.cons (.cell (.cons (.g (.int .i64)) .nil)) (.cons (.cell (.cons (.g (.int .i64)) (.cons (.g (.sl (.one (.int .i64)))) (.cons (.g (.int .i64)) (.cons (.g (.int .i64)) (.cons (.g (.int .i64)) (.cons (.g (.int .i64)) (.cons (.g (.int .i64)) (.cons (.g (.int .i64)) (.cons (.g (.int .i64)) (.cons (.g (.int .i64)) (.cons (.g (.int .i64)) (.cons (.g (.int .i64)) (.cons (.g (.sl (.one (.int .i8)))) (.cons (.g (.sl (.one (.int .i32)))) .nil))))))))))))))) (.cons (.cell (.cons (.g (.int .i64)) .nil)) (.cons (.cell (.cons (.g (.int .i64)) .nil)) (.cons (.ref 0 0) (.cons (.cell (.cons (.g (.int .i64)) (.cons (.g (.int .i64)) (.cons (.g (.int .i64)) (.cons (.g (.int .i64)) (.cons (.g (.int .i64)) (.cons (.g (.int .i64)) (.cons (.g (.sl (.one (.int .i8)))) .nil)))))))) .nil))))))))] [(.cons (.g (.int .i64)) .nil)]) .unit (fun y : Int => ()) (fun x y => [[di y]]) (fun x => a9z x.1.1 x.1.2.1.1.1 (x.1.2.1.2.1.1, x.1.2.1.2.1.2.1, x.1.2.1.2.1.2.2.1, x.1.2.1.2.1.2.2.2.1, x.1.2.1.2.1.2.2.2.2.1, x.1.2.1.2.1.2.2.2.2.2.1, x.1.2.1.2.1.2.2.2.2.2.2.1, x.1.2.1.2.1.2.2.2.2.2.2.2.1, x.1.2.1.2.1.2.2.2.2.2.2.2.2.1, x.1.2.1.2.1.2.2.2.2.2.2.2.2.2.1, x.1.2.1.2.1.2.2.2.2.2.2.2.2.2.2.1, x.1.2.1.2.1.2.2.2.2.2.2.2.2.2.2.2.1, x.1.2.1.2.1.2.2.2.2.2.2.2.2.2.2.2.2.1, x.1.2.1.2.1.2.2.2.2.2.2.2.2.2.2.2.2.2.1) x.1.2.1.2.2.1.1 x.1.2.1.2.2.2.1.1 (x.1.2.1.2.2.2.2.2.1.1, x.1.2.1.2.2.2.2.2.1.2.1, x.1.2.1.2.2.2.2.2.1.2.2.1, x.1.2.1.2.2.2.2.2.1.2.2.2.1, x.1.2.1.2.2.2.2.2.1.2.2.2.2.1, x.1.2.1.2.2.2.2.2.1.2.2.2.2.2.1, x.1.2.1.2.2.2.2.2.1.2.2.2.2.2.2.1) x.2.1.1)
theorem a3h : EffOK E ce2 := conE eok c7e e4d fun α x k => Eq.mp (by kernel_rfl) (d2t x.1.1 x.1.2.1.1.1 (x.1.2.1.2.1.1, x.1.2.1.2.1.2.1, x.1.2.1.2.1.2.2.1, x.1.2.1.2.1.2.2.2.1, x.1.2.1.2.1.2.2.2.2.1, x.1.2.1.2.1.2.2.2.2.2.1, x.1.2.1.2.1.2.2.2.2.2.2.1, x.1.2.1.2.1.2.2.2.2.2.2.2.1, x.1.2.1.2.1.2.2.2.2.2.2.2.2.1, x.1.2.1.2.1.2.2.2.2.2.2.2.2.2.1, x.1.2.1.2.1.2.2.2.2.2.2.2.2.2.2.1, x.1.2.1.2.1.2.2.2.2.2.2.2.2.2.2.2.1, x.1.2.1.2.1.2.2.2.2.2.2.2.2.2.2.2.2.1, x.1.2.1.2.1.2.2.2.2.2.2.2.2.2.2.2.2.2.1) x.1.2.1.2.2.1.1 x.1.2.1.2.2.2.1.1 (x.1.2.1.2.2.2.2.2.1.1, x.1.2.1.2.2.2.2.2.1.2.1, x.1.2.1.2.2.2.2.2.1.2.2.1, x.1.2.1.2.2.2.2.2.1.2.2.2.1, x.1.2.1.2.2.2.2.2.1.2.2.2.2.1, x.1.2.1.2.2.2.2.2.1.2.2.2.2.2.1, x.1.2.1.2.2.2.2.2.1.2.2.2.2.2.2.1) x.2.1.1 k)
end
section
variable {α β : Type} (low : Int) (high : Int) (k : St → Option α)
noncomputable abbrev C51 := Q0r E.P 93
noncomputable abbrev P51 := @preK α E 93 cp49 ce2
theorem d19 : P51 2 C51 ⟨[(0, ri low), (1, ri high)], [], [], 6⟩ k = k ⟨[(4, .one (.fn 94 [.cell [di low], .cell [di high]]))], [], [], 6⟩ := by kernel_rfl
def b09 (K : ((Int × Unit) × (Int × Unit) × Unit) → β) : β := (K ((low, ()), (high, ()), ()))
def a0p : ((Int × Unit) × (Int × Unit) × Unit) := b09 low high (fun y => y)
theorem d5t (K : ((Int × Unit) × (Int × Unit) × Unit) → β) : b09 low high K = K (a0p low high) := rfl
theorem d1a : Q2j E cp49 ce2 93 [ri low, ri high] = (fun y : ((Int × Unit) × (Int × Unit) × Unit) => some (.one (.fn 94 [.cell [di y.1.1], .cell [di y.2.1.1]]) : R)) (a0p low high) := by
  refine Eq.trans ?_ (d5t low high (fun y : ((Int × Unit) × (Int × Unit) × Unit) => some (.one (.fn 94 [.cell [di y.1.1], .cell [di y.2.1.1]]) : R)))
  refine (Q0l (nt := 6) (regs := [(0, ri low), (1, ri high)])).trans ?_
  unfold b09
  refine (pre2 (d19 low high _)).trans ?_
  refine (Q0h).trans ?_
  kernel_rfl
noncomputable def cp50 : Q2g := Q2i cp49 93 [pI, pI] (.one (.one (.fn 94 (.cons (.cell (.cons (.g (.int .i64)) .nil)) (.cons (.cell (.cons (.g (.int .i64)) .nil)) .nil))))) (fun y : ((Int × Unit) × (Int × Unit) × Unit) => y) (fun x => some (a0p x.1 x.2.1))
theorem e3l : Q0p E cp50 := conS eok c7e a3h fun x => Eq.mp (by kernel_rfl) (d1a x.1 x.2.1)
end
section
variable {α β : Type} (x_ : Int) (c1_ : Int) (c2_ : Int) (k : St → Option α)
noncomputable abbrev C52 := Q0r E.P 94
noncomputable abbrev P52 := @preK α E 94 cp50 ce2
theorem c51 : P52 2 C52 ⟨[(0, ri x_), (1, .one (.cell [di c1_])), (2, .one (.cell [di c2_]))], [], [], 10⟩ k = k ⟨[(4, ri (min (max x_ c1_) c2_))], [], [], 10⟩ := by kernel_rfl
def a85 (K : Int → β) : β := (K (min (max x_ c1_) c2_))
def a1b : Int := a85 x_ c1_ c2_ (fun y => y)
theorem c7o (K : Int → β) : a85 x_ c1_ c2_ K = K (a1b x_ c1_ c2_) := rfl
theorem c52 : Q2j E cp50 ce2 94 [ri x_, .one (.cell [di c1_]), .one (.cell [di c2_])] = (fun y : Int => some (ri y : R)) (a1b x_ c1_ c2_) := by
  refine Eq.trans ?_ (c7o x_ c1_ c2_ (fun y : Int => some (ri y : R)))
  refine (Q0l (nt := 10) (regs := [(0, ri x_), (1, .one (.cell [di c1_])), (2, .one (.cell [di c2_]))])).trans ?_
  unfold a85
  refine (pre2 (c51 x_ c1_ c2_ _)).trans ?_
  refine (Q0h).trans ?_
  kernel_rfl
noncomputable def cp51 : Q2g := Q2i cp50 94 [pI, (.one (.cell (.cons (.g (.int .i64)) .nil))), (.one (.cell (.cons (.g (.int .i64)) .nil)))] (.one pI) (fun y : Int => y) (fun x => some (a1b x.1 x.2.1.1 x.2.2.1.1))
theorem e3m : Q0p E cp51 := conS eok e3l a3h fun x => Eq.mp (by kernel_rfl) (c52 x.1 x.2.1.1 x.2.2.1.1)
end
noncomputable abbrev C53 := Q0r E.P 90
noncomputable abbrev P53 {α : Type} := @preK α E 90 cp51 ce2
def b07 {β : Type} (x_ : Int) (K : Int → β) : β := (K (a1b x_ (((a0p (-128 : Int) (127 : Int)).1).1) (((a0p (-128 : Int) (127 : Int)).2.1).1)))
def a5s (x_ : Int) : Int := b07 x_ (fun y => y)
theorem c2s {β : Type} (x_ : Int) (K : Int → β) : b07 x_ K = K (a5s x_) := rfl
theorem c7i {α : Type} (x_ : Int) (k : St → Option α) : P53 2 C53 ⟨[(0, ri x_)], [], [], 6⟩ k = k ⟨[(2, ri (a5s x_))], [], [], 6⟩ := Eq.trans (by kernel_rfl) (c2s x_ (fun y593 : Int => k ⟨[(2, ri y593)], [], [], 6⟩))
def a90 {β : Type} (x_ : Int) (K : Int → β) : β := (K (a5s x_))
def a2b (x_ : Int) : Int := a90 x_ (fun y => y)
theorem d18 {β : Type} (x_ : Int) (K : Int → β) : a90 x_ K = K (a2b x_) := rfl
theorem c7h (x_ : Int) : Q2j E cp51 ce2 90 [ri x_] = (fun y : Int => some (ri y : R)) (a2b x_) := by
  refine Eq.trans ?_ (d18 x_ (fun y : Int => some (ri y : R)))
  refine (Q0l (nt := 6) (regs := [(0, ri x_)])).trans ?_
  unfold a90
  refine (pre2 (c7i x_ _)).trans ?_
  refine (Q0h).trans ?_
  kernel_rfl
noncomputable def cp52 : Q2g := Q2i cp51 90 [pI] (.one pI) (fun y : Int => y) (fun x => some (a2b x.1))
theorem e3n : Q0p E cp52 := conS eok e3m a3h fun x => Eq.mp (by kernel_rfl) (c7h x.1)
noncomputable abbrev C54 := Q0r E.P 92
noncomputable abbrev P54 {α : Type} := @preK α E 92 cp52 ce2
def b4f {β : Type} (x_ : Int) (K : Int → β) : β := (K (a1b x_ (((a0p (-2147483648 : Int) (2147483647 : Int)).1).1) (((a0p (-2147483648 : Int) (2147483647 : Int)).2.1).1)))
def a84 (x_ : Int) : Int := b4f x_ (fun y => y)
theorem c7j {β : Type} (x_ : Int) (K : Int → β) : b4f x_ K = K (a84 x_) := rfl
theorem d5s {α : Type} (x_ : Int) (k : St → Option α) : P54 2 C54 ⟨[(0, ri x_)], [], [], 6⟩ k = k ⟨[(2, ri (a84 x_))], [], [], 6⟩ := Eq.trans (by kernel_rfl) (c7j x_ (fun y594 : Int => k ⟨[(2, ri y594)], [], [], 6⟩))
def b2t {β : Type} (x_ : Int) (K : Int → β) : β := (K (a84 x_))
def a8u (x_ : Int) : Int := b2t x_ (fun y => y)
theorem d8l {β : Type} (x_ : Int) (K : Int → β) : b2t x_ K = K (a8u x_) := rfl
theorem d5r (x_ : Int) : Q2j E cp52 ce2 92 [ri x_] = (fun y : Int => some (ri y : R)) (a8u x_) := by
  refine Eq.trans ?_ (d8l x_ (fun y : Int => some (ri y : R)))
  refine (Q0l (nt := 6) (regs := [(0, ri x_)])).trans ?_
  unfold b2t
  refine (pre2 (d5s x_ _)).trans ?_
  refine (Q0h).trans ?_
  kernel_rfl
noncomputable def cp53 : Q2g := Q2i cp52 92 [pI] (.one pI) (fun y : Int => y) (fun x => some (a8u x.1))
theorem d9o : Q0p E cp53 := conS eok e3n a3h fun x => Eq.mp (by kernel_rfl) (d5r x.1)
def a91 (x_ : Int) (by_ : Int) : Option Int := none
noncomputable def cp54 : Q2g := Q2i cp53 88 [(.one (.g (.int .i64))), (.one (.g (.int .i64)))] (.one (.one (.g (.int .i64)))) (fun y : Int => y) (fun x => a91 x.1 x.2.1)
theorem e3o : Q0p E cp54 := withC_ok d9o (stepS_ok eok d9o a3h) fun x y h => by cases h
section
variable {α : Type} (x_ : Int) (by_ : Int) (k : St → Option α)
noncomputable abbrev C56 := Q0r E.P 88
noncomputable abbrev P56 := @preK α E 88 cp54 ce2
abbrev S56_0 : St := ⟨[(0, ri x_), (1, ri (max by_ (1 : Int)))], [], [], 21⟩
theorem c2t : P56 2 C56 ⟨[(0, ri x_), (1, ri by_)], [], [], 21⟩ k = k (S56_0 x_ by_) := by kernel_rfl
theorem b2s : P56 1 C56.r.r.l (S56_0 x_ by_) k = k ⟨[(0, ri x_), (1, ri (max by_ (1 : Int))), (8, rb (decide (x_ < 0)))], [], [], 21⟩ := by kernel_rfl
theorem c2w : P56 1 C56.r.r.l.r.t (S56_0 x_ by_) k = Option.bind (a91 (max (IntKind.wrap .i64 (0 - x_)) (0 : Int)) (max by_ (1 : Int))) fun y596 : Int => k ⟨[(4, ri (IntKind.wrap .i64 (0 - y596)))], [], [], 21⟩ := by kernel_rfl
def a8t : Option Int := (bif ((max by_ (1 : Int)) == 0) then none else (some (IntKind.wrap .i64 (Int.tdiv (IntKind.wrap .i64 (x_ + (IntKind.wrap .i64 (Int.tdiv (max by_ (1 : Int)) (2 : Int))))) (max by_ (1 : Int))))))
theorem c2x : P56 1 C56.r.r.r (S56_0 x_ by_) k = Option.bind (a8t x_ by_) (fun y597 : Int => k ⟨[(4, ri y597)], [], [], 21⟩) := .trans (by kernel_rfl) (Q2b Q0n Q0b)
def a5o : Option Int := (bif (decide (x_ < 0)) then (Option.bind (a91 (max (IntKind.wrap .i64 (0 - x_)) (0 : Int)) (max by_ (1 : Int))) (fun y596 : Int => (some (IntKind.wrap .i64 (0 - y596))))) else (Option.bind (a8t x_ by_) (fun y597 : Int => (some y597))))
theorem c2v : Q2j E cp54 ce2 88 [ri x_, ri by_] = Option.bind (a5o x_ by_) (fun y : Int => some (ri y : R)) := by
  refine .trans ?_ (Q2b (Q0d fun y596 => Q0b) (Q0d fun y597 => Q0b))
  refine (Q0l (nt := 21) (regs := [(0, ri x_), (1, ri by_)])).trans ?_
  refine (pre2 (c2t x_ by_ _)).trans ?_
  refine .trans Q0c ?_
  refine (Q2d (b2s x_ by_ _)).trans ?_
  refine (Q0m (b := (decide (x_ < 0))) (st' := (S56_0 x_ by_)) ).trans (Q2f ?_ ?_)
  · refine (Q2d (c2w x_ by_ _)).trans (Q0e fun y596 => ?_)
    refine (Q0h).trans ?_
    refine Q0k.trans ?_
    kernel_rfl
  · refine (Q0i).trans ?_
    refine (Q0a (st' := (S56_0 x_ by_))).trans ?_
    refine (Q2d (c2x x_ by_ _)).trans (Q0e fun y597 => ?_)
    refine (Q0h).trans ?_
    kernel_rfl
noncomputable def cp55 : Q2g := Q2i cp54 88 [pI, pI] (.one pI) (fun y : Int => y) (fun x => a5o x.1 x.2.1)
theorem e3p : Q0p E cp55 := conS eok e3o a3h fun x => Eq.mp (by kernel_rfl) (c2v x.1 x.2.1)
end
section
variable {α : Type} (x_ : Int) (by_ : Int) (k : St → Option α)
noncomputable abbrev C57 := Q0r E.P 88
noncomputable abbrev P57 := @preK α E 88 cp55 ce2
abbrev S57_0 : St := ⟨[(0, ri x_), (1, ri (max by_ (1 : Int)))], [], [], 21⟩
theorem d5n : P57 2 C57 ⟨[(0, ri x_), (1, ri by_)], [], [], 21⟩ k = k (S57_0 x_ by_) := by kernel_rfl
theorem b9l : P57 1 C57.r.r.l (S57_0 x_ by_) k = k ⟨[(0, ri x_), (1, ri (max by_ (1 : Int))), (8, rb (decide (x_ < 0)))], [], [], 21⟩ := by kernel_rfl
theorem d5p : P57 1 C57.r.r.l.r.t (S57_0 x_ by_) k = Option.bind (a5o (max (IntKind.wrap .i64 (0 - x_)) (0 : Int)) (max by_ (1 : Int))) fun y599 : Int => k ⟨[(4, ri (IntKind.wrap .i64 (0 - y599)))], [], [], 21⟩ := by kernel_rfl
def b4e : Option Int := (bif ((max by_ (1 : Int)) == 0) then none else (some (IntKind.wrap .i64 (Int.tdiv (IntKind.wrap .i64 (x_ + (IntKind.wrap .i64 (Int.tdiv (max by_ (1 : Int)) (2 : Int))))) (max by_ (1 : Int))))))
theorem d5q : P57 1 C57.r.r.r (S57_0 x_ by_) k = Option.bind (b4e x_ by_) (fun y600 : Int => k ⟨[(4, ri y600)], [], [], 21⟩) := .trans (by kernel_rfl) (Q2b Q0n Q0b)
def a8s : Option Int := (bif (decide (x_ < 0)) then (Option.bind (a5o (max (IntKind.wrap .i64 (0 - x_)) (0 : Int)) (max by_ (1 : Int))) (fun y599 : Int => (some (IntKind.wrap .i64 (0 - y599))))) else (Option.bind (b4e x_ by_) (fun y600 : Int => (some y600))))
theorem d5o : Q2j E cp55 ce2 88 [ri x_, ri by_] = Option.bind (a8s x_ by_) (fun y : Int => some (ri y : R)) := by
  refine .trans ?_ (Q2b (Q0d fun y599 => Q0b) (Q0d fun y600 => Q0b))
  refine (Q0l (nt := 21) (regs := [(0, ri x_), (1, ri by_)])).trans ?_
  refine (pre2 (d5n x_ by_ _)).trans ?_
  refine .trans Q0c ?_
  refine (Q2d (b9l x_ by_ _)).trans ?_
  refine (Q0m (b := (decide (x_ < 0))) (st' := (S57_0 x_ by_)) ).trans (Q2f ?_ ?_)
  · refine (Q2d (d5p x_ by_ _)).trans (Q0e fun y599 => ?_)
    refine (Q0h).trans ?_
    refine Q0k.trans ?_
    kernel_rfl
  · refine (Q0i).trans ?_
    refine (Q0a (st' := (S57_0 x_ by_))).trans ?_
    refine (Q2d (d5q x_ by_ _)).trans (Q0e fun y600 => ?_)
    refine (Q0h).trans ?_
    kernel_rfl
noncomputable def cp56 : Q2g := Q2i cp55 88 [pI, pI] (.one pI) (fun y : Int => y) (fun x => a8s x.1 x.2.1)
theorem e3q : Q0p E cp56 := conS eok e3p a3h fun x => Eq.mp (by kernel_rfl) (d5o x.1 x.2.1)
end
section
variable {α : Type} (x_ : Int) (shift : Int) (k : St → Option α)
noncomputable abbrev C58 := Q0r E.P 91
noncomputable abbrev P58 := @preK α E 91 cp56 ce2
def b08 : Option Int := (bif (decide ((0:Int) ≤ (a1b shift (((a0p (0 : Int) (31 : Int)).1).1) (((a0p (0 : Int) (31 : Int)).2.1).1)))) then (Option.bind (a8s x_ (IntKind.wrap .i64 ((1 : Int) * 2 ^ min (Int.toNat (a1b shift (((a0p (0 : Int) (31 : Int)).1).1) (((a0p (0 : Int) (31 : Int)).2.1).1))) (IntKind.bits .i64)))) (fun y601 : Int => (some y601))) else none)
theorem c7n : P58 2 C58 ⟨[(0, ri x_), (1, ri shift)], [], [], 11⟩ k = Option.bind (b08 x_ shift) (fun y602 : Int => k ⟨[(4, ri y602)], [], [], 11⟩) := .trans (by kernel_rfl) (Q2b (Q0d fun y601 => Q0b) Q0n)
def a8m : Option Int := (Option.bind (b08 x_ shift) (fun y602 : Int => (some y602)))
theorem c7m : Q2j E cp56 ce2 91 [ri x_, ri shift] = Option.bind (a8m x_ shift) (fun y : Int => some (ri y : R)) := by
  refine .trans ?_ (Q0d fun y602 => Q0b)
  refine (Q0l (nt := 11) (regs := [(0, ri x_), (1, ri shift)])).trans ?_
  refine (pre2 (c7n x_ shift _)).trans (Q0e fun y602 => ?_)
  refine (Q0h).trans ?_
  kernel_rfl
noncomputable def cp57 : Q2g := Q2i cp56 91 [pI, pI] (.one pI) (fun y : Int => y) (fun x => a8m x.1 x.2.1)
theorem e3r : Q0p E cp57 := conS eok e3q a3h fun x => Eq.mp (by kernel_rfl) (c7m x.1 x.2.1)
end
section
variable {α : Type} (acc : Int) (mul : Int) (shift : Int) (zero : Int) (k : St → Option α)
noncomputable abbrev C59 := Q0r E.P 84
noncomputable abbrev P59 := @preK α E 84 cp57 ce2
theorem c7l : P59 2 C59 ⟨[(0, ri acc), (1, ri mul), (2, ri shift), (3, ri zero)], [], [], 21⟩ k = Option.bind (a8m (IntKind.wrap .i64 ((a8u acc) * (a1b mul (((a0p (1 : Int) (32767 : Int)).1).1) (((a0p (1 : Int) (32767 : Int)).2.1).1)))) shift) fun y603 : Int => k ⟨[(8, ri (a2b (IntKind.wrap .i64 ((a2b zero) + y603))))], [], [], 21⟩ := by kernel_rfl
def a1a : Option Int := (Option.bind (a8m (IntKind.wrap .i64 ((a8u acc) * (a1b mul (((a0p (1 : Int) (32767 : Int)).1).1) (((a0p (1 : Int) (32767 : Int)).2.1).1)))) shift) (fun y603 : Int => (some (a2b (IntKind.wrap .i64 ((a2b zero) + y603))))))
theorem c7k : Q2j E cp57 ce2 84 [ri acc, ri mul, ri shift, ri zero] = Option.bind (a1a acc mul shift zero) (fun y : Int => some (ri y : R)) := by
  refine .trans ?_ (Q0d fun y603 => Q0b)
  refine (Q0l (nt := 21) (regs := [(0, ri acc), (1, ri mul), (2, ri shift), (3, ri zero)])).trans ?_
  refine (pre2 (c7l acc mul shift zero _)).trans (Q0e fun y603 => ?_)
  refine (Q0h).trans ?_
  kernel_rfl
noncomputable def cp58 : Q2g := Q2i cp57 84 [pI, pI, pI, pI] (.one pI) (fun y : Int => y) (fun x => a1a x.1 x.2.1 x.2.2.1 x.2.2.2.1)
theorem e3s : Q0p E cp58 := conS eok e3r a3h fun x => Eq.mp (by kernel_rfl) (c7k x.1 x.2.1 x.2.2.1 x.2.2.2.1)
end
section
variable {α : Type} (y_ : Int) (x_ : Int) (c_ : Int) (c3_ : Node) (c4_ : pane) (y592 : Int) (k : St → Option α)
noncomputable abbrev C60 := Q0r E.P 81
noncomputable abbrev P60 := @preK α E 81 cp58 ce2
def b0q : Option Unit := (bif (decide ((0 : Int) ≤ c_)) then (bif (decide (c_ < (c3_.2.2.2.2.2.2.2.2.2.2.2.2.2.length : Int))) then (some ()) else none) else none)
abbrev S60_0 : St := ⟨[(3, rC a01 c3_), (4, rC a04 c4_), (5, .one (.cell [di y_])), (6, .one (.cell [di x_])), (7, .one (.cell [di c_])), (9, rF 0)], [[di (IntKind.wrap .i64 (gt c3_.2.2.2.2.2.2.2.2.2.2.2.2.2 c_ (0 : Int)))]], [], 28⟩
theorem c8i : P60 2 C60 ⟨[(0, ri y_), (1, ri x_), (2, ri c_), (3, rC a01 c3_), (4, rC a04 c4_)], [], [], 28⟩ k = Option.bind (b0q c_ c3_) (fun y544 : Unit => k (S60_0 y_ x_ c_ c3_ c4_)) := .trans (by kernel_rfl) (Q2b (Q2b Q0b Q0n) Q0n)
abbrev S60_1 : St := ⟨[(3, rC a01 c3_), (9, rF 0)], [[di y592]], [], 28⟩
theorem c8j : P60 1 C60.r.r (S60_0 y_ x_ c_ c3_ c4_) k = Option.bind (a9z c3_.2.2.1 y_ c3_ x_ c_ c4_ (IntKind.wrap .i64 (gt c3_.2.2.2.2.2.2.2.2.2.2.2.2.2 c_ (0 : Int)))) fun y592 : Int => k (S60_1 c3_ y592) := by kernel_rfl
theorem c8k : P60 1 C60.r.r.r (S60_1 c3_ y592) k = Option.bind (a1a y592 c3_.2.2.2.2.2.2.1 c3_.2.2.2.2.2.2.2.1 c3_.2.2.2.2.2.2.2.2.1) fun y604 : Int => k ⟨[(8, ri y604)], [[]], [], 28⟩ := by kernel_rfl
def b2u : Option Int := (Option.bind (b0q c_ c3_) (fun y544 : Unit => (Option.bind (a9z c3_.2.2.1 y_ c3_ x_ c_ c4_ (IntKind.wrap .i64 (gt c3_.2.2.2.2.2.2.2.2.2.2.2.2.2 c_ (0 : Int)))) (fun y592 : Int => (Option.bind (a1a y592 c3_.2.2.2.2.2.2.1 c3_.2.2.2.2.2.2.2.1 c3_.2.2.2.2.2.2.2.2.1) (fun y604 : Int => (some y604)))))))
theorem c8h : Q2j E cp58 ce2 81 [ri y_, ri x_, ri c_, rC a01 c3_, rC a04 c4_] = Option.bind (b2u y_ x_ c_ c3_ c4_) (fun y : Int => some (ri y : R)) := by
  refine .trans ?_ (Q0d fun y544 => (Q0d fun y592 => (Q0d fun y604 => Q0b)))
  refine (Q0l (nt := 28) (regs := [(0, ri y_), (1, ri x_), (2, ri c_), (3, rC a01 c3_), (4, rC a04 c4_)])).trans ?_
  refine (pre2 (c8i y_ x_ c_ c3_ c4_ _)).trans (Q0e fun y544 => ?_)
  refine (Q2d (c8j y_ x_ c_ c3_ c4_ _)).trans (Q0e fun y592 => ?_)
  refine (Q2d (c8k c3_ y592 _)).trans (Q0e fun y604 => ?_)
  refine (Q0h).trans ?_
  kernel_rfl
noncomputable def cp59 : Q2g := Q2i cp58 81 [pI, pI, pI, (.one (.cell (.cons (.g (.int .i64)) (.cons (.g (.sl (.one (.int .i64)))) (.cons (.g (.int .i64)) (.cons (.g (.int .i64)) (.cons (.g (.int .i64)) (.cons (.g (.int .i64)) (.cons (.g (.int .i64)) (.cons (.g (.int .i64)) (.cons (.g (.int .i64)) (.cons (.g (.int .i64)) (.cons (.g (.int .i64)) (.cons (.g (.int .i64)) (.cons (.g (.sl (.one (.int .i8)))) (.cons (.g (.sl (.one (.int .i32)))) .nil)))))))))))))))), (.one (.cell (.cons (.g (.int .i64)) (.cons (.g (.int .i64)) (.cons (.g (.int .i64)) (.cons (.g (.int .i64)) (.cons (.g (.int .i64)) (.cons (.g (.int .i64)) (.cons (.g (.sl (.one (.int .i8)))) .nil)))))))))] (.one pI) (fun y : Int => y) (fun x => b2u x.1 x.2.1 x.2.2.1 (x.2.2.2.1.1, x.2.2.2.1.2.1, x.2.2.2.1.2.2.1, x.2.2.2.1.2.2.2.1, x.2.2.2.1.2.2.2.2.1, x.2.2.2.1.2.2.2.2.2.1, x.2.2.2.1.2.2.2.2.2.2.1, x.2.2.2.1.2.2.2.2.2.2.2.1, x.2.2.2.1.2.2.2.2.2.2.2.2.1, x.2.2.2.1.2.2.2.2.2.2.2.2.2.1, x.2.2.2.1.2.2.2.2.2.2.2.2.2.2.1, x.2.2.2.1.2.2.2.2.2.2.2.2.2.2.2.1, x.2.2.2.1.2.2.2.2.2.2.2.2.2.2.2.2.1, x.2.2.2.1.2.2.2.2.2.2.2.2.2.2.2.2.2.1) (x.2.2.2.2.1.1, x.2.2.2.2.1.2.1, x.2.2.2.2.1.2.2.1, x.2.2.2.2.1.2.2.2.1, x.2.2.2.2.1.2.2.2.2.1, x.2.2.2.2.1.2.2.2.2.2.1, x.2.2.2.2.1.2.2.2.2.2.2.1))
theorem e3t : Q0p E cp59 := conS eok e3s a3h fun x => Eq.mp (by kernel_rfl) (c8h x.1 x.2.1 x.2.2.1 (x.2.2.2.1.1, x.2.2.2.1.2.1, x.2.2.2.1.2.2.1, x.2.2.2.1.2.2.2.1, x.2.2.2.1.2.2.2.2.1, x.2.2.2.1.2.2.2.2.2.1, x.2.2.2.1.2.2.2.2.2.2.1, x.2.2.2.1.2.2.2.2.2.2.2.1, x.2.2.2.1.2.2.2.2.2.2.2.2.1, x.2.2.2.1.2.2.2.2.2.2.2.2.2.1, x.2.2.2.1.2.2.2.2.2.2.2.2.2.2.1, x.2.2.2.1.2.2.2.2.2.2.2.2.2.2.2.1, x.2.2.2.1.2.2.2.2.2.2.2.2.2.2.2.2.1, x.2.2.2.1.2.2.2.2.2.2.2.2.2.2.2.2.2.1) (x.2.2.2.2.1.1, x.2.2.2.2.1.2.1, x.2.2.2.2.1.2.2.1, x.2.2.2.2.1.2.2.2.1, x.2.2.2.2.1.2.2.2.2.1, x.2.2.2.2.1.2.2.2.2.2.1, x.2.2.2.2.1.2.2.2.2.2.2.1))
end
section
variable {α : Type} (a0 : Int) (a1 : Int) (c_ : Int) (c3_ : Node) (c4_ : pane) (y608 : Int) (s625 : (Int × Int)) (y629 : Int) (y630 : (Int × Int)) (k : St → Option α) (q : Kont α)
noncomputable abbrev C61 := Q0r E.P 85
noncomputable abbrev P61 := @preK α E 85 cp59 ce2
noncomputable abbrev R61 := @Q0o α E 85 cp59 ce2
def b0r : Option Int := (bif (decide ((0 : Int) ≤ c_)) then (bif (decide (c_ < (c3_.2.2.2.2.2.2.2.2.2.2.2.2.2.length : Int))) then (Option.bind (a3c (c4_.1, c4_.2.1, c4_.2.2.1)) (fun y607 : Int => (some y607))) else none) else none)
abbrev S61_0 : St := ⟨[(2, ri c_), (3, rC a01 c3_), (4, rC a04 c4_), (9, ri (IntKind.wrap .i64 (gt c3_.2.2.2.2.2.2.2.2.2.2.2.2.2 c_ (0 : Int)))), (10, ri y608)], [], [], 60⟩
theorem c8q : P61 2 C61 ⟨[(0, ri a0), (1, ri a1), (2, ri c_), (3, rC a01 c3_), (4, rC a04 c4_)], [], [], 60⟩ k = Option.bind (b0r c_ c3_ c4_) (fun y608 : Int => k (S61_0 c_ c3_ c4_ y608)) := .trans (by kernel_rfl) (Q2b (Q2b (Q0d fun y607 => Q0b) Q0n) Q0n)
abbrev S61_1 : St := ⟨[(2, ri c_), (3, rC a01 c3_), (4, rC a04 c4_), (9, ri (IntKind.wrap .i64 (gt c3_.2.2.2.2.2.2.2.2.2.2.2.2.2 c_ (0 : Int)))), (10, ri y608), (25, rl (.one (.int .i8)) c4_.2.2.2.2.2.2), (26, ri (c4_.2.2.2.2.2.2.length : Int)), (27, ri 0)], [], [], 60⟩
theorem c8m : P61 1 C61.r.r.l (S61_0 c_ c3_ c4_ y608) k = k (S61_1 c_ c3_ c4_ y608) := by kernel_rfl
abbrev S61_2 : St := ⟨[(2, ri c_), (3, rC a01 c3_), (4, rC a04 c4_), (9, ri s625.1), (10, ri y608), (25, rl (.one (.int .i8)) c4_.2.2.2.2.2.2), (26, ri (c4_.2.2.2.2.2.2.length : Int)), (27, ri s625.2)], [], [], 60⟩
theorem c8n : P61 1 C61.r.r.l.r.b.b (S61_2 c_ c3_ c4_ y608 s625) k = k ⟨[(2, ri c_), (3, rC a01 c3_), (4, rC a04 c4_), (9, ri s625.1), (10, ri y608), (25, rl (.one (.int .i8)) c4_.2.2.2.2.2.2), (26, ri (c4_.2.2.2.2.2.2.length : Int)), (27, ri s625.2), (28, rb (decide (s625.2 < (c4_.2.2.2.2.2.2.length : Int))))], [], [], 60⟩ := by kernel_rfl
def b0s : Option Unit := (bif (decide ((0 : Int) ≤ s625.2)) then (bif (decide (s625.2 < (c4_.2.2.2.2.2.2.length : Int))) then (some ()) else none) else none)
abbrev S61_3 : St := ⟨[(2, ri c_), (3, rC a01 c3_), (4, rC a04 c4_), (9, ri s625.1), (10, ri y608), (11, ri s625.2), (12, rk .i8 (gt c4_.2.2.2.2.2.2 s625.2 (0 : Int))), (25, rl (.one (.int .i8)) c4_.2.2.2.2.2.2), (26, ri (c4_.2.2.2.2.2.2.length : Int)), (27, ri s625.2)], [], [], 60⟩
theorem c8r : P61 1 C61.r.r.l.r.b.b.r.r.l.b (S61_2 c_ c3_ c4_ y608 s625) k = Option.bind (b0s c4_ s625) (fun y628 : Unit => k (S61_3 c_ c3_ c4_ y608 s625)) := .trans (by kernel_rfl) (Q2b (Q2b Q0b Q0n) Q0n)
def b0t : Option Int := (bif (decide ((0 : Int) ≤ (IntKind.wrap .i64 ((IntKind.wrap .i64 (c_ * y608)) + s625.2)))) then (bif (decide ((IntKind.wrap .i64 ((IntKind.wrap .i64 (c_ * y608)) + s625.2)) < (c3_.2.2.2.2.2.2.2.2.2.2.2.2.1.length : Int))) then (some (IntKind.wrap .i64 (s625.1 + (IntKind.wrap .i64 ((IntKind.wrap .i64 ((IntKind.wrap .i64 (gt c4_.2.2.2.2.2.2 s625.2 (0 : Int))) - c4_.2.2.2.1)) * (IntKind.wrap .i64 (gt c3_.2.2.2.2.2.2.2.2.2.2.2.2.1 (IntKind.wrap .i64 ((IntKind.wrap .i64 (c_ * y608)) + s625.2)) (0 : Int)))))))) else none) else none)
abbrev S61_4 : St := ⟨[(2, ri c_), (3, rC a01 c3_), (4, rC a04 c4_), (9, ri y629), (10, ri y608), (25, rl (.one (.int .i8)) c4_.2.2.2.2.2.2), (26, ri (c4_.2.2.2.2.2.2.length : Int)), (27, ri s625.2)], [], [], 60⟩
theorem c8s : R61 C61.r.r.l.r.b.b.r.r.l.b.r (S61_3 c_ c3_ c4_ y608 s625) q = Option.bind (b0t c_ c3_ c4_ y608 s625) (fun y629 : Int => q .normal (S61_4 c_ c3_ c4_ y608 s625 y629)) := .trans (by kernel_rfl) (Q2b (Q2b Q0b Q0n) Q0n)
theorem c8t : R61 C61.r.r.l.r.b.b.r.r.r (S61_4 c_ c3_ c4_ y608 s625 y629) q = q .normal ⟨[(2, ri c_), (3, rC a01 c3_), (4, rC a04 c4_), (9, ri y629), (10, ri y608), (25, rl (.one (.int .i8)) c4_.2.2.2.2.2.2), (26, ri (c4_.2.2.2.2.2.2.length : Int)), (27, ri (IntKind.wrap .i64 (s625.2 + 1)))], [], [], 60⟩ := by kernel_rfl
def a5w : Option ((Int × Int) ⊕ (Int × Int)) := (bif (decide (s625.2 < (c4_.2.2.2.2.2.2.length : Int))) then (Option.bind (b0s c4_ s625) (fun y628 : Unit => (Option.bind (b0t c_ c3_ c4_ y608 s625) (fun y629 : Int => (some (Sum.inl (y629, (IntKind.wrap .i64 (s625.2 + 1))))))))) else (some (Sum.inr s625)))
abbrev S61_5 : St := ⟨[(2, ri c_), (3, rC a01 c3_), (4, rC a04 c4_), (9, ri y630.1), (10, ri y608), (25, rl (.one (.int .i8)) c4_.2.2.2.2.2.2), (26, ri (c4_.2.2.2.2.2.2.length : Int)), (27, ri y630.2)], [], [], 60⟩
theorem c3n : R61 C61.r.r.l.r.b.b (S61_2 c_ c3_ c4_ y608 s625) (Q0w 0 q) = Option.bind (a5w c_ c3_ c4_ y608 s625) (Q1z (fun y : (Int × Int) => q .normal ⟨[(2, ri c_), (3, rC a01 c3_), (4, rC a04 c4_), (9, ri y.1), (10, ri y608), (25, rl (.one (.int .i8)) c4_.2.2.2.2.2.2), (26, ri (c4_.2.2.2.2.2.2.length : Int)), (27, ri y.2)], [], [], 60⟩) (fun y630 : (Int × Int) => q (.exit 0) (S61_5 c_ c3_ c4_ y608 y630))) := by
  refine .trans ?_ (Q2b (Q0d fun y628 => (Q0d fun y629 => e2_0)) e2_1)
  refine (Q2d (c8n c_ c3_ c4_ y608 s625 _)).trans ?_
  refine .trans Q0c ?_
  refine (Q0m (b := (decide (s625.2 < (c4_.2.2.2.2.2.2.length : Int)))) (st' := (S61_2 c_ c3_ c4_ y608 s625)) ).trans (Q2f ?_ ?_)
  · refine (Q0i).trans ?_
    refine (Q0a (st' := (S61_2 c_ c3_ c4_ y608 s625))).trans ?_
    refine .trans Q0c ?_
    refine (Q0j (id := 1)).trans ?_
    refine (Q2d (c8r c_ c3_ c4_ y608 s625 _)).trans (Q0e fun y628 => ?_)
    refine (c8s c_ c3_ c4_ y608 s625 _).trans (Q0e fun y629 => ?_)
    refine Q0f.trans ?_
    refine (Q0a (st' := (S61_4 c_ c3_ c4_ y608 s625 y629))).trans ?_
    refine (c8t c_ c3_ c4_ y608 s625 y629 _).trans ?_
    kernel_rfl
  · refine ((Q1f (j := 0))).trans ?_
    refine Q0v.trans ?_
    kernel_rfl
theorem c8p : R61 C61.r.r.l.r.b (S61_1 c_ c3_ c4_ y608) q = Option.bind (iterN (a5w c_ c3_ c4_ y608) LL ((IntKind.wrap .i64 (gt c3_.2.2.2.2.2.2.2.2.2.2.2.2.2 c_ (0 : Int))), (0 : Int))) (fun y630 : (Int × Int) => q (.exit 0) (S61_5 c_ c3_ c4_ y608 y630)) :=
  Eq.trans (by kernel_rfl) (Q1a (S := fun s625 : (Int × Int) => (S61_2 c_ c3_ c4_ y608 s625)) (Y1 := fun y630 : (Int × Int) => ((.exit 0), (S61_5 c_ c3_ c4_ y608 y630))) (fun s q => c3n c_ c3_ c4_ y608 s q) (fun z => rfl) LL ((IntKind.wrap .i64 (gt c3_.2.2.2.2.2.2.2.2.2.2.2.2.2 c_ (0 : Int))), (0 : Int)))
theorem c8u : P61 1 C61.r.r.r ⟨[(3, rC a01 c3_), (9, ri y630.1)], [], [], 60⟩ k = Option.bind (a1a y630.1 c3_.2.2.2.2.2.2.1 c3_.2.2.2.2.2.2.2.1 c3_.2.2.2.2.2.2.2.2.1) fun y631 : Int => k ⟨[(8, ri y631)], [], [], 60⟩ := by kernel_rfl
def b2x (a0 : Int) (a1 : Int) (c_ : Int) (c3_ : Node) (c4_ : pane) : Option Int := (Option.bind (b0r c_ c3_ c4_) (fun y608 : Int => (Option.bind (iterN (a5w c_ c3_ c4_ y608) LL ((IntKind.wrap .i64 (gt c3_.2.2.2.2.2.2.2.2.2.2.2.2.2 c_ (0 : Int))), (0 : Int))) (fun y630 : (Int × Int) => (Option.bind (a1a y630.1 c3_.2.2.2.2.2.2.1 c3_.2.2.2.2.2.2.2.1 c3_.2.2.2.2.2.2.2.2.1) (fun y631 : Int => (some y631)))))))
theorem c8o : Q2j E cp59 ce2 85 [ri a0, ri a1, ri c_, rC a01 c3_, rC a04 c4_] = Option.bind (b2x a0 a1 c_ c3_ c4_) (fun y : Int => some (ri y : R)) := by
  refine .trans ?_ (Q0d fun y608 => (Q0d fun y630 => (Q0d fun y631 => Q0b)))
  refine (Q0l (nt := 60) (regs := [(0, ri a0), (1, ri a1), (2, ri c_), (3, rC a01 c3_), (4, rC a04 c4_)])).trans ?_
  refine (pre2 (c8q a0 a1 c_ c3_ c4_ _)).trans (Q0e fun y608 => ?_)
  refine .trans Q0c ?_
  refine (Q2d (c8m c_ c3_ c4_ y608 _)).trans ?_
  refine (Q0j (id := 0)).trans ?_
  refine (c8p c_ c3_ c4_ y608 _).trans (Q0e fun y630 => ?_)
  refine Q0u.trans ?_
  refine (Q0a (st' := ⟨[(3, rC a01 c3_), (9, ri y630.1)], [], [], 60⟩)).trans ?_
  refine (Q2d (c8u c3_ y630 _)).trans (Q0e fun y631 => ?_)
  refine (Q0h).trans ?_
  kernel_rfl
noncomputable def cp60 : Q2g := Q2i cp59 85 [pI, pI, pI, (.one (.cell (.cons (.g (.int .i64)) (.cons (.g (.sl (.one (.int .i64)))) (.cons (.g (.int .i64)) (.cons (.g (.int .i64)) (.cons (.g (.int .i64)) (.cons (.g (.int .i64)) (.cons (.g (.int .i64)) (.cons (.g (.int .i64)) (.cons (.g (.int .i64)) (.cons (.g (.int .i64)) (.cons (.g (.int .i64)) (.cons (.g (.int .i64)) (.cons (.g (.sl (.one (.int .i8)))) (.cons (.g (.sl (.one (.int .i32)))) .nil)))))))))))))))), (.one (.cell (.cons (.g (.int .i64)) (.cons (.g (.int .i64)) (.cons (.g (.int .i64)) (.cons (.g (.int .i64)) (.cons (.g (.int .i64)) (.cons (.g (.int .i64)) (.cons (.g (.sl (.one (.int .i8)))) .nil)))))))))] (.one pI) (fun y : Int => y) (fun x => b2x x.1 x.2.1 x.2.2.1 (x.2.2.2.1.1, x.2.2.2.1.2.1, x.2.2.2.1.2.2.1, x.2.2.2.1.2.2.2.1, x.2.2.2.1.2.2.2.2.1, x.2.2.2.1.2.2.2.2.2.1, x.2.2.2.1.2.2.2.2.2.2.1, x.2.2.2.1.2.2.2.2.2.2.2.1, x.2.2.2.1.2.2.2.2.2.2.2.2.1, x.2.2.2.1.2.2.2.2.2.2.2.2.2.1, x.2.2.2.1.2.2.2.2.2.2.2.2.2.2.1, x.2.2.2.1.2.2.2.2.2.2.2.2.2.2.2.1, x.2.2.2.1.2.2.2.2.2.2.2.2.2.2.2.2.1, x.2.2.2.1.2.2.2.2.2.2.2.2.2.2.2.2.2.1) (x.2.2.2.2.1.1, x.2.2.2.2.1.2.1, x.2.2.2.2.1.2.2.1, x.2.2.2.2.1.2.2.2.1, x.2.2.2.2.1.2.2.2.2.1, x.2.2.2.2.1.2.2.2.2.2.1, x.2.2.2.2.1.2.2.2.2.2.2.1))
theorem c7f : Q0p E cp60 := conS eok e3t a3h fun x => Eq.mp (by kernel_rfl) (c8o x.1 x.2.1 x.2.2.1 (x.2.2.2.1.1, x.2.2.2.1.2.1, x.2.2.2.1.2.2.1, x.2.2.2.1.2.2.2.1, x.2.2.2.1.2.2.2.2.1, x.2.2.2.1.2.2.2.2.2.1, x.2.2.2.1.2.2.2.2.2.2.1, x.2.2.2.1.2.2.2.2.2.2.2.1, x.2.2.2.1.2.2.2.2.2.2.2.2.1, x.2.2.2.1.2.2.2.2.2.2.2.2.2.1, x.2.2.2.1.2.2.2.2.2.2.2.2.2.2.1, x.2.2.2.1.2.2.2.2.2.2.2.2.2.2.2.1, x.2.2.2.1.2.2.2.2.2.2.2.2.2.2.2.2.1, x.2.2.2.1.2.2.2.2.2.2.2.2.2.2.2.2.2.1) (x.2.2.2.2.1.1, x.2.2.2.2.1.2.1, x.2.2.2.2.1.2.2.1, x.2.2.2.2.1.2.2.2.1, x.2.2.2.2.1.2.2.2.2.1, x.2.2.2.2.1.2.2.2.2.2.1, x.2.2.2.2.1.2.2.2.2.2.2.1))
end
section
variable {α : Type} (i_ : Int) (j_ : Int) (c2_ : pane) (c3_ : Int) (c4_ : Node) (c5_ : Int) (c6_ : Int) (c9_ : Int) (c10_ : Int) (y636 : Int) (k : St → Option α) (q : Kont α)
noncomputable abbrev C62 := Q0r E.P 87
noncomputable abbrev P62 := @preK α E 87 cp60 ce2
noncomputable abbrev R62 := @Q0o α E 87 cp60 ce2
abbrev S62_0 : St := ⟨[(7, rF 0), (8, rF 1), (11, ri y636)], [[di c9_], [di c10_]], [], 33⟩
theorem c3p : P62 1 C62 ⟨[(0, ri i_), (1, ri j_), (2, rC a04 c2_), (3, .one (.cell [di c3_])), (4, rC a01 c4_), (5, .one (.cell [di c5_])), (6, .one (.cell [di c6_])), (7, rF 0), (8, rF 1)], [[di c9_], [di c10_]], [], 33⟩ k = Option.bind (a0j c2_ (IntKind.wrap .i64 ((IntKind.wrap .i64 (c3_ * c4_.2.2.2.1)) + i_)) (IntKind.wrap .i64 ((IntKind.wrap .i64 (c5_ * c4_.2.2.2.1)) + j_)) c6_) fun y636 : Int => k (S62_0 c9_ c10_ y636) := by kernel_rfl
theorem c3q : R62 C62.r (S62_0 c9_ c10_ y636) q = q .normal ⟨[], [[di (max c9_ y636)], [di (IntKind.wrap .i64 (c10_ + y636))]], [], 33⟩ := by kernel_rfl
def a5q : Option (Int × Int) := (Option.bind (a0j c2_ (IntKind.wrap .i64 ((IntKind.wrap .i64 (c3_ * c4_.2.2.2.1)) + i_)) (IntKind.wrap .i64 ((IntKind.wrap .i64 (c5_ * c4_.2.2.2.1)) + j_)) c6_) (fun y636 : Int => (some ((max c9_ y636), (IntKind.wrap .i64 (c10_ + y636))))))
theorem c3o (k : R → Heap → Option α) : Q1m E cp60 ce2 α 87 [ri i_, ri j_, rC a04 c2_, .one (.cell [di c3_]), rC a01 c4_, .one (.cell [di c5_]), .one (.cell [di c6_]), rF 0, rF 1] [[di c9_], [di c10_]] k = Option.bind (a5q i_ j_ c2_ c3_ c4_ c5_ c6_ c9_ c10_) (fun y : (Int × Int) => k (.tup []) [[di y.1], [di y.2]]) := by
  refine .trans ?_ (Q0d fun y636 => Q0b)
  refine (body_is (nt := 33) (regs := [(0, ri i_), (1, ri j_), (2, rC a04 c2_), (3, .one (.cell [di c3_])), (4, rC a01 c4_), (5, .one (.cell [di c5_])), (6, .one (.cell [di c6_])), (7, rF 0), (8, rF 1)]) (by kernel_rfl) (by kernel_rfl)).trans ?_
  refine (Q2d (c3p i_ j_ c2_ c3_ c4_ c5_ c6_ c9_ c10_ _)).trans (Q0e fun y636 => ?_)
  refine (c3q c9_ c10_ y636 _).trans ?_
  kernel_rfl
noncomputable def ce3 : CallE := withE ce2 87 (decA [pI, pI, (.one (.cell (.cons (.g (.int .i64)) (.cons (.g (.int .i64)) (.cons (.g (.int .i64)) (.cons (.g (.int .i64)) (.cons (.g (.int .i64)) (.cons (.g (.int .i64)) (.cons (.g (.sl (.one (.int .i8)))) .nil))))))))), (.one (.cell (.cons (.g (.int .i64)) .nil))), (.one (.cell (.cons (.g (.int .i64)) (.cons (.g (.sl (.one (.int .i64)))) (.cons (.g (.int .i64)) (.cons (.g (.int .i64)) (.cons (.g (.int .i64)) (.cons (.g (.int .i64)) (.cons (.g (.int .i64)) (.cons (.g (.int .i64)) (.cons (.g (.int .i64)) (.cons (.g (.int .i64)) (.cons (.g (.int .i64)) (.cons (.g (.int .i64)) (.cons (.g (.sl (.one (.int .i8)))) (.cons (.g (.sl (.one (.int .i32)))) .nil)))))))))))))))), (.one (.cell (.cons (.g (.int .i64)) .nil))), (.one (.cell (.cons (.g (.int .i64)) .nil))), (.one (.ref 0 0)), (.one (.ref 1 0))] [(.cons (.g (.int .i64)) .nil), (.cons (.g (.int .i64)) .nil)]) .unit (fun y : (Int × Int) => ()) (fun x y => [[di y.1], [di y.2]]) (fun x => a5q x.1.1 x.1.2.1 (x.1.2.2.1.1, x.1.2.2.1.2.1, x.1.2.2.1.2.2.1, x.1.2.2.1.2.2.2.1, x.1.2.2.1.2.2.2.2.1, x.1.2.2.1.2.2.2.2.2.1, x.1.2.2.1.2.2.2.2.2.2.1) x.1.2.2.2.1.1 (x.1.2.2.2.2.1.1, x.1.2.2.2.2.1.2.1, x.1.2.2.2.2.1.2.2.1, x.1.2.2.2.2.1.2.2.2.1, x.1.2.2.2.2.1.2.2.2.2.1, x.1.2.2.2.2.1.2.2.2.2.2.1, x.1.2.2.2.2.1.2.2.2.2.2.2.1, x.1.2.2.2.2.1.2.2.2.2.2.2.2.1, x.1.2.2.2.2.1.2.2.2.2.2.2.2.2.1, x.1.2.2.2.2.1.2.2.2.2.2.2.2.2.2.1, x.1.2.2.2.2.1.2.2.2.2.2.2.2.2.2.2.1, x.1.2.2.2.2.1.2.2.2.2.2.2.2.2.2.2.2.1, x.1.2.2.2.2.1.2.2.2.2.2.2.2.2.2.2.2.2.1, x.1.2.2.2.2.1.2.2.2.2.2.2.2.2.2.2.2.2.2.1) x.1.2.2.2.2.2.1.1 x.1.2.2.2.2.2.2.1.1 x.2.1.1 x.2.2.1.1)
theorem e4e : EffOK E ce3 := conE eok c7f a3h fun α x k => Eq.mp (by kernel_rfl) (c3o x.1.1 x.1.2.1 (x.1.2.2.1.1, x.1.2.2.1.2.1, x.1.2.2.1.2.2.1, x.1.2.2.1.2.2.2.1, x.1.2.2.1.2.2.2.2.1, x.1.2.2.1.2.2.2.2.2.1, x.1.2.2.1.2.2.2.2.2.2.1) x.1.2.2.2.1.1 (x.1.2.2.2.2.1.1, x.1.2.2.2.2.1.2.1, x.1.2.2.2.2.1.2.2.1, x.1.2.2.2.2.1.2.2.2.1, x.1.2.2.2.2.1.2.2.2.2.1, x.1.2.2.2.2.1.2.2.2.2.2.1, x.1.2.2.2.2.1.2.2.2.2.2.2.1, x.1.2.2.2.2.1.2.2.2.2.2.2.2.1, x.1.2.2.2.2.1.2.2.2.2.2.2.2.2.1, x.1.2.2.2.2.1.2.2.2.2.2.2.2.2.2.1, x.1.2.2.2.2.1.2.2.2.2.2.2.2.2.2.2.1, x.1.2.2.2.2.1.2.2.2.2.2.2.2.2.2.2.2.1, x.1.2.2.2.2.1.2.2.2.2.2.2.2.2.2.2.2.2.1, x.1.2.2.2.2.1.2.2.2.2.2.2.2.2.2.2.2.2.2.1) x.1.2.2.2.2.2.1.1 x.1.2.2.2.2.2.2.1.1 x.2.1.1 x.2.2.1.1 k)
end
end Go.V.P
