/- What functions compute. -/
import Derived.Test.YtokpndlkheofjaaKp4
namespace Go.V.P
open Go.RowKit Go.V Go.Proofs
set_option linter.unusedVariables false
set_option maxRecDepth 100000
noncomputable abbrev C70 := codeOf E.P 27
noncomputable abbrev P70 {α : Type} := @preK α E 27 cp66 ce4
theorem ref02_May_f1 {α : Type} (s_ : I3) (k : St → Option α) : P70 1 C70 ⟨[(0, rA tsI3 s_)], [], [], 31⟩ k = k ⟨[(1, rC tsI3 s_)], [], [], 31⟩ := by kernel_rfl
def ref02_May_r1_q {β : Type} (s_ : I3) (K : Bool → β) : β := (bif (decide (s_.1 < 1)) then (K true) else (bif (decide (s_.1 > 16)) then (K true) else (bif (decide (s_.2.1 < 1)) then (K true) else (bif (decide (s_.2.1 > 16)) then (K true) else (bif (decide (s_.2.2 < 1)) then (K true) else (K (decide (s_.2.2 > 8))))))))
def ref02_May_r1_p (s_ : I3) : Bool := ref02_May_r1_q s_ (fun y => y)
theorem ref02_May_r1_n {β : Type} (s_ : I3) (K : Bool → β) : ref02_May_r1_q s_ K = K (ref02_May_r1_p s_) := (bif_k K rfl (bif_k K rfl (bif_k K rfl (bif_k K rfl (bif_k K rfl rfl)))))
theorem ref02_May_r1 {α : Type} (s_ : I3) (k : St → Option α) : P70 1 C70.r.l ⟨[(1, rC tsI3 s_)], [], [], 31⟩ k = k ⟨[(30, rb (ref02_May_r1_p s_))], [], [], 31⟩ := Eq.trans (by kernel_rfl) (ref02_May_r1_n s_ (fun y1325 : Bool => k ⟨[(30, rb y1325)], [], [], 31⟩))
theorem ref02_May_fz {α : Type} (k : St → Option α) : P70 1 C70.r.l.r.t ⟨[], [], [], 31⟩ k = k ⟨[(2, ri 10)], [], [], 31⟩ := by kernel_rfl
theorem ref02_May_fzx1 {α : Type} (k : St → Option α) : P70 1 C70.r.r ⟨[], [], [], 31⟩ k = k ⟨[(2, ri 0)], [], [], 31⟩ := by kernel_rfl
/-- quilt/quiltref02.May -/
def ref02_May_q {β : Type} (s_ : I3) (K : Int → β) : β := (bif (ref02_May_r1_p s_) then (K (10 : Int)) else (K (0 : Int)))
def ref02_May (s_ : I3) : Int := ref02_May_q s_ (fun y => y)
theorem ref02_May_n {β : Type} (s_ : I3) (K : Int → β) : ref02_May_q s_ K = K (ref02_May s_) := (bif_k K rfl rfl)
theorem ref02_May_is (s_ : I3) : stepS E cp66 ce4 27 [rA tsI3 s_] = (fun y : Int => some (ri y : R)) (ref02_May s_) := by
  refine Eq.trans ?_ (ref02_May_n s_ (fun y : Int => some (ri y : R)))
  refine (stepG_is (nt := 31) (regs := [(0, rA tsI3 s_)])).trans ?_
  unfold ref02_May_q
  refine (pre1 (ref02_May_f1 s_ _)).trans ?_
  refine .trans seq_push ?_
  refine (pre1 (ref02_May_r1 s_ _)).trans ?_
  refine (cond_e (b := (ref02_May_r1_p s_)) (st' := ⟨[], [], [], 31⟩) ).trans (bif_g ?_ ?_)
  · refine (pre1 (ref02_May_fz _)).trans ?_
    refine (ret_eq).trans ?_
    refine seqC_ret.trans ?_
    kernel_rfl
  · refine (skip_eq).trans ?_
    refine (seqC_normal (st' := ⟨[], [], [], 31⟩)).trans ?_
    refine (pre1 (ref02_May_fzx1 _)).trans ?_
    refine (ret_eq).trans ?_
    kernel_rfl
noncomputable def cp67 : CallP := withC cp66 27 [(.agg tsI3)] (.one pI) (fun y : Int => y) (fun x => some (ref02_May x.1))
theorem cp67_ok : PureOK E cp67 := conS eok cp66_ok ce4_ok fun x => Eq.mp (by kernel_rfl) (ref02_May_is x.1)
noncomputable abbrev C71 := codeOf E.P 21
noncomputable abbrev P71 {α : Type} := @preK α E 21 cp67 ce4
abbrev S71_0 (s_ : I3) : St := ⟨[(1, rC tsI3 s_)], [], [], 14⟩
theorem ref02_Size_f1 {α : Type} (s_ : I3) (k : St → Option α) : P71 1 C71 ⟨[(0, rA tsI3 s_)], [], [], 14⟩ k = k (S71_0 s_) := by kernel_rfl
theorem ref02_Size_f1000002 {α : Type} (s_ : I3) (k : St → Option α) : P71 1 C71.r.l (S71_0 s_) k = k ⟨[(1, rC tsI3 s_), (5, rb ((ref02_May s_) != 0))], [], [], 14⟩ := by kernel_rfl
theorem ref02_Size_fz {α : Type} (s_ : I3) (k : St → Option α) : P71 1 C71.r.l.r.t (S71_0 s_) k = k ⟨[(2, ri 0)], [], [], 14⟩ := by kernel_rfl
theorem ref02_Size_fzx1 {α : Type} (s_ : I3) (k : St → Option α) : P71 1 C71.r.r (S71_0 s_) k = k ⟨[(2, ri (IntKind.wrap .i64 ((IntKind.wrap .i64 (s_.1 * s_.2.1)) * s_.2.2)))], [], [], 14⟩ := by kernel_rfl
/-- quilt/quiltref02.Size -/
def ref02_Size_q {β : Type} (s_ : I3) (K : Int → β) : β := (bif ((ref02_May s_) != 0) then (K (0 : Int)) else (K (IntKind.wrap .i64 ((IntKind.wrap .i64 (s_.1 * s_.2.1)) * s_.2.2))))
def ref02_Size (s_ : I3) : Int := ref02_Size_q s_ (fun y => y)
theorem ref02_Size_n {β : Type} (s_ : I3) (K : Int → β) : ref02_Size_q s_ K = K (ref02_Size s_) := (bif_k K rfl rfl)
theorem ref02_Size_is (s_ : I3) : stepS E cp67 ce4 21 [rA tsI3 s_] = (fun y : Int => some (ri y : R)) (ref02_Size s_) := by
  refine Eq.trans ?_ (ref02_Size_n s_ (fun y : Int => some (ri y : R)))
  refine (stepG_is (nt := 14) (regs := [(0, rA tsI3 s_)])).trans ?_
  unfold ref02_Size_q
  refine (pre1 (ref02_Size_f1 s_ _)).trans ?_
  refine .trans seq_push ?_
  refine (pre1 (ref02_Size_f1000002 s_ _)).trans ?_
  refine (cond_e (b := ((ref02_May s_) != 0)) (st' := (S71_0 s_)) ).trans (bif_g ?_ ?_)
  · refine (pre1 (ref02_Size_fz s_ _)).trans ?_
    refine (ret_eq).trans ?_
    refine seqC_ret.trans ?_
    kernel_rfl
  · refine (skip_eq).trans ?_
    refine (seqC_normal (st' := (S71_0 s_))).trans ?_
    refine (pre1 (ref02_Size_fzx1 s_ _)).trans ?_
    refine (ret_eq).trans ?_
    kernel_rfl
noncomputable def cp68 : CallP := withC cp67 21 [(.agg tsI3)] (.one pI) (fun y : Int => y) (fun x => some (ref02_Size x.1))
theorem cp68_ok : PureOK E cp68 := conS eok cp67_ok ce4_ok fun x => Eq.mp (by kernel_rfl) (ref02_Size_is x.1)
section
variable {α : Type} (v_ : I4) (l_ : (List Int)) (s1351 : ((List Int) × Int)) (y1356 : Int) (y1358 : ((List Int) × Int)) (k : St → Option α) (q : Kont α)
noncomputable abbrev C72 := codeOf E.P 46
noncomputable abbrev P72 := @preK α E 46 cp68 ce4
noncomputable abbrev R72 := @runCode α E 46 cp68 ce4
noncomputable abbrev Q72 := @seqC α E 46 cp68 ce4
abbrev S72_0 : St := ⟨[(1, rl (.one (.int .i8)) l_), (2, rC tsI4 v_), (5, .one (.ow (.one (.int .i8)) [] (.v 5)))], [], [], 31⟩
theorem law05_filled_f2 : P72 2 C72 ⟨[(0, rA tsI4 v_), (1, rl (.one (.int .i8)) l_)], [], [], 31⟩ k = k (S72_0 v_ l_) := by kernel_rfl
abbrev S72_1 : St := ⟨[(1, rl (.one (.int .i8)) l_), (2, rC tsI4 v_), (5, .one (.ow (.one (.int .i8)) [] (.v 5))), (6, ri 0)], [], [], 31⟩
theorem law05_filled_f3 : P72 1 C72.r.r.l (S72_0 v_ l_) k = k (S72_1 v_ l_) := by kernel_rfl
abbrev S72_2 : St := ⟨[(1, rl (.one (.int .i8)) l_), (2, rC tsI4 v_), (5, .one (.ow (.one (.int .i8)) s1351.1 (.v 5))), (6, ri s1351.2)], [], [], 31⟩
theorem law05_filled_fz : P72 1 C72.r.r.l.r.b.b.l (S72_2 v_ l_ s1351) k = k ⟨[(1, rl (.one (.int .i8)) l_), (2, rC tsI4 v_), (5, .one (.ow (.one (.int .i8)) s1351.1 (.v 5))), (6, ri s1351.2), (13, rb (decide (s1351.2 < (ref02_Size (v_.1, v_.2.1, v_.2.2.1)))))], [], [], 31⟩ := by kernel_rfl
abbrev S72_3 : St := ⟨[(1, rl (.one (.int .i8)) l_), (2, rC tsI4 v_), (5, .one (.ow (.one (.int .i8)) s1351.1 (.v 5))), (6, ri s1351.2), (7, rk .i8 (0 : Int))], [], [], 31⟩
theorem law05_filled_f6 : P72 1 C72.r.r.l.r.b.b.r.l.b (S72_2 v_ l_ s1351) k = k (S72_3 v_ l_ s1351) := by kernel_rfl
theorem law05_filled_f1000007 : P72 1 C72.r.r.l.r.b.b.r.l.b.r.l (S72_3 v_ l_ s1351) k = k ⟨[(1, rl (.one (.int .i8)) l_), (2, rC tsI4 v_), (5, .one (.ow (.one (.int .i8)) s1351.1 (.v 5))), (6, ri s1351.2), (7, rk .i8 (0 : Int)), (18, rb (decide ((l_.length : Int) > 0)))], [], [], 31⟩ := by kernel_rfl
def law05_filled_r7_p : Option Unit := (bif ((l_.length : Int) == 0) then none else (bif (decide ((0 : Int) ≤ (Int.tmod s1351.2 (l_.length : Int)))) then (bif (decide ((Int.tmod s1351.2 (l_.length : Int)) < (l_.length : Int))) then (some ()) else none) else none))
abbrev S72_4 : St := ⟨[(1, rl (.one (.int .i8)) l_), (2, rC tsI4 v_), (5, .one (.ow (.one (.int .i8)) s1351.1 (.v 5))), (6, ri s1351.2), (7, rk .i8 (gt l_ (Int.tmod s1351.2 (l_.length : Int)) (0 : Int)))], [], [], 31⟩
theorem law05_filled_r7 : R72 C72.r.r.l.r.b.b.r.l.b.r.l.r.t (S72_3 v_ l_ s1351) q = Option.bind (law05_filled_r7_p l_ s1351) (fun y1355 : Unit => q .normal (S72_4 v_ l_ s1351)) := .trans (by kernel_rfl) (bif_b none_b (bif_b (bif_b some_b none_b) none_b))
def law05_filled_j6_p : Option Int := (bif (decide ((l_.length : Int) > 0)) then (Option.bind (law05_filled_r7_p l_ s1351) (fun y1355 : Unit => (some (gt l_ (Int.tmod s1351.2 (l_.length : Int)) (0 : Int))))) else (some (0 : Int)))
abbrev S72_5 : St := ⟨[(1, rl (.one (.int .i8)) l_), (2, rC tsI4 v_), (5, .one (.ow (.one (.int .i8)) s1351.1 (.v 5))), (6, ri s1351.2), (7, rk .i8 y1356)], [], [], 31⟩
theorem law05_filled_j6 : R72 C72.r.r.l.r.b.b.r.l.b.r.l (S72_3 v_ l_ s1351) (Q72 C72.r.r.l.r.b.b.r.l.b.r.r q) = Option.bind (law05_filled_j6_p l_ s1351) (fun y1356 : Int => R72 C72.r.r.l.r.b.b.r.l.b.r.r (S72_5 v_ l_ s1351 y1356) q) := by
  refine .trans ?_ (bif_b (bind_b fun y1355 => some_b) some_b)
  refine (pre1 (law05_filled_f1000007 v_ l_ s1351 _)).trans ?_
  refine (cond_e (b := (decide ((l_.length : Int) > 0))) (st' := (S72_3 v_ l_ s1351)) ).trans (bif_g ?_ ?_)
  · refine (law05_filled_r7 v_ l_ s1351 _).trans (bind_g fun y1355 => ?_)
    refine (seqC_normal (st' := (S72_4 v_ l_ s1351))).trans ?_
    kernel_rfl
  · refine (skip_eq).trans ?_
    refine (seqC_normal (st' := (S72_3 v_ l_ s1351))).trans ?_
    kernel_rfl
def law05_filled_r8_p : Option Unit := (bif (decide (s1351.1.length + ([y1356] : List Int).length ≤ maxL)) then (some ()) else none)
abbrev S72_6 : St := ⟨[(1, rl (.one (.int .i8)) l_), (2, rC tsI4 v_), (5, .one (.ow (.one (.int .i8)) (s1351.1 ++ [y1356]) (.v 5))), (6, ri s1351.2)], [], [], 31⟩
theorem law05_filled_r8 : R72 C72.r.r.l.r.b.b.r.l.b.r.r (S72_5 v_ l_ s1351 y1356) q = Option.bind (law05_filled_r8_p s1351 y1356) (fun y1357 : Unit => q .normal (S72_6 v_ l_ s1351 y1356)) := .trans (by kernel_rfl) (bif_b some_b none_b)
theorem law05_filled_r4 : R72 C72.r.r.l.r.b.b.r.r (S72_6 v_ l_ s1351 y1356) q = q .normal ⟨[(1, rl (.one (.int .i8)) l_), (2, rC tsI4 v_), (5, .one (.ow (.one (.int .i8)) (s1351.1 ++ [y1356]) (.v 5))), (6, ri (IntKind.wrap .i64 (s1351.2 + 1)))], [], [], 31⟩ := by kernel_rfl
def law05_filled_l3_p : Option (((List Int) × Int) ⊕ ((List Int) × Int)) := (bif (decide (s1351.2 < (ref02_Size (v_.1, v_.2.1, v_.2.2.1)))) then (Option.bind (law05_filled_j6_p l_ s1351) (fun y1356 : Int => (Option.bind (law05_filled_r8_p s1351 y1356) (fun y1357 : Unit => (some (Sum.inl ((s1351.1 ++ [y1356]), (IntKind.wrap .i64 (s1351.2 + 1))))))))) else (some (Sum.inr s1351)))
abbrev S72_7 : St := ⟨[(1, rl (.one (.int .i8)) l_), (2, rC tsI4 v_), (5, .one (.ow (.one (.int .i8)) y1358.1 (.v 5))), (6, ri y1358.2)], [], [], 31⟩
theorem law05_filled_l3_b : R72 C72.r.r.l.r.b.b (S72_2 v_ l_ s1351) (loopKont 0 q) = Option.bind (law05_filled_l3_p v_ l_ s1351) (either (fun y : ((List Int) × Int) => q .normal ⟨[(1, rl (.one (.int .i8)) l_), (2, rC tsI4 v_), (5, .one (.ow (.one (.int .i8)) y.1 (.v 5))), (6, ri y.2)], [], [], 31⟩) (fun y1358 : ((List Int) × Int) => q (.exit 0) (S72_7 v_ l_ y1358))) := by
  refine .trans ?_ (bif_b (bind_b fun y1356 => (bind_b fun y1357 => e2_0)) e2_1)
  refine .trans seq_push ?_
  refine (pre1 (law05_filled_fz v_ l_ s1351 _)).trans ?_
  refine (cond_e (b := (decide (s1351.2 < (ref02_Size (v_.1, v_.2.1, v_.2.2.1))))) (st' := (S72_2 v_ l_ s1351)) ).trans (bif_g ?_ ?_)
  · refine (skip_eq).trans ?_
    refine (seqC_normal (st' := (S72_2 v_ l_ s1351))).trans ?_
    refine .trans seq_push ?_
    refine (block_push (id := 1)).trans ?_
    refine (pre1 (law05_filled_f6 v_ l_ s1351 _)).trans ?_
    refine .trans seq_push ?_
    refine (law05_filled_j6 v_ l_ s1351 _).trans (bind_g fun y1356 => ?_)
    refine (law05_filled_r8 v_ l_ s1351 y1356 _).trans (bind_g fun y1357 => ?_)
    refine block_normal.trans ?_
    refine (seqC_normal (st' := (S72_6 v_ l_ s1351 y1356))).trans ?_
    refine (law05_filled_r4 v_ l_ s1351 y1356 _).trans ?_
    kernel_rfl
  · refine ((exit_eq (j := 0))).trans ?_
    refine seqC_exit.trans ?_
    kernel_rfl
theorem law05_filled_l3 : R72 C72.r.r.l.r.b (S72_1 v_ l_) q = Option.bind (iterN (law05_filled_l3_p v_ l_) LL ([], (0 : Int))) (fun y1358 : ((List Int) × Int) => q (.exit 0) (S72_7 v_ l_ y1358)) :=
  Eq.trans (by kernel_rfl) (loop_iter1 (S := fun s1351 : ((List Int) × Int) => (S72_2 v_ l_ s1351)) (Y1 := fun y1358 : ((List Int) × Int) => ((.exit 0), (S72_7 v_ l_ y1358))) (fun s q => law05_filled_l3_b v_ l_ s q) (fun z => rfl) LL ([], (0 : Int)))
theorem law05_filled_fzx1 : P72 1 C72.r.r.r ⟨[(5, .one (.ow (.one (.int .i8)) y1358.1 (.v 5)))], [], [], 31⟩ k = k ⟨[(4, .one (.ow (.one (.int .i8)) y1358.1 (.v 5)))], [], [], 31⟩ := by kernel_rfl
/-- quilt/quiltlaw05.filled -/
def law05_filled : Option (List Int) := (Option.bind (iterN (law05_filled_l3_p v_ l_) LL ([], (0 : Int))) (fun y1358 : ((List Int) × Int) => (some y1358.1)))
theorem law05_filled_is : stepS E cp68 ce4 46 [rA tsI4 v_, rl (.one (.int .i8)) l_] = Option.bind (law05_filled v_ l_) (fun y : (List Int) => some (rl (.one (.int .i8)) y : R)) := by
  refine .trans ?_ (bind_b fun y1358 => some_b)
  refine (stepG_is (nt := 31) (regs := [(0, rA tsI4 v_), (1, rl (.one (.int .i8)) l_)])).trans ?_
  refine (pre2 (law05_filled_f2 v_ l_ _)).trans ?_
  refine .trans seq_push ?_
  refine (pre1 (law05_filled_f3 v_ l_ _)).trans ?_
  refine (block_push (id := 0)).trans ?_
  refine (law05_filled_l3 v_ l_ _).trans (bind_g fun y1358 => ?_)
  refine block_same.trans ?_
  refine (seqC_normal (st' := ⟨[(5, .one (.ow (.one (.int .i8)) y1358.1 (.v 5)))], [], [], 31⟩)).trans ?_
  refine (pre1 (law05_filled_fzx1 y1358 _)).trans ?_
  refine (ret_eq).trans ?_
  kernel_rfl
noncomputable def cp69 : CallP := withC cp68 46 [(.agg tsI4), (.one (.g (.sl (.one (.int .i8)))))] (.one (.one (.g (.sl (.one (.int .i8)))))) (fun y : (List Int) => y) (fun x => law05_filled x.1 x.2.1)
theorem cp69_ok : PureOK E cp69 := conS eok cp68_ok ce4_ok fun x => Eq.mp (by kernel_rfl) (law05_filled_is x.1 x.2.1)
end
section
variable {α β : Type} (in_ : (List I4)) (l_ : A4) (s1398 : (Int × (List Int) × (List Int))) (y1406 : ((List Int) × (List Int))) (y1407 : (Int × (List Int) × (List Int))) (k : St → Option α) (q : Kont α)
noncomputable abbrev C73 := codeOf E.P 31
noncomputable abbrev P73 := @preK α E 31 cp69 ce4
noncomputable abbrev R73 := @runCode α E 31 cp69 ce4
abbrev S73_0 : St := ⟨[(0, rl tsI4 in_), (3, rC tsA4 l_), (4, rF 0), (5, rF 1)], [[dl (.one (.int .i8)) [], dl (.one (.int .i8)) []], [dl (.one (.int .i8)) [], dl (.one (.int .i8)) []]], [], 29⟩
theorem law05_data_f2 : P73 2 C73 ⟨[(0, rl tsI4 in_), (1, rA tsA4 l_)], [], [], 29⟩ k = k (S73_0 in_ l_) := by kernel_rfl
abbrev S73_1 : St := ⟨[(0, rl tsI4 in_), (3, rC tsA4 l_), (4, rF 0), (5, rF 1), (6, ri 0)], [[dl (.one (.int .i8)) [], dl (.one (.int .i8)) []], [dl (.one (.int .i8)) [], dl (.one (.int .i8)) []]], [], 29⟩
theorem law05_data_f3 : P73 1 C73.r.r.l (S73_0 in_ l_) k = k (S73_1 in_ l_) := by kernel_rfl
def law05_data_r3_q (K : Bool → β) : β := (bif (decide (s1398.1 < (in_.length : Int))) then (K (decide (s1398.1 < 2))) else (K false))
def law05_data_r3_p : Bool := law05_data_r3_q in_ s1398 (fun y => y)
theorem law05_data_r3_n (K : Bool → β) : law05_data_r3_q in_ s1398 K = K (law05_data_r3_p in_ s1398) := (bif_k K rfl rfl)
abbrev S73_2 : St := ⟨[(0, rl tsI4 in_), (3, rC tsA4 l_), (4, rF 0), (5, rF 1), (6, ri s1398.1)], [[dl (.one (.int .i8)) [], dl (.one (.int .i8)) []], (tsA4.leaves s1398.2)], [], 29⟩
theorem law05_data_r3 : P73 1 C73.r.r.l.r.b.b.l (S73_2 in_ l_ s1398) k = k ⟨[(0, rl tsI4 in_), (3, rC tsA4 l_), (4, rF 0), (5, rF 1), (6, ri s1398.1), (15, rb (law05_data_r3_p in_ s1398))], [[dl (.one (.int .i8)) [], dl (.one (.int .i8)) []], (tsA4.leaves s1398.2)], [], 29⟩ := Eq.trans (by kernel_rfl) (law05_data_r3_n in_ s1398 (fun y1400 : Bool => k ⟨[(0, rl tsI4 in_), (3, rC tsA4 l_), (4, rF 0), (5, rF 1), (6, ri s1398.1), (15, rb y1400)], [[dl (.one (.int .i8)) [], dl (.one (.int .i8)) []], (tsA4.leaves s1398.2)], [], 29⟩))
def law05_data_r5_p : Option ((List Int) × (List Int)) := (bif (decide ((0 : Int) ≤ s1398.1)) then (bif (decide (s1398.1 < (in_.length : Int))) then (bif (s1398.1 == 0) then (Option.bind (law05_filled (gt in_ s1398.1 dI4) l_.1) (fun y1404 : (List Int) => (bif (s1398.1 == 0) then (some (y1404, s1398.2.2)) else (bif (s1398.1 == 1) then (some (s1398.2.1, y1404)) else none)))) else (bif (s1398.1 == 1) then (Option.bind (law05_filled (gt in_ s1398.1 dI4) l_.2) (fun y1405 : (List Int) => (bif (s1398.1 == 0) then (some (y1405, s1398.2.2)) else (bif (s1398.1 == 1) then (some (s1398.2.1, y1405)) else none)))) else none)) else none) else none)
abbrev S73_3 : St := ⟨[(0, rl tsI4 in_), (3, rC tsA4 l_), (4, rF 0), (5, rF 1), (6, ri s1398.1)], [[dl (.one (.int .i8)) [], dl (.one (.int .i8)) []], (tsA4.leaves y1406)], [], 29⟩
theorem law05_data_r5 : R73 C73.r.r.l.r.b.b.r.l.b (S73_2 in_ l_ s1398) q = Option.bind (law05_data_r5_p in_ l_ s1398) (fun y1406 : ((List Int) × (List Int)) => q .normal (S73_3 in_ l_ s1398 y1406)) := .trans (by kernel_rfl) (bif_b (bif_b (bif_b (bind_b fun y1404 => (bif_b some_b (bif_b some_b none_b))) (bif_b (bind_b fun y1405 => (bif_b some_b (bif_b some_b none_b))) none_b)) none_b) none_b)
theorem law05_data_r4 : R73 C73.r.r.l.r.b.b.r.r (S73_3 in_ l_ s1398 y1406) q = q .normal ⟨[(0, rl tsI4 in_), (3, rC tsA4 l_), (4, rF 0), (5, rF 1), (6, ri (IntKind.wrap .i64 (s1398.1 + 1)))], [[dl (.one (.int .i8)) [], dl (.one (.int .i8)) []], (tsA4.leaves y1406)], [], 29⟩ := by kernel_rfl
def law05_data_l3_p : Option ((Int × (List Int) × (List Int)) ⊕ (Int × (List Int) × (List Int))) := (bif (law05_data_r3_p in_ s1398) then (Option.bind (law05_data_r5_p in_ l_ s1398) (fun y1406 : ((List Int) × (List Int)) => (some (Sum.inl ((IntKind.wrap .i64 (s1398.1 + 1)), y1406.1, y1406.2))))) else (some (Sum.inr s1398)))
abbrev S73_4 : St := ⟨[(0, rl tsI4 in_), (3, rC tsA4 l_), (4, rF 0), (5, rF 1), (6, ri y1407.1)], [[dl (.one (.int .i8)) [], dl (.one (.int .i8)) []], (tsA4.leaves y1407.2)], [], 29⟩
theorem law05_data_l3_b : R73 C73.r.r.l.r.b.b (S73_2 in_ l_ s1398) (loopKont 2 q) = Option.bind (law05_data_l3_p in_ l_ s1398) (either (fun y : (Int × (List Int) × (List Int)) => q .normal ⟨[(0, rl tsI4 in_), (3, rC tsA4 l_), (4, rF 0), (5, rF 1), (6, ri y.1)], [[dl (.one (.int .i8)) [], dl (.one (.int .i8)) []], (tsA4.leaves y.2)], [], 29⟩) (fun y1407 : (Int × (List Int) × (List Int)) => q (.exit 0) (S73_4 in_ l_ y1407))) := by
  refine .trans ?_ (bif_b (bind_b fun y1406 => e2_0) e2_1)
  refine .trans seq_push ?_
  refine (pre1 (law05_data_r3 in_ l_ s1398 _)).trans ?_
  refine (cond_e (b := (law05_data_r3_p in_ s1398)) (st' := (S73_2 in_ l_ s1398)) ).trans (bif_g ?_ ?_)
  · refine (skip_eq).trans ?_
    refine (seqC_normal (st' := (S73_2 in_ l_ s1398))).trans ?_
    refine .trans seq_push ?_
    refine (block_push (id := 1)).trans ?_
    refine (law05_data_r5 in_ l_ s1398 _).trans (bind_g fun y1406 => ?_)
    refine block_normal.trans ?_
    refine (seqC_normal (st' := (S73_3 in_ l_ s1398 y1406))).trans ?_
    refine (law05_data_r4 in_ l_ s1398 y1406 _).trans ?_
    kernel_rfl
  · refine ((exit_eq (j := 0))).trans ?_
    refine seqC_exit.trans ?_
    kernel_rfl
theorem law05_data_l3 : R73 C73.r.r.l.r.b (S73_1 in_ l_) q = Option.bind (iterN (law05_data_l3_p in_ l_) LL ((0 : Int), [], [])) (fun y1407 : (Int × (List Int) × (List Int)) => q (.exit 0) (S73_4 in_ l_ y1407)) :=
  Eq.trans (by kernel_rfl) (loop_iter1 (S := fun s1398 : (Int × (List Int) × (List Int)) => (S73_2 in_ l_ s1398)) (Y1 := fun y1407 : (Int × (List Int) × (List Int)) => ((.exit 0), (S73_4 in_ l_ y1407))) (fun s q => law05_data_l3_b in_ l_ s q) (fun z => rfl) LL ((0 : Int), [], []))
abbrev S73_5 : St := ⟨[(4, rF 0), (5, rF 1)], [[dl (.one (.int .i8)) [], dl (.one (.int .i8)) []], (tsA4.leaves y1407.2)], [], 29⟩
theorem law05_data_fz : P73 1 C73.r.r.r (S73_5 y1407) k = k ⟨[(4, rF 0)], [(tsA4.leaves y1407.2), []], [], 29⟩ := by kernel_rfl
/-- quilt/quiltlaw05.data -/
def law05_data : Option A4 := (Option.bind (iterN (law05_data_l3_p in_ l_) LL ((0 : Int), [], [])) (fun y1407 : (Int × (List Int) × (List Int)) => (some y1407.2)))
theorem law05_data_is : stepS E cp69 ce4 31 [rl tsI4 in_, rA tsA4 l_] = Option.bind (law05_data in_ l_) (fun y : A4 => some (rA tsA4 y : R)) := by
  refine .trans ?_ (bind_b fun y1407 => some_b)
  refine (stepG_is (nt := 29) (regs := [(0, rl tsI4 in_), (1, rA tsA4 l_)])).trans ?_
  refine (pre2 (law05_data_f2 in_ l_ _)).trans ?_
  refine .trans seq_push ?_
  refine (pre1 (law05_data_f3 in_ l_ _)).trans ?_
  refine (block_push (id := 0)).trans ?_
  refine (law05_data_l3 in_ l_ _).trans (bind_g fun y1407 => ?_)
  refine block_same.trans ?_
  refine (seqC_normal (st' := (S73_5 y1407))).trans ?_
  refine (pre1 (law05_data_fz y1407 _)).trans ?_
  refine (ret_eq).trans ?_
  kernel_rfl
noncomputable def cp70 : CallP := withC cp69 31 [(pL tsI4), (.agg tsA4)] (.one (.agg tsA4)) (fun y : A4 => y) (fun x => law05_data x.1 x.2.1)
theorem cp70_ok : PureOK E cp70 := conS eok cp69_ok ce4_ok fun x => Eq.mp (by kernel_rfl) (law05_data_is x.1 x.2.1)
end
section
variable {α β : Type} (x_ : Data) (y1323 : (List I4)) (k : St → Option α)
noncomputable abbrev C74 := codeOf E.P 18
noncomputable abbrev P74 := @preK α E 18 cp70 ce4
abbrev S74_0 : St := ⟨[(1, rC tsData x_), (3, rF 0), (5, rl tsI4 y1323)], [[dl (.one (.int .i8)) [], dl (.one (.int .i8)) []]], [], 39⟩
theorem law05_pair_r1 : P74 2 C74 ⟨[(0, rA tsData x_)], [], [], 39⟩ k = Option.bind (law05_some x_.1) fun y1323 : (List I4) => k (S74_0 x_ y1323) := by kernel_rfl
def law05_pair_r2_p : Option Bool := (bif ((y1323.length : Int) == 0) then (some true) else (bif (decide ((0 : Int) < (y1323.length : Int))) then (some ((ref02_May ((gt y1323 (0 : Int) dI4).1, (gt y1323 (0 : Int) dI4).2.1, (gt y1323 (0 : Int) dI4).2.2.1)) != 0)) else none))
theorem law05_pair_r2 : P74 1 C74.r.r.l (S74_0 x_ y1323) k = Option.bind (law05_pair_r2_p y1323) (fun y1327 : Bool => k ⟨[(1, rC tsData x_), (3, rF 0), (5, rl tsI4 y1323), (21, rb y1327)], [[dl (.one (.int .i8)) [], dl (.one (.int .i8)) []]], [], 39⟩) := .trans (by kernel_rfl) (bif_b some_b (bif_b some_b none_b))
theorem law05_pair_fz : P74 1 C74.r.r.l.r.t (S74_0 x_ y1323) k = k ⟨[(2, .one (.ow tsI4 [] (.v 2))), (3, rF 0), (4, rb false)], [[dl (.one (.int .i8)) [], dl (.one (.int .i8)) []]], [], 39⟩ := by kernel_rfl
def law05_pair_r4_p : Option Unit := (bif (decide ((0 : Int) < (y1323.length : Int))) then (some ()) else none)
abbrev S74_1 : St := ⟨[(1, rC tsData x_), (3, rF 0), (6, rF 1)], [[dl (.one (.int .i8)) [], dl (.one (.int .i8)) []], (tsI4.leaves (gt y1323 (0 : Int) dI4))], [], 39⟩
theorem law05_pair_r4 : P74 1 C74.r.r.r (S74_0 x_ y1323) k = Option.bind (law05_pair_r4_p y1323) (fun y1328 : Unit => k (S74_1 x_ y1323)) := .trans (by kernel_rfl) (bif_b some_b none_b)
def law05_pair_r6_q (K : (List I4) → β) : β := (K [((gt y1323 (0 : Int) dI4).1, (gt y1323 (0 : Int) dI4).2.1, (gt y1323 (0 : Int) dI4).2.2.1, (min (max ((gt y1323 (0 : Int) dI4).2.2.2) (-128 : Int)) (127 : Int))), ((gt y1323 (0 : Int) dI4).1, (gt y1323 (0 : Int) dI4).2.1, (gt y1323 (0 : Int) dI4).2.2.1, (min (max ((gt y1323 (0 : Int) dI4).2.2.2) (-128 : Int)) (127 : Int)))])
def law05_pair_r6_p : (List I4) := law05_pair_r6_q y1323 (fun y => y)
theorem law05_pair_r6_n (K : (List I4) → β) : law05_pair_r6_q y1323 K = K (law05_pair_r6_p y1323) := rfl
abbrev S74_2 : St := ⟨[(1, rC tsData x_), (3, rF 0), (7, .one (.ow tsI4 (law05_pair_r6_p y1323) (.v 7)))], [[dl (.one (.int .i8)) [], dl (.one (.int .i8)) []], []], [], 39⟩
theorem law05_pair_r6 : P74 2 C74.r.r.r.r (S74_1 x_ y1323) k = k (S74_2 x_ y1323) := Eq.trans (by kernel_rfl) (law05_pair_r6_n y1323 (fun y1329 : (List I4) => k ⟨[(1, rC tsData x_), (3, rF 0), (7, rO tsI4 y1329 7)], [[dl (.one (.int .i8)) [], dl (.one (.int .i8)) []], []], [], 39⟩))
theorem law05_pair_r7 : P74 1 C74.r.r.r.r.r.r (S74_2 x_ y1323) k = Option.bind (law05_data (law05_pair_r6_p y1323) x_.2) fun y1408 : A4 => k ⟨[(2, .one (.ow tsI4 (law05_pair_r6_p y1323) (.v 7))), (3, rF 0), (4, rb true)], [(tsA4.leaves y1408), []], [], 39⟩ := by kernel_rfl
/-- quilt/quiltlaw05.pair -/
def law05_pair : Option ((List I4) × A4 × Bool) := (Option.bind (law05_some x_.1) (fun y1323 : (List I4) => (Option.bind (law05_pair_r2_p y1323) (fun y1327 : Bool => (bif y1327 then (some ([], ([], []), false)) else (Option.bind (law05_pair_r4_p y1323) (fun y1328 : Unit => (Option.bind (law05_data (law05_pair_r6_p y1323) x_.2) (fun y1408 : A4 => (some ((law05_pair_r6_p y1323), y1408, true)))))))))))
theorem law05_pair_is : stepO E cp70 ce4 18 [rA tsData x_] = Option.bind (law05_pair x_) (fun y : ((List I4) × A4 × Bool) => some (.tup [.one (.ow tsI4 y.1 (.s 0)), rA tsA4 y.2.1, rb y.2.2] : R)) := by
  refine .trans ?_ (bind_b fun y1323 => (bind_b fun y1327 => (bif_b some_b (bind_b fun y1328 => (bind_b fun y1408 => some_b)))))
  refine (stepG_is (nt := 39) (regs := [(0, rA tsData x_)])).trans ?_
  refine (pre2 (law05_pair_r1 x_ _)).trans (bind_g fun y1323 => ?_)
  refine .trans seq_push ?_
  refine (pre1 (law05_pair_r2 x_ y1323 _)).trans (bind_g fun y1327 => ?_)
  refine (cond_e (b := y1327) (st' := (S74_0 x_ y1323)) ).trans (bif_g ?_ ?_)
  · refine (pre1 (law05_pair_fz x_ y1323 _)).trans ?_
    refine (ret_eq).trans ?_
    refine seqC_ret.trans ?_
    kernel_rfl
  · refine (skip_eq).trans ?_
    refine (seqC_normal (st' := (S74_0 x_ y1323))).trans ?_
    refine (pre1 (law05_pair_r4 x_ y1323 _)).trans (bind_g fun y1328 => ?_)
    refine (pre2 (law05_pair_r6 x_ y1323 _)).trans ?_
    refine (pre1 (law05_pair_r7 x_ y1323 _)).trans (bind_g fun y1408 => ?_)
    refine (ret_eq).trans ?_
    kernel_rfl
noncomputable def cp71 : CallP := withC cp70 18 [(.agg tsData)] (.tup [(.one (.ow tsI4)), (.agg tsA4), pB]) (fun y : ((List I4) × A4 × Bool) => (y.1, y.2.1, y.2.2, ())) (fun x => law05_pair x.1)
theorem cp71_ok : PureOK E cp71 := conO eok cp70_ok ce4_ok fun x => Eq.mp (by kernel_rfl) (law05_pair_is x.1)
end
noncomputable abbrev C75 := codeOf E.P 44
noncomputable abbrev P75 {α : Type} := @preK α E 44 cp71 ce4
def ref03_Two_r1_q {β : Type} (op : Int) (K : Bool → β) : β := (bif (op == 6) then (K true) else (bif (op == 7) then (K true) else (K (op == 10))))
def ref03_Two_r1_p (op : Int) : Bool := ref03_Two_r1_q op (fun y => y)
theorem ref03_Two_r1_n {β : Type} (op : Int) (K : Bool → β) : ref03_Two_r1_q op K = K (ref03_Two_r1_p op) := (bif_k K rfl (bif_k K rfl rfl))
theorem ref03_Two_r1 {α : Type} (op : Int) (k : St → Option α) : P75 2 C75 ⟨[(0, ri op)], [], [], 13⟩ k = k ⟨[(2, rb (ref03_Two_r1_p op))], [], [], 13⟩ := Eq.trans (by kernel_rfl) (ref03_Two_r1_n op (fun y1433 : Bool => k ⟨[(2, rb y1433)], [], [], 13⟩))
/-- quilt/quiltref03.Two -/
def ref03_Two_q {β : Type} (op : Int) (K : Bool → β) : β := (K (ref03_Two_r1_p op))
def ref03_Two (op : Int) : Bool := ref03_Two_q op (fun y => y)
theorem ref03_Two_n {β : Type} (op : Int) (K : Bool → β) : ref03_Two_q op K = K (ref03_Two op) := rfl
theorem ref03_Two_is (op : Int) : stepS E cp71 ce4 44 [ri op] = (fun y : Bool => some (rb y : R)) (ref03_Two op) := by
  refine Eq.trans ?_ (ref03_Two_n op (fun y : Bool => some (rb y : R)))
  refine (stepG_is (nt := 13) (regs := [(0, ri op)])).trans ?_
  unfold ref03_Two_q
  refine (pre2 (ref03_Two_r1 op _)).trans ?_
  refine (ret_eq).trans ?_
  kernel_rfl
noncomputable def cp72 : CallP := withC cp71 44 [pI] (.one pB) (fun y : Bool => y) (fun x => some (ref03_Two x.1))
theorem cp72_ok : PureOK E cp72 := conS eok cp71_ok ce4_ok fun x => Eq.mp (by kernel_rfl) (ref03_Two_is x.1)
noncomputable abbrev C76 := codeOf E.P 45
noncomputable abbrev P76 {α : Type} := @preK α E 45 cp72 ce4
def ref03_Window_r1_q {β : Type} (op : Int) (K : Bool → β) : β := (bif (decide (op ≥ 1)) then (bif (decide (op ≤ 5)) then (K (op != 3)) else (K false)) else (K false))
def ref03_Window_r1_p (op : Int) : Bool := ref03_Window_r1_q op (fun y => y)
theorem ref03_Window_r1_n {β : Type} (op : Int) (K : Bool → β) : ref03_Window_r1_q op K = K (ref03_Window_r1_p op) := (bif_k K (bif_k K rfl rfl) rfl)
theorem ref03_Window_r1 {α : Type} (op : Int) (k : St → Option α) : P76 2 C76 ⟨[(0, ri op)], [], [], 13⟩ k = k ⟨[(2, rb (ref03_Window_r1_p op))], [], [], 13⟩ := Eq.trans (by kernel_rfl) (ref03_Window_r1_n op (fun y1436 : Bool => k ⟨[(2, rb y1436)], [], [], 13⟩))
/-- quilt/quiltref03.Window -/
def ref03_Window_q {β : Type} (op : Int) (K : Bool → β) : β := (K (ref03_Window_r1_p op))
def ref03_Window (op : Int) : Bool := ref03_Window_q op (fun y => y)
theorem ref03_Window_n {β : Type} (op : Int) (K : Bool → β) : ref03_Window_q op K = K (ref03_Window op) := rfl
theorem ref03_Window_is (op : Int) : stepS E cp72 ce4 45 [ri op] = (fun y : Bool => some (rb y : R)) (ref03_Window op) := by
  refine Eq.trans ?_ (ref03_Window_n op (fun y : Bool => some (rb y : R)))
  refine (stepG_is (nt := 13) (regs := [(0, ri op)])).trans ?_
  unfold ref03_Window_q
  refine (pre2 (ref03_Window_r1 op _)).trans ?_
  refine (ret_eq).trans ?_
  kernel_rfl
noncomputable def cp73 : CallP := withC cp72 45 [pI] (.one pB) (fun y : Bool => y) (fun x => some (ref03_Window x.1))
theorem cp73_ok : PureOK E cp73 := conS eok cp72_ok ce4_ok fun x => Eq.mp (by kernel_rfl) (ref03_Window_is x.1)
section
variable {α β : Type} (x_ : Int) (low : Int) (high : Int) (k : St → Option α)
noncomputable abbrev C77 := codeOf E.P 30
noncomputable abbrev P77 := @preK α E 30 cp73 ce4
def ref03_in_r1_q (K : Bool → β) : β := (bif (decide (x_ ≥ low)) then (K (decide (x_ ≤ high))) else (K false))
def ref03_in_r1_p : Bool := ref03_in_r1_q x_ low high (fun y => y)
theorem ref03_in_r1_n (K : Bool → β) : ref03_in_r1_q x_ low high K = K (ref03_in_r1_p x_ low high) := (bif_k K rfl rfl)
theorem ref03_in_r1 : P77 2 C77 ⟨[(0, ri x_), (1, ri low), (2, ri high)], [], [], 15⟩ k = k ⟨[(6, rb (ref03_in_r1_p x_ low high))], [], [], 15⟩ := Eq.trans (by kernel_rfl) (ref03_in_r1_n x_ low high (fun y1437 : Bool => k ⟨[(6, rb y1437)], [], [], 15⟩))
/-- quilt/quiltref03.in -/
def ref03_in_q (K : Bool → β) : β := (K (ref03_in_r1_p x_ low high))
def ref03_in : Bool := ref03_in_q x_ low high (fun y => y)
theorem ref03_in_n (K : Bool → β) : ref03_in_q x_ low high K = K (ref03_in x_ low high) := rfl
theorem ref03_in_is : stepS E cp73 ce4 30 [ri x_, ri low, ri high] = (fun y : Bool => some (rb y : R)) (ref03_in x_ low high) := by
  refine Eq.trans ?_ (ref03_in_n x_ low high (fun y : Bool => some (rb y : R)))
  refine (stepG_is (nt := 15) (regs := [(0, ri x_), (1, ri low), (2, ri high)])).trans ?_
  unfold ref03_in_q
  refine (pre2 (ref03_in_r1 x_ low high _)).trans ?_
  refine (ret_eq).trans ?_
  kernel_rfl
noncomputable def cp74 : CallP := withC cp73 30 [pI, pI, pI] (.one pB) (fun y : Bool => y) (fun x => some (ref03_in x.1 x.2.1 x.2.2.1))
theorem cp74_ok : PureOK E cp74 := conS eok cp73_ok ce4_ok fun x => Eq.mp (by kernel_rfl) (ref03_in_is x.1 x.2.1 x.2.2.1)
end
section
variable {α β : Type} (n_ : Node) (many : Int) (k : St → Option α) (q : Kont α)
noncomputable abbrev C78 := codeOf E.P 25
noncomputable abbrev P78 := @preK α E 25 cp74 ce4
noncomputable abbrev R78 := @runCode α E 25 cp74 ce4
noncomputable abbrev Q78 := @seqC α E 25 cp74 ce4
abbrev S78_0 : St := ⟨[(1, ri many), (2, rC tsNode n_), (5, ri 1)], [], [], 119⟩
theorem ref03_node_f2 : P78 2 C78 ⟨[(0, rA tsNode n_), (1, ri many)], [], [], 119⟩ k = k (S78_0 n_ many) := by kernel_rfl
theorem ref03_node_f1000003 : P78 1 C78.r.r.l (S78_0 n_ many) k = k ⟨[(1, ri many), (2, rC tsNode n_), (5, ri 1), (13, rb (ref03_Two n_.1))], [], [], 119⟩ := by kernel_rfl
abbrev S78_1 : St := ⟨[(1, ri many), (2, rC tsNode n_), (5, ri 2)], [], [], 119⟩
theorem ref03_node_r3 : R78 C78.r.r.l.r.t (S78_0 n_ many) q = q .normal (S78_1 n_ many) := by kernel_rfl
def ref03_node_j2_q (K : Int → β) : β := (bif (ref03_Two n_.1) then (K (2 : Int)) else (K (1 : Int)))
def ref03_node_j2_p : Int := ref03_node_j2_q n_ (fun y => y)
theorem ref03_node_j2_n (K : Int → β) : ref03_node_j2_q n_ K = K (ref03_node_j2_p n_) := (bif_k K rfl rfl)
abbrev S78_2 : St := ⟨[(1, ri many), (2, rC tsNode n_), (5, ri (ref03_node_j2_p n_))], [], [], 119⟩
theorem ref03_node_j2 : R78 C78.r.r.l (S78_0 n_ many) (Q78 C78.r.r.r q) = R78 C78.r.r.r (S78_2 n_ many) q := by
  refine Eq.trans ?_ (ref03_node_j2_n n_ (fun y1434 : Int => R78 C78.r.r.r ⟨[(1, ri many), (2, rC tsNode n_), (5, ri y1434)], [], [], 119⟩ q))
  unfold ref03_node_j2_q
  refine (pre1 (ref03_node_f1000003 n_ many _)).trans ?_
  refine (cond_e (b := (ref03_Two n_.1)) (st' := (S78_0 n_ many)) ).trans (bif_g ?_ ?_)
  · refine (ref03_node_r3 n_ many _).trans ?_
    refine (seqC_normal (st' := (S78_1 n_ many))).trans ?_
    kernel_rfl
  · refine (skip_eq).trans ?_
    refine (seqC_normal (st' := (S78_0 n_ many))).trans ?_
    kernel_rfl
def ref03_node_r4_q (K : Bool → β) : β := (bif (n_.2.2.1 == 0) then (K (n_.2.2.2.1 == 0)) else (K false))
def ref03_node_r4_p : Bool := ref03_node_r4_q n_ (fun y => y)
theorem ref03_node_r4_n (K : Bool → β) : ref03_node_r4_q n_ K = K (ref03_node_r4_p n_) := (bif_k K rfl rfl)
abbrev S78_3 : St := ⟨[(1, ri many), (2, rC tsNode n_), (5, ri (ref03_node_j2_p n_)), (6, rb (ref03_node_r4_p n_))], [], [], 119⟩
theorem ref03_node_r4 : P78 1 C78.r.r.r (S78_2 n_ many) k = k (S78_3 n_ many) := Eq.trans (by kernel_rfl) (ref03_node_r4_n n_ (fun y1435 : Bool => k ⟨[(1, ri many), (2, rC tsNode n_), (5, ri (ref03_node_j2_p n_)), (6, rb y1435)], [], [], 119⟩))
theorem ref03_node_f1000006 : P78 1 C78.r.r.r.r.l (S78_3 n_ many) k = k ⟨[(1, ri many), (2, rC tsNode n_), (5, ri (ref03_node_j2_p n_)), (6, rb (ref03_node_r4_p n_)), (24, rb (ref03_Window n_.1))], [], [], 119⟩ := by kernel_rfl
def ref03_node_r6_q (K : Bool → β) : β := (bif (ref03_in n_.2.2.1 (1 : Int) (3 : Int)) then (K (ref03_in n_.2.2.2.1 (1 : Int) (2 : Int))) else (K false))
def ref03_node_r6_p : Bool := ref03_node_r6_q n_ (fun y => y)
theorem ref03_node_r6_n (K : Bool → β) : ref03_node_r6_q n_ K = K (ref03_node_r6_p n_) := (bif_k K rfl rfl)
abbrev S78_4 : St := ⟨[(1, ri many), (2, rC tsNode n_), (5, ri (ref03_node_j2_p n_)), (6, rb (ref03_node_r6_p n_))], [], [], 119⟩
theorem ref03_node_r6 : R78 C78.r.r.r.r.l.r.t (S78_3 n_ many) q = q .normal (S78_4 n_ many) := Eq.trans (by kernel_rfl) (ref03_node_r6_n n_ (fun y1438 : Bool => q .normal ⟨[(1, ri many), (2, rC tsNode n_), (5, ri (ref03_node_j2_p n_)), (6, rb y1438)], [], [], 119⟩))
def ref03_node_j5_q (K : Bool → β) : β := (bif (ref03_Window n_.1) then (K (ref03_node_r6_p n_)) else (K (ref03_node_r4_p n_)))
def ref03_node_j5_p : Bool := ref03_node_j5_q n_ (fun y => y)
theorem ref03_node_j5_n (K : Bool → β) : ref03_node_j5_q n_ K = K (ref03_node_j5_p n_) := (bif_k K rfl rfl)
abbrev S78_5 : St := ⟨[(1, ri many), (2, rC tsNode n_), (5, ri (ref03_node_j2_p n_)), (6, rb (ref03_node_j5_p n_))], [], [], 119⟩
theorem ref03_node_j5 : R78 C78.r.r.r.r.l (S78_3 n_ many) (Q78 C78.r.r.r.r.r q) = R78 C78.r.r.r.r.r (S78_5 n_ many) q := by
  refine Eq.trans ?_ (ref03_node_j5_n n_ (fun y1439 : Bool => R78 C78.r.r.r.r.r ⟨[(1, ri many), (2, rC tsNode n_), (5, ri (ref03_node_j2_p n_)), (6, rb y1439)], [], [], 119⟩ q))
  unfold ref03_node_j5_q
  refine (pre1 (ref03_node_f1000006 n_ many _)).trans ?_
  refine (cond_e (b := (ref03_Window n_.1)) (st' := (S78_3 n_ many)) ).trans (bif_g ?_ ?_)
  · refine (ref03_node_r6 n_ many _).trans ?_
    refine (seqC_normal (st' := (S78_4 n_ many))).trans ?_
    kernel_rfl
  · refine (skip_eq).trans ?_
    refine (seqC_normal (st' := (S78_3 n_ many))).trans ?_
    kernel_rfl
abbrev S78_6 : St := ⟨[(1, ri many), (2, rC tsNode n_), (5, ri (ref03_node_j2_p n_)), (6, rb (ref03_node_j5_p n_)), (7, rb (n_.2.2.2.2.1 == 0))], [], [], 119⟩
theorem ref03_node_f8 : P78 1 C78.r.r.r.r.r (S78_5 n_ many) k = k (S78_6 n_ many) := by kernel_rfl
def ref03_node_r8_q (K : Bool → β) : β := (bif (n_.1 == 1) then (K true) else (K (n_.1 == 2)))
def ref03_node_r8_p : Bool := ref03_node_r8_q n_ (fun y => y)
theorem ref03_node_r8_n (K : Bool → β) : ref03_node_r8_q n_ K = K (ref03_node_r8_p n_) := (bif_k K rfl rfl)
theorem ref03_node_r8 : P78 1 C78.r.r.r.r.r.r.l (S78_6 n_ many) k = k ⟨[(1, ri many), (2, rC tsNode n_), (5, ri (ref03_node_j2_p n_)), (6, rb (ref03_node_j5_p n_)), (7, rb (n_.2.2.2.2.1 == 0)), (43, rb (ref03_node_r8_p n_))], [], [], 119⟩ := Eq.trans (by kernel_rfl) (ref03_node_r8_n n_ (fun y1440 : Bool => k ⟨[(1, ri many), (2, rC tsNode n_), (5, ri (ref03_node_j2_p n_)), (6, rb (ref03_node_j5_p n_)), (7, rb (n_.2.2.2.2.1 == 0)), (43, rb y1440)], [], [], 119⟩))
def ref03_node_r9_q (K : Bool → β) : β := (bif (ref03_in n_.2.2.2.2.1 (0 : Int) (1 : Int)) then (K (decide (n_.2.2.2.2.1 < n_.2.2.1))) else (K false))
def ref03_node_r9_p : Bool := ref03_node_r9_q n_ (fun y => y)
theorem ref03_node_r9_n (K : Bool → β) : ref03_node_r9_q n_ K = K (ref03_node_r9_p n_) := (bif_k K rfl rfl)
abbrev S78_7 : St := ⟨[(1, ri many), (2, rC tsNode n_), (5, ri (ref03_node_j2_p n_)), (6, rb (ref03_node_j5_p n_)), (7, rb (ref03_node_r9_p n_))], [], [], 119⟩
theorem ref03_node_r9 : R78 C78.r.r.r.r.r.r.l.r.t (S78_6 n_ many) q = q .normal (S78_7 n_ many) := Eq.trans (by kernel_rfl) (ref03_node_r9_n n_ (fun y1441 : Bool => q .normal ⟨[(1, ri many), (2, rC tsNode n_), (5, ri (ref03_node_j2_p n_)), (6, rb (ref03_node_j5_p n_)), (7, rb y1441)], [], [], 119⟩))
def ref03_node_j8_q (K : Bool → β) : β := (bif (ref03_node_r8_p n_) then (K (ref03_node_r9_p n_)) else (K (n_.2.2.2.2.1 == 0)))
def ref03_node_j8_p : Bool := ref03_node_j8_q n_ (fun y => y)
theorem ref03_node_j8_n (K : Bool → β) : ref03_node_j8_q n_ K = K (ref03_node_j8_p n_) := (bif_k K rfl rfl)
abbrev S78_8 : St := ⟨[(1, ri many), (2, rC tsNode n_), (5, ri (ref03_node_j2_p n_)), (6, rb (ref03_node_j5_p n_)), (7, rb (ref03_node_j8_p n_))], [], [], 119⟩
theorem ref03_node_j8 : R78 C78.r.r.r.r.r.r.l (S78_6 n_ many) (Q78 C78.r.r.r.r.r.r.r q) = R78 C78.r.r.r.r.r.r.r (S78_8 n_ many) q := by
  refine Eq.trans ?_ (ref03_node_j8_n n_ (fun y1442 : Bool => R78 C78.r.r.r.r.r.r.r ⟨[(1, ri many), (2, rC tsNode n_), (5, ri (ref03_node_j2_p n_)), (6, rb (ref03_node_j5_p n_)), (7, rb y1442)], [], [], 119⟩ q))
  unfold ref03_node_j8_q
  refine (pre1 (ref03_node_r8 n_ many _)).trans ?_
  refine (cond_e (b := (ref03_node_r8_p n_)) (st' := (S78_6 n_ many)) ).trans (bif_g ?_ ?_)
  · refine (ref03_node_r9 n_ many _).trans ?_
    refine (seqC_normal (st' := (S78_7 n_ many))).trans ?_
    kernel_rfl
  · refine (skip_eq).trans ?_
    refine (seqC_normal (st' := (S78_6 n_ many))).trans ?_
    kernel_rfl
theorem ref03_node_f1000011 : P78 1 C78.r.r.r.r.r.r.r.l (S78_8 n_ many) k = k ⟨[(1, ri many), (2, rC tsNode n_), (5, ri (ref03_node_j2_p n_)), (6, rb (ref03_node_j5_p n_)), (7, rb (ref03_node_j8_p n_)), (56, rb (n_.1 == 9))], [], [], 119⟩ := by kernel_rfl
abbrev S78_9 : St := ⟨[(1, ri many), (2, rC tsNode n_), (5, ri (ref03_node_j2_p n_)), (6, rb (ref03_node_j5_p n_)), (7, rb (n_.2.2.2.2.1 == 1))], [], [], 119⟩
theorem ref03_node_r11 : R78 C78.r.r.r.r.r.r.r.l.r.t (S78_8 n_ many) q = q .normal (S78_9 n_ many) := by kernel_rfl
def ref03_node_j10_q (K : Bool → β) : β := (bif (n_.1 == 9) then (K (n_.2.2.2.2.1 == 1)) else (K (ref03_node_j8_p n_)))
def ref03_node_j10_p : Bool := ref03_node_j10_q n_ (fun y => y)
theorem ref03_node_j10_n (K : Bool → β) : ref03_node_j10_q n_ K = K (ref03_node_j10_p n_) := (bif_k K rfl rfl)
abbrev S78_10 : St := ⟨[(1, ri many), (2, rC tsNode n_), (5, ri (ref03_node_j2_p n_)), (6, rb (ref03_node_j5_p n_)), (7, rb (ref03_node_j10_p n_))], [], [], 119⟩
theorem ref03_node_j10 : R78 C78.r.r.r.r.r.r.r.l (S78_8 n_ many) (Q78 C78.r.r.r.r.r.r.r.r q) = R78 C78.r.r.r.r.r.r.r.r (S78_10 n_ many) q := by
  refine Eq.trans ?_ (ref03_node_j10_n n_ (fun y1443 : Bool => R78 C78.r.r.r.r.r.r.r.r ⟨[(1, ri many), (2, rC tsNode n_), (5, ri (ref03_node_j2_p n_)), (6, rb (ref03_node_j5_p n_)), (7, rb y1443)], [], [], 119⟩ q))
  unfold ref03_node_j10_q
  refine (pre1 (ref03_node_f1000011 n_ many _)).trans ?_
  refine (cond_e (b := (n_.1 == 9)) (st' := (S78_8 n_ many)) ).trans (bif_g ?_ ?_)
  · refine (ref03_node_r11 n_ many _).trans ?_
    refine (seqC_normal (st' := (S78_9 n_ many))).trans ?_
    kernel_rfl
  · refine (skip_eq).trans ?_
    refine (seqC_normal (st' := (S78_8 n_ many))).trans ?_
    kernel_rfl
abbrev S78_11 : St := ⟨[(1, ri many), (2, rC tsNode n_), (5, ri (ref03_node_j2_p n_)), (6, rb (ref03_node_j5_p n_)), (7, rb (ref03_node_j10_p n_)), (8, rb (n_.2.2.2.2.2.1 == 0))], [], [], 119⟩
theorem ref03_node_f13 : P78 1 C78.r.r.r.r.r.r.r.r (S78_10 n_ many) k = k (S78_11 n_ many) := by kernel_rfl
def ref03_node_r13_q (K : Bool → β) : β := (bif (n_.1 == 1) then (K true) else (K (n_.1 == 3)))
def ref03_node_r13_p : Bool := ref03_node_r13_q n_ (fun y => y)
theorem ref03_node_r13_n (K : Bool → β) : ref03_node_r13_q n_ K = K (ref03_node_r13_p n_) := (bif_k K rfl rfl)
theorem ref03_node_r13 : P78 1 C78.r.r.r.r.r.r.r.r.r.l (S78_11 n_ many) k = k ⟨[(1, ri many), (2, rC tsNode n_), (5, ri (ref03_node_j2_p n_)), (6, rb (ref03_node_j5_p n_)), (7, rb (ref03_node_j10_p n_)), (8, rb (n_.2.2.2.2.2.1 == 0)), (70, rb (ref03_node_r13_p n_))], [], [], 119⟩ := Eq.trans (by kernel_rfl) (ref03_node_r13_n n_ (fun y1444 : Bool => k ⟨[(1, ri many), (2, rC tsNode n_), (5, ri (ref03_node_j2_p n_)), (6, rb (ref03_node_j5_p n_)), (7, rb (ref03_node_j10_p n_)), (8, rb (n_.2.2.2.2.2.1 == 0)), (70, rb y1444)], [], [], 119⟩))
abbrev S78_12 : St := ⟨[(1, ri many), (2, rC tsNode n_), (5, ri (ref03_node_j2_p n_)), (6, rb (ref03_node_j5_p n_)), (7, rb (ref03_node_j10_p n_)), (8, rb (ref03_in n_.2.2.2.2.2.1 (1 : Int) (8 : Int)))], [], [], 119⟩
theorem ref03_node_r14 : R78 C78.r.r.r.r.r.r.r.r.r.l.r.t (S78_11 n_ many) q = q .normal (S78_12 n_ many) := by kernel_rfl
def ref03_node_j13_q (K : Bool → β) : β := (bif (ref03_node_r13_p n_) then (K (ref03_in n_.2.2.2.2.2.1 (1 : Int) (8 : Int))) else (K (n_.2.2.2.2.2.1 == 0)))
def ref03_node_j13_p : Bool := ref03_node_j13_q n_ (fun y => y)
theorem ref03_node_j13_n (K : Bool → β) : ref03_node_j13_q n_ K = K (ref03_node_j13_p n_) := (bif_k K rfl rfl)
abbrev S78_13 : St := ⟨[(1, ri many), (2, rC tsNode n_), (5, ri (ref03_node_j2_p n_)), (6, rb (ref03_node_j5_p n_)), (7, rb (ref03_node_j10_p n_)), (8, rb (ref03_node_j13_p n_))], [], [], 119⟩
theorem ref03_node_j13 : R78 C78.r.r.r.r.r.r.r.r.r.l (S78_11 n_ many) (Q78 C78.r.r.r.r.r.r.r.r.r.r q) = R78 C78.r.r.r.r.r.r.r.r.r.r (S78_13 n_ many) q := by
  refine Eq.trans ?_ (ref03_node_j13_n n_ (fun y1445 : Bool => R78 C78.r.r.r.r.r.r.r.r.r.r ⟨[(1, ri many), (2, rC tsNode n_), (5, ri (ref03_node_j2_p n_)), (6, rb (ref03_node_j5_p n_)), (7, rb (ref03_node_j10_p n_)), (8, rb y1445)], [], [], 119⟩ q))
  unfold ref03_node_j13_q
  refine (pre1 (ref03_node_r13 n_ many _)).trans ?_
  refine (cond_e (b := (ref03_node_r13_p n_)) (st' := (S78_11 n_ many)) ).trans (bif_g ?_ ?_)
  · refine (ref03_node_r14 n_ many _).trans ?_
    refine (seqC_normal (st' := (S78_12 n_ many))).trans ?_
    kernel_rfl
  · refine (skip_eq).trans ?_
    refine (seqC_normal (st' := (S78_11 n_ many))).trans ?_
    kernel_rfl
def ref03_node_r15_q (K : Bool → β) : β := (bif ((n_.2.2.2.2.2.2.2.2.2.1 == 0) && ((n_.2.2.2.2.2.2.2.2.2.2.1 == 0) && ((n_.2.2.2.2.2.2.2.2.2.2.2.1 == 0) && true))) then (K true) else (K (n_.1 == 11)))
def ref03_node_r15_p : Bool := ref03_node_r15_q n_ (fun y => y)
theorem ref03_node_r15_n (K : Bool → β) : ref03_node_r15_q n_ K = K (ref03_node_r15_p n_) := (bif_k K rfl rfl)
abbrev S78_14 : St := ⟨[(1, ri many), (2, rC tsNode n_), (5, ri (ref03_node_j2_p n_)), (6, rb (ref03_node_j5_p n_)), (7, rb (ref03_node_j10_p n_)), (8, rb (ref03_node_j13_p n_)), (9, rb (ref03_node_r15_p n_))], [], [], 119⟩
theorem ref03_node_r15 : P78 1 C78.r.r.r.r.r.r.r.r.r.r (S78_13 n_ many) k = k (S78_14 n_ many) := Eq.trans (by kernel_rfl) (ref03_node_r15_n n_ (fun y1446 : Bool => k ⟨[(1, ri many), (2, rC tsNode n_), (5, ri (ref03_node_j2_p n_)), (6, rb (ref03_node_j5_p n_)), (7, rb (ref03_node_j10_p n_)), (8, rb (ref03_node_j13_p n_)), (9, rb y1446)], [], [], 119⟩))
def ref03_node_r16_q (K : Bool → β) : β := (bif (ref03_in n_.2.2.2.2.2.2.1 (1 : Int) (32767 : Int)) then (bif (ref03_in n_.2.2.2.2.2.2.2.1 (0 : Int) (31 : Int)) then (K (ref03_in n_.2.2.2.2.2.2.2.2.1 (-128 : Int) (127 : Int))) else (K false)) else (K false))
def ref03_node_r16_p : Bool := ref03_node_r16_q n_ (fun y => y)
theorem ref03_node_r16_n (K : Bool → β) : ref03_node_r16_q n_ K = K (ref03_node_r16_p n_) := (bif_k K (bif_k K rfl rfl) rfl)
abbrev S78_15 : St := ⟨[(1, ri many), (2, rC tsNode n_), (5, ri (ref03_node_j2_p n_)), (6, rb (ref03_node_j5_p n_)), (7, rb (ref03_node_j10_p n_)), (8, rb (ref03_node_j13_p n_)), (9, rb (ref03_node_r15_p n_)), (10, rb (ref03_node_r16_p n_))], [], [], 119⟩
theorem ref03_node_r16 : P78 1 C78.r.r.r.r.r.r.r.r.r.r.r (S78_14 n_ many) k = k (S78_15 n_ many) := Eq.trans (by kernel_rfl) (ref03_node_r16_n n_ (fun y1447 : Bool => k ⟨[(1, ri many), (2, rC tsNode n_), (5, ri (ref03_node_j2_p n_)), (6, rb (ref03_node_j5_p n_)), (7, rb (ref03_node_j10_p n_)), (8, rb (ref03_node_j13_p n_)), (9, rb (ref03_node_r15_p n_)), (10, rb y1447)], [], [], 119⟩))
def ref03_node_r17_q (K : Bool → β) : β := (bif (ref03_in n_.1 (1 : Int) (12 : Int)) then (bif (many == (ref03_node_j2_p n_)) then (bif (ref03_node_j5_p n_) then (bif (ref03_node_j10_p n_) then (bif (ref03_node_j13_p n_) then (bif (ref03_node_r15_p n_) then (K (ref03_node_r16_p n_)) else (K false)) else (K false)) else (K false)) else (K false)) else (K false)) else (K false))
def ref03_node_r17_p : Bool := ref03_node_r17_q n_ many (fun y => y)
theorem ref03_node_r17_n (K : Bool → β) : ref03_node_r17_q n_ many K = K (ref03_node_r17_p n_ many) := (bif_k K (bif_k K (bif_k K (bif_k K (bif_k K (bif_k K rfl rfl) rfl) rfl) rfl) rfl) rfl)
theorem ref03_node_r17 : P78 1 C78.r.r.r.r.r.r.r.r.r.r.r.r (S78_15 n_ many) k = k ⟨[(4, rb (ref03_node_r17_p n_ many))], [], [], 119⟩ := Eq.trans (by kernel_rfl) (ref03_node_r17_n n_ many (fun y1448 : Bool => k ⟨[(4, rb y1448)], [], [], 119⟩))
/-- quilt/quiltref03.node -/
def ref03_node_q (K : Bool → β) : β := (K (ref03_node_r17_p n_ many))
def ref03_node : Bool := ref03_node_q n_ many (fun y => y)
theorem ref03_node_n (K : Bool → β) : ref03_node_q n_ many K = K (ref03_node n_ many) := rfl
theorem ref03_node_is : stepS E cp74 ce4 25 [rA tsNode n_, ri many] = (fun y : Bool => some (rb y : R)) (ref03_node n_ many) := by
  refine Eq.trans ?_ (ref03_node_n n_ many (fun y : Bool => some (rb y : R)))
  refine (stepG_is (nt := 119) (regs := [(0, rA tsNode n_), (1, ri many)])).trans ?_
  unfold ref03_node_q
  refine (pre2 (ref03_node_f2 n_ many _)).trans ?_
  refine .trans seq_push ?_
  refine (ref03_node_j2 n_ many _).trans ?_
  refine (pre1 (ref03_node_r4 n_ many _)).trans ?_
  refine .trans seq_push ?_
  refine (ref03_node_j5 n_ many _).trans ?_
  refine (pre1 (ref03_node_f8 n_ many _)).trans ?_
  refine .trans seq_push ?_
  refine (ref03_node_j8 n_ many _).trans ?_
  refine .trans seq_push ?_
  refine (ref03_node_j10 n_ many _).trans ?_
  refine (pre1 (ref03_node_f13 n_ many _)).trans ?_
  refine .trans seq_push ?_
  refine (ref03_node_j13 n_ many _).trans ?_
  refine (pre1 (ref03_node_r15 n_ many _)).trans ?_
  refine (pre1 (ref03_node_r16 n_ many _)).trans ?_
  refine (pre1 (ref03_node_r17 n_ many _)).trans ?_
  refine (ret_eq).trans ?_
  kernel_rfl
noncomputable def cp75 : CallP := withC cp74 25 [(.agg tsNode), pI] (.one pB) (fun y : Bool => y) (fun x => some (ref03_node x.1 x.2.1))
theorem cp75_ok : PureOK E cp75 := conS eok cp74_ok ce4_ok fun x => Eq.mp (by kernel_rfl) (ref03_node_is x.1 x.2.1)
end
noncomputable abbrev C79 := codeOf E.P 26
noncomputable abbrev P79 {α : Type} := @preK α E 26 cp75 ce4
def ref03_keeps_r1_q {β : Type} (op : Int) (K : Bool → β) : β := (bif (op == 4) then (K true) else (bif (op == 5) then (K true) else (bif (op == 8) then (K true) else (bif (op == 9) then (K true) else (bif (op == 10) then (K true) else (K (op == 11)))))))
def ref03_keeps_r1_p (op : Int) : Bool := ref03_keeps_r1_q op (fun y => y)
theorem ref03_keeps_r1_n {β : Type} (op : Int) (K : Bool → β) : ref03_keeps_r1_q op K = K (ref03_keeps_r1_p op) := (bif_k K rfl (bif_k K rfl (bif_k K rfl (bif_k K rfl (bif_k K rfl rfl)))))
theorem ref03_keeps_r1 {α : Type} (op : Int) (k : St → Option α) : P79 2 C79 ⟨[(0, ri op)], [], [], 25⟩ k = k ⟨[(2, rb (ref03_keeps_r1_p op))], [], [], 25⟩ := Eq.trans (by kernel_rfl) (ref03_keeps_r1_n op (fun y1450 : Bool => k ⟨[(2, rb y1450)], [], [], 25⟩))
/-- quilt/quiltref03.keeps -/
def ref03_keeps_q {β : Type} (op : Int) (K : Bool → β) : β := (K (ref03_keeps_r1_p op))
def ref03_keeps (op : Int) : Bool := ref03_keeps_q op (fun y => y)
theorem ref03_keeps_n {β : Type} (op : Int) (K : Bool → β) : ref03_keeps_q op K = K (ref03_keeps op) := rfl
theorem ref03_keeps_is (op : Int) : stepS E cp75 ce4 26 [ri op] = (fun y : Bool => some (rb y : R)) (ref03_keeps op) := by
  refine Eq.trans ?_ (ref03_keeps_n op (fun y : Bool => some (rb y : R)))
  refine (stepG_is (nt := 25) (regs := [(0, ri op)])).trans ?_
  unfold ref03_keeps_q
  refine (pre2 (ref03_keeps_r1 op _)).trans ?_
  refine (ret_eq).trans ?_
  kernel_rfl
noncomputable def cp76 : CallP := withC cp75 26 [pI] (.one pB) (fun y : Bool => y) (fun x => some (ref03_keeps x.1))
theorem cp76_ok : PureOK E cp76 := conS eok cp75_ok ce4_ok fun x => Eq.mp (by kernel_rfl) (ref03_keeps_is x.1)
section
variable {α β : Type} (size : Int) (k_ : Int) (stride : Int) (pad : Int) (s1495 : (Int × Int)) (y1496 : (Int × Int)) (k : St → Option α) (q : Kont α)
noncomputable abbrev C80 := codeOf E.P 43
noncomputable abbrev P80 := @preK α E 43 cp76 ce4
noncomputable abbrev R80 := @runCode α E 43 cp76 ce4
abbrev S80_0 : St := ⟨[(0, ri size), (1, ri k_), (2, ri stride), (3, ri pad)], [], [], 56⟩
theorem ref02_Out_f1 : P80 1 C80 (S80_0 size k_ stride pad) k = k (S80_0 size k_ stride pad) := by kernel_rfl
def ref02_Out_r1_q (K : Bool → β) : β := (bif (decide (size < 1)) then (K true) else (bif (decide (size > 64)) then (K true) else (bif (decide (k_ < 1)) then (K true) else (bif (decide (k_ > 16)) then (K true) else (bif (decide (stride < 1)) then (K true) else (bif (decide (stride > 16)) then (K true) else (bif (decide (pad < 0)) then (K true) else (K (decide (pad > 16))))))))))
def ref02_Out_r1_p : Bool := ref02_Out_r1_q size k_ stride pad (fun y => y)
theorem ref02_Out_r1_n (K : Bool → β) : ref02_Out_r1_q size k_ stride pad K = K (ref02_Out_r1_p size k_ stride pad) := (bif_k K rfl (bif_k K rfl (bif_k K rfl (bif_k K rfl (bif_k K rfl (bif_k K rfl (bif_k K rfl rfl)))))))
theorem ref02_Out_r1 : P80 1 C80.r.l (S80_0 size k_ stride pad) k = k ⟨[(0, ri size), (1, ri k_), (2, ri stride), (3, ri pad), (40, rb (ref02_Out_r1_p size k_ stride pad))], [], [], 56⟩ := Eq.trans (by kernel_rfl) (ref02_Out_r1_n size k_ stride pad (fun y1486 : Bool => k ⟨[(0, ri size), (1, ri k_), (2, ri stride), (3, ri pad), (40, rb y1486)], [], [], 56⟩))
theorem ref02_Out_fz : P80 1 C80.r.l.r.t (S80_0 size k_ stride pad) k = k ⟨[(8, ri 0)], [], [], 56⟩ := by kernel_rfl
theorem ref02_Out_f4 : P80 1 C80.r.r (S80_0 size k_ stride pad) k = k ⟨[(0, ri size), (1, ri k_), (2, ri stride), (3, ri pad), (9, ri 0)], [], [], 56⟩ := by kernel_rfl
abbrev S80_1 : St := ⟨[(0, ri size), (1, ri k_), (2, ri stride), (3, ri pad), (9, ri 0), (10, ri (IntKind.wrap .i64 (0 - pad)))], [], [], 56⟩
theorem ref02_Out_f5 : P80 1 C80.r.r.r.l ⟨[(0, ri size), (1, ri k_), (2, ri stride), (3, ri pad), (9, ri 0)], [], [], 56⟩ k = k (S80_1 size k_ stride pad) := by kernel_rfl
abbrev S80_2 : St := ⟨[(0, ri size), (1, ri k_), (2, ri stride), (3, ri pad), (9, ri s1495.1), (10, ri s1495.2)], [], [], 56⟩
theorem ref02_Out_fzx1 : P80 1 C80.r.r.r.l.r.b.b.l (S80_2 size k_ stride pad s1495) k = k ⟨[(0, ri size), (1, ri k_), (2, ri stride), (3, ri pad), (9, ri s1495.1), (10, ri s1495.2), (49, rb (decide ((IntKind.wrap .i64 (s1495.2 + k_)) ≤ (IntKind.wrap .i64 (size + pad)))))], [], [], 56⟩ := by kernel_rfl
abbrev S80_3 : St := ⟨[(0, ri size), (1, ri k_), (2, ri stride), (3, ri pad), (9, ri (IntKind.wrap .i64 (s1495.1 + 1))), (10, ri s1495.2)], [], [], 56⟩
theorem ref02_Out_r7 : R80 C80.r.r.r.l.r.b.b.r.l.b (S80_2 size k_ stride pad s1495) q = q .normal (S80_3 size k_ stride pad s1495) := by kernel_rfl
theorem ref02_Out_r6 : R80 C80.r.r.r.l.r.b.b.r.r (S80_3 size k_ stride pad s1495) q = q .normal ⟨[(0, ri size), (1, ri k_), (2, ri stride), (3, ri pad), (9, ri (IntKind.wrap .i64 (s1495.1 + 1))), (10, ri (IntKind.wrap .i64 (s1495.2 + stride)))], [], [], 56⟩ := by kernel_rfl
def ref02_Out_l5_p : Option ((Int × Int) ⊕ (Int × Int)) := (bif (decide ((IntKind.wrap .i64 (s1495.2 + k_)) ≤ (IntKind.wrap .i64 (size + pad)))) then (some (Sum.inl ((IntKind.wrap .i64 (s1495.1 + 1)), (IntKind.wrap .i64 (s1495.2 + stride))))) else (some (Sum.inr s1495)))
abbrev S80_4 : St := ⟨[(0, ri size), (1, ri k_), (2, ri stride), (3, ri pad), (9, ri y1496.1), (10, ri y1496.2)], [], [], 56⟩
theorem ref02_Out_l5_b : R80 C80.r.r.r.l.r.b.b (S80_2 size k_ stride pad s1495) (loopKont 0 q) = Option.bind (ref02_Out_l5_p size k_ stride pad s1495) (either (fun y : (Int × Int) => q .normal ⟨[(0, ri size), (1, ri k_), (2, ri stride), (3, ri pad), (9, ri y.1), (10, ri y.2)], [], [], 56⟩) (fun y1496 : (Int × Int) => q (.exit 0) (S80_4 size k_ stride pad y1496))) := by
  refine .trans ?_ (bif_b e2_0 e2_1)
  refine .trans seq_push ?_
  refine (pre1 (ref02_Out_fzx1 size k_ stride pad s1495 _)).trans ?_
  refine (cond_e (b := (decide ((IntKind.wrap .i64 (s1495.2 + k_)) ≤ (IntKind.wrap .i64 (size + pad))))) (st' := (S80_2 size k_ stride pad s1495)) ).trans (bif_g ?_ ?_)
  · refine (skip_eq).trans ?_
    refine (seqC_normal (st' := (S80_2 size k_ stride pad s1495))).trans ?_
    refine .trans seq_push ?_
    refine (block_push (id := 1)).trans ?_
    refine (ref02_Out_r7 size k_ stride pad s1495 _).trans ?_
    refine block_normal.trans ?_
    refine (seqC_normal (st' := (S80_3 size k_ stride pad s1495))).trans ?_
    refine (ref02_Out_r6 size k_ stride pad s1495 _).trans ?_
    kernel_rfl
  · refine ((exit_eq (j := 0))).trans ?_
    refine seqC_exit.trans ?_
    kernel_rfl
theorem ref02_Out_l5 : R80 C80.r.r.r.l.r.b (S80_1 size k_ stride pad) q = Option.bind (iterN (ref02_Out_l5_p size k_ stride pad) LL ((0 : Int), (IntKind.wrap .i64 (0 - pad)))) (fun y1496 : (Int × Int) => q (.exit 0) (S80_4 size k_ stride pad y1496)) :=
  Eq.trans (by kernel_rfl) (loop_iter1 (S := fun s1495 : (Int × Int) => (S80_2 size k_ stride pad s1495)) (Y1 := fun y1496 : (Int × Int) => ((.exit 0), (S80_4 size k_ stride pad y1496))) (fun s q => ref02_Out_l5_b size k_ stride pad s q) (fun z => rfl) LL ((0 : Int), (IntKind.wrap .i64 (0 - pad))))
theorem ref02_Out_fzx2 : P80 1 C80.r.r.r.r ⟨[(9, ri y1496.1)], [], [], 56⟩ k = k ⟨[(8, ri y1496.1)], [], [], 56⟩ := by kernel_rfl
/-- quilt/quiltref02.Out -/
def ref02_Out : Option Int := (bif (ref02_Out_r1_p size k_ stride pad) then (some (0 : Int)) else (Option.bind (iterN (ref02_Out_l5_p size k_ stride pad) LL ((0 : Int), (IntKind.wrap .i64 (0 - pad)))) (fun y1496 : (Int × Int) => (some y1496.1))))
theorem ref02_Out_is : stepS E cp76 ce4 43 [ri size, ri k_, ri stride, ri pad] = Option.bind (ref02_Out size k_ stride pad) (fun y : Int => some (ri y : R)) := by
  refine .trans ?_ (bif_b some_b (bind_b fun y1496 => some_b))
  refine (stepG_is (nt := 56) (regs := [(0, ri size), (1, ri k_), (2, ri stride), (3, ri pad)])).trans ?_
  refine (pre1 (ref02_Out_f1 size k_ stride pad _)).trans ?_
  refine .trans seq_push ?_
  refine (pre1 (ref02_Out_r1 size k_ stride pad _)).trans ?_
  refine (cond_e (b := (ref02_Out_r1_p size k_ stride pad)) (st' := (S80_0 size k_ stride pad)) ).trans (bif_g ?_ ?_)
  · refine (pre1 (ref02_Out_fz size k_ stride pad _)).trans ?_
    refine (ret_eq).trans ?_
    refine seqC_ret.trans ?_
    kernel_rfl
  · refine (skip_eq).trans ?_
    refine (seqC_normal (st' := (S80_0 size k_ stride pad))).trans ?_
    refine (pre1 (ref02_Out_f4 size k_ stride pad _)).trans ?_
    refine .trans seq_push ?_
    refine (pre1 (ref02_Out_f5 size k_ stride pad _)).trans ?_
    refine (block_push (id := 0)).trans ?_
    refine (ref02_Out_l5 size k_ stride pad _).trans (bind_g fun y1496 => ?_)
    refine block_same.trans ?_
    refine (seqC_normal (st' := ⟨[(9, ri y1496.1)], [], [], 56⟩)).trans ?_
    refine (pre1 (ref02_Out_fzx2 y1496 _)).trans ?_
    refine (ret_eq).trans ?_
    kernel_rfl
noncomputable def cp77 : CallP := withC cp76 43 [pI, pI, pI, pI] (.one pI) (fun y : Int => y) (fun x => ref02_Out x.1 x.2.1 x.2.2.1 x.2.2.2.1)
theorem cp77_ok : PureOK E cp77 := conS eok cp76_ok ce4_ok fun x => Eq.mp (by kernel_rfl) (ref02_Out_is x.1 x.2.1 x.2.2.1 x.2.2.2.1)
end
section
variable {α β : Type} (n_ : Node) (l_ : (List I4)) (k : St → Option α) (q : Kont α)
noncomputable abbrev C81 := codeOf E.P 28
noncomputable abbrev P81 := @preK α E 28 cp77 ce4
noncomputable abbrev R81 := @runCode α E 28 cp77 ce4
noncomputable abbrev Q81 := @seqC α E 28 cp77 ce4
def ref03_made_r1_p : Option Unit := (bif (decide ((0 : Int) < (l_.length : Int))) then (some ()) else none)
abbrev S81_0 : St := ⟨[(1, rl tsI4 l_), (2, rC tsNode n_), (4, rF 0), (5, rF 1)], [[di 0, di 0, di 0], [di ((gt l_ (0 : Int) dI4).1), di ((gt l_ (0 : Int) dI4).2.1), di ((gt l_ (0 : Int) dI4).2.2.1)]], [], 117⟩
theorem ref03_made_r1 : P81 2 C81 ⟨[(0, rA tsNode n_), (1, rl tsI4 l_)], [], [], 117⟩ k = Option.bind (ref03_made_r1_p l_) (fun y1482 : Unit => k (S81_0 n_ l_)) := .trans (by kernel_rfl) (bif_b some_b none_b)
abbrev S81_1 : St := ⟨[(1, rl tsI4 l_), (2, rC tsNode n_), (4, rF 0), (5, rF 1), (12, ri n_.1)], [[di 0, di 0, di 0], [di ((gt l_ (0 : Int) dI4).1), di ((gt l_ (0 : Int) dI4).2.1), di ((gt l_ (0 : Int) dI4).2.2.1)]], [], 117⟩
theorem ref03_made_f3 : P81 1 C81.r.r.l (S81_0 n_ l_) k = k (S81_1 n_ l_) := by kernel_rfl
abbrev S81_2 : St := ⟨[(1, rl tsI4 l_), (2, rC tsNode n_), (4, rF 0), (5, rF 1), (12, ri n_.1), (13, rb (n_.1 == 1))], [[di 0, di 0, di 0], [di ((gt l_ (0 : Int) dI4).1), di ((gt l_ (0 : Int) dI4).2.1), di ((gt l_ (0 : Int) dI4).2.2.1)]], [], 117⟩
theorem ref03_made_f2000004 : P81 1 C81.r.r.l.r.b.l (S81_1 n_ l_) k = k (S81_2 n_ l_) := by kernel_rfl
abbrev S81_3 : St := ⟨[(1, rl tsI4 l_), (2, rC tsNode n_), (4, rF 0), (5, rF 1), (12, ri n_.1), (13, rb (n_.1 == 2))], [[di 0, di 0, di 0], [di ((gt l_ (0 : Int) dI4).1), di ((gt l_ (0 : Int) dI4).2.1), di ((gt l_ (0 : Int) dI4).2.2.1)]], [], 117⟩
theorem ref03_made_f2000005 : P81 1 C81.r.r.l.r.b.l.r.e (S81_2 n_ l_) k = k (S81_3 n_ l_) := by kernel_rfl
abbrev S81_4 : St := ⟨[(1, rl tsI4 l_), (2, rC tsNode n_), (4, rF 0), (5, rF 1), (12, ri n_.1), (13, rb (n_.1 == 4))], [[di 0, di 0, di 0], [di ((gt l_ (0 : Int) dI4).1), di ((gt l_ (0 : Int) dI4).2.1), di ((gt l_ (0 : Int) dI4).2.2.1)]], [], 117⟩
theorem ref03_made_f2000006 : P81 1 C81.r.r.l.r.b.l.r.e.r.e (S81_3 n_ l_) k = k (S81_4 n_ l_) := by kernel_rfl
abbrev S81_5 : St := ⟨[(1, rl tsI4 l_), (2, rC tsNode n_), (4, rF 0), (5, rF 1), (12, ri n_.1), (13, rb (n_.1 == 5))], [[di 0, di 0, di 0], [di ((gt l_ (0 : Int) dI4).1), di ((gt l_ (0 : Int) dI4).2.1), di ((gt l_ (0 : Int) dI4).2.2.1)]], [], 117⟩
theorem ref03_made_r6 : R81 C81.r.r.l.r.b.l.r.e.r.e.r.e (S81_4 n_ l_) q = q .normal (S81_5 n_ l_) := by kernel_rfl
def ref03_made_j3_q (K : Bool → β) : β := (bif (n_.1 == 1) then (K (n_.1 == 1)) else (bif (n_.1 == 2) then (K (n_.1 == 2)) else (bif (n_.1 == 4) then (K (n_.1 == 4)) else (K (n_.1 == 5)))))
def ref03_made_j3_p : Bool := ref03_made_j3_q n_ (fun y => y)
theorem ref03_made_j3_n (K : Bool → β) : ref03_made_j3_q n_ K = K (ref03_made_j3_p n_) := (bif_k K rfl (bif_k K rfl (bif_k K rfl rfl)))
abbrev S81_6 : St := ⟨[(1, rl tsI4 l_), (2, rC tsNode n_), (4, rF 0), (5, rF 1), (12, ri n_.1), (13, rb (ref03_made_j3_p n_))], [[di 0, di 0, di 0], [di ((gt l_ (0 : Int) dI4).1), di ((gt l_ (0 : Int) dI4).2.1), di ((gt l_ (0 : Int) dI4).2.2.1)]], [], 117⟩
theorem ref03_made_j3 : R81 C81.r.r.l.r.b.l (S81_1 n_ l_) (Q81 C81.r.r.l.r.b.r q) = R81 C81.r.r.l.r.b.r (S81_6 n_ l_) q := by
  refine Eq.trans ?_ (ref03_made_j3_n n_ (fun y1483 : Bool => R81 C81.r.r.l.r.b.r ⟨[(1, rl tsI4 l_), (2, rC tsNode n_), (4, rF 0), (5, rF 1), (12, ri n_.1), (13, rb y1483)], [[di 0, di 0, di 0], [di ((gt l_ (0 : Int) dI4).1), di ((gt l_ (0 : Int) dI4).2.1), di ((gt l_ (0 : Int) dI4).2.2.1)]], [], 117⟩ q))
  unfold ref03_made_j3_q
  refine (pre1 (ref03_made_f2000004 n_ l_ _)).trans ?_
  refine (cond_s (b := (n_.1 == 1)) ).trans (bif_g ?_ ?_)
  · refine (skip_eq).trans ?_
    refine (seqC_normal (st' := (S81_2 n_ l_))).trans ?_
    kernel_rfl
  · refine (pre1 (ref03_made_f2000005 n_ l_ _)).trans ?_
    refine (cond_s (b := (n_.1 == 2)) ).trans (bif_g ?_ ?_)
    · refine (skip_eq).trans ?_
      refine (seqC_normal (st' := (S81_3 n_ l_))).trans ?_
      kernel_rfl
    · refine (pre1 (ref03_made_f2000006 n_ l_ _)).trans ?_
      refine (cond_s (b := (n_.1 == 4)) ).trans (bif_g ?_ ?_)
      · refine (skip_eq).trans ?_
        refine (seqC_normal (st' := (S81_4 n_ l_))).trans ?_
        kernel_rfl
      · refine (ref03_made_r6 n_ l_ _).trans ?_
        refine (seqC_normal (st' := (S81_5 n_ l_))).trans ?_
        kernel_rfl
abbrev S81_7 : St := ⟨[(2, rC tsNode n_), (4, rF 0), (5, rF 1), (6, ri ((gt l_ (0 : Int) dI4).2.2.1))], [[di 0, di 0, di 0], [di ((gt l_ (0 : Int) dI4).1), di ((gt l_ (0 : Int) dI4).2.1), di ((gt l_ (0 : Int) dI4).2.2.1)]], [], 117⟩
theorem ref03_made_f8 : P81 1 C81.r.r.l.r.b.r.t (S81_6 n_ l_) k = k (S81_7 n_ l_) := by kernel_rfl
theorem ref03_made_f1000009 : P81 1 C81.r.r.l.r.b.r.t.r.l (S81_7 n_ l_) k = k ⟨[(2, rC tsNode n_), (4, rF 0), (5, rF 1), (6, ri ((gt l_ (0 : Int) dI4).2.2.1)), (22, rb (n_.1 == 1))], [[di 0, di 0, di 0], [di ((gt l_ (0 : Int) dI4).1), di ((gt l_ (0 : Int) dI4).2.1), di ((gt l_ (0 : Int) dI4).2.2.1)]], [], 117⟩ := by kernel_rfl
abbrev S81_8 : St := ⟨[(2, rC tsNode n_), (4, rF 0), (5, rF 1), (6, ri n_.2.2.2.2.2.1)], [[di 0, di 0, di 0], [di ((gt l_ (0 : Int) dI4).1), di ((gt l_ (0 : Int) dI4).2.1), di ((gt l_ (0 : Int) dI4).2.2.1)]], [], 117⟩
theorem ref03_made_r9 : R81 C81.r.r.l.r.b.r.t.r.l.r.t (S81_7 n_ l_) q = q .normal (S81_8 n_ l_) := by kernel_rfl
def ref03_made_j8_q (K : Int → β) : β := (bif (n_.1 == 1) then (K n_.2.2.2.2.2.1) else (K ((gt l_ (0 : Int) dI4).2.2.1)))
def ref03_made_j8_p : Int := ref03_made_j8_q n_ l_ (fun y => y)
theorem ref03_made_j8_n (K : Int → β) : ref03_made_j8_q n_ l_ K = K (ref03_made_j8_p n_ l_) := (bif_k K rfl rfl)
abbrev S81_9 : St := ⟨[(2, rC tsNode n_), (4, rF 0), (5, rF 1), (6, ri (ref03_made_j8_p n_ l_))], [[di 0, di 0, di 0], [di ((gt l_ (0 : Int) dI4).1), di ((gt l_ (0 : Int) dI4).2.1), di ((gt l_ (0 : Int) dI4).2.2.1)]], [], 117⟩
theorem ref03_made_j8 : R81 C81.r.r.l.r.b.r.t.r.l (S81_7 n_ l_) (Q81 C81.r.r.l.r.b.r.t.r.r q) = R81 C81.r.r.l.r.b.r.t.r.r (S81_9 n_ l_) q := by
  refine Eq.trans ?_ (ref03_made_j8_n n_ l_ (fun y1484 : Int => R81 C81.r.r.l.r.b.r.t.r.r ⟨[(2, rC tsNode n_), (4, rF 0), (5, rF 1), (6, ri y1484)], [[di 0, di 0, di 0], [di ((gt l_ (0 : Int) dI4).1), di ((gt l_ (0 : Int) dI4).2.1), di ((gt l_ (0 : Int) dI4).2.2.1)]], [], 117⟩ q))
  unfold ref03_made_j8_q
  refine (pre1 (ref03_made_f1000009 n_ l_ _)).trans ?_
  refine (cond_e (b := (n_.1 == 1)) (st' := (S81_7 n_ l_)) ).trans (bif_g ?_ ?_)
  · refine (ref03_made_r9 n_ l_ _).trans ?_
    refine (seqC_normal (st' := (S81_8 n_ l_))).trans ?_
    kernel_rfl
  · refine (skip_eq).trans ?_
    refine (seqC_normal (st' := (S81_7 n_ l_))).trans ?_
    kernel_rfl
def ref03_made_r10_p : Option (Int × Int) := (Option.bind (ref02_Out ((gt l_ (0 : Int) dI4).1) n_.2.2.1 n_.2.2.2.1 n_.2.2.2.2.1) (fun y1497 : Int => (Option.bind (ref02_Out ((gt l_ (0 : Int) dI4).2.1) n_.2.2.1 n_.2.2.2.1 n_.2.2.2.2.1) (fun y1498 : Int => (some (y1497, y1498))))))
theorem ref03_made_r10 : P81 1 C81.r.r.l.r.b.r.t.r.r (S81_9 n_ l_) k = Option.bind (ref03_made_r10_p n_ l_) (fun y1499 : (Int × Int) => k ⟨[(4, rF 0)], [[di y1499.1, di y1499.2, di (ref03_made_j8_p n_ l_)], []], [], 117⟩) := .trans (by kernel_rfl) (bind_b fun y1497 => (bind_b fun y1498 => some_b))
theorem ref03_made_f1000012 : P81 1 C81.r.r.l.r.b.r.e (S81_6 n_ l_) k = k ⟨[(1, rl tsI4 l_), (2, rC tsNode n_), (4, rF 0), (5, rF 1), (12, ri n_.1), (45, rb (n_.1 == 3))], [[di 0, di 0, di 0], [di ((gt l_ (0 : Int) dI4).1), di ((gt l_ (0 : Int) dI4).2.1), di ((gt l_ (0 : Int) dI4).2.2.1)]], [], 117⟩ := by kernel_rfl
theorem ref03_made_fz : P81 1 C81.r.r.l.r.b.r.e.r.t (S81_1 n_ l_) k = k ⟨[(4, rF 0)], [[di 1, di 1, di n_.2.2.2.2.2.1], []], [], 117⟩ := by kernel_rfl
abbrev S81_10 : St := ⟨[(1, rl tsI4 l_), (2, rC tsNode n_), (4, rF 0), (5, rF 1), (12, ri n_.1), (50, rb (n_.1 == 6))], [[di 0, di 0, di 0], [di ((gt l_ (0 : Int) dI4).1), di ((gt l_ (0 : Int) dI4).2.1), di ((gt l_ (0 : Int) dI4).2.2.1)]], [], 117⟩
theorem ref03_made_f2000014 : P81 1 C81.r.r.l.r.b.r.e.r.e.l (S81_1 n_ l_) k = k (S81_10 n_ l_) := by kernel_rfl
abbrev S81_11 : St := ⟨[(1, rl tsI4 l_), (2, rC tsNode n_), (4, rF 0), (5, rF 1), (12, ri n_.1), (50, rb (n_.1 == 7))], [[di 0, di 0, di 0], [di ((gt l_ (0 : Int) dI4).1), di ((gt l_ (0 : Int) dI4).2.1), di ((gt l_ (0 : Int) dI4).2.2.1)]], [], 117⟩
theorem ref03_made_r14 : R81 C81.r.r.l.r.b.r.e.r.e.l.r.e (S81_10 n_ l_) q = q .normal (S81_11 n_ l_) := by kernel_rfl
def ref03_made_j13_q (K : Bool → β) : β := (bif (n_.1 == 6) then (K (n_.1 == 6)) else (K (n_.1 == 7)))
def ref03_made_j13_p : Bool := ref03_made_j13_q n_ (fun y => y)
theorem ref03_made_j13_n (K : Bool → β) : ref03_made_j13_q n_ K = K (ref03_made_j13_p n_) := (bif_k K rfl rfl)
abbrev S81_12 : St := ⟨[(1, rl tsI4 l_), (2, rC tsNode n_), (4, rF 0), (5, rF 1), (12, ri n_.1), (50, rb (ref03_made_j13_p n_))], [[di 0, di 0, di 0], [di ((gt l_ (0 : Int) dI4).1), di ((gt l_ (0 : Int) dI4).2.1), di ((gt l_ (0 : Int) dI4).2.2.1)]], [], 117⟩
theorem ref03_made_j13 : R81 C81.r.r.l.r.b.r.e.r.e.l (S81_1 n_ l_) (Q81 C81.r.r.l.r.b.r.e.r.e.r q) = R81 C81.r.r.l.r.b.r.e.r.e.r (S81_12 n_ l_) q := by
  refine Eq.trans ?_ (ref03_made_j13_n n_ (fun y1500 : Bool => R81 C81.r.r.l.r.b.r.e.r.e.r ⟨[(1, rl tsI4 l_), (2, rC tsNode n_), (4, rF 0), (5, rF 1), (12, ri n_.1), (50, rb y1500)], [[di 0, di 0, di 0], [di ((gt l_ (0 : Int) dI4).1), di ((gt l_ (0 : Int) dI4).2.1), di ((gt l_ (0 : Int) dI4).2.2.1)]], [], 117⟩ q))
  unfold ref03_made_j13_q
  refine (pre1 (ref03_made_f2000014 n_ l_ _)).trans ?_
  refine (cond_s (b := (n_.1 == 6)) ).trans (bif_g ?_ ?_)
  · refine (skip_eq).trans ?_
    refine (seqC_normal (st' := (S81_10 n_ l_))).trans ?_
    kernel_rfl
  · refine (ref03_made_r14 n_ l_ _).trans ?_
    refine (seqC_normal (st' := (S81_11 n_ l_))).trans ?_
    kernel_rfl
def ref03_made_r15_p : Option Bool := (bif (decide ((1 : Int) < (l_.length : Int))) then (some (!((((gt l_ (1 : Int) dI4).1) == ((gt l_ (0 : Int) dI4).1)) && ((((gt l_ (1 : Int) dI4).2.1) == ((gt l_ (0 : Int) dI4).2.1)) && ((((gt l_ (1 : Int) dI4).2.2.1) == ((gt l_ (0 : Int) dI4).2.2.1)) && true))))) else none)
theorem ref03_made_r15 : P81 1 C81.r.r.l.r.b.r.e.r.e.r.t (S81_12 n_ l_) k = Option.bind (ref03_made_r15_p l_) (fun y1501 : Bool => k ⟨[(4, rF 0), (5, rF 1), (58, rb y1501)], [[di 0, di 0, di 0], [di ((gt l_ (0 : Int) dI4).1), di ((gt l_ (0 : Int) dI4).2.1), di ((gt l_ (0 : Int) dI4).2.2.1)]], [], 117⟩) := .trans (by kernel_rfl) (bif_b some_b none_b)
abbrev S81_13 : St := ⟨[(4, rF 0), (5, rF 1)], [[di 0, di 0, di 0], [di ((gt l_ (0 : Int) dI4).1), di ((gt l_ (0 : Int) dI4).2.1), di ((gt l_ (0 : Int) dI4).2.2.1)]], [], 117⟩
abbrev S81_14 : St := ⟨[(4, rF 0)], [[di 0, di 0, di 0], []], [], 117⟩
theorem ref03_made_fzx1 : P81 1 C81.r.r.l.r.b.r.e.r.e.r.t.r.t (S81_13 l_) k = k S81_14 := by kernel_rfl
theorem ref03_made_f1000018 : P81 1 C81.r.r.l.r.b.r.e.r.e.r.e (S81_12 n_ l_) k = k ⟨[(1, rl tsI4 l_), (2, rC tsNode n_), (4, rF 0), (5, rF 1), (12, ri n_.1), (60, rb (n_.1 == 9))], [[di 0, di 0, di 0], [di ((gt l_ (0 : Int) dI4).1), di ((gt l_ (0 : Int) dI4).2.1), di ((gt l_ (0 : Int) dI4).2.2.1)]], [], 117⟩ := by kernel_rfl
theorem ref03_made_fzx2 : P81 1 C81.r.r.l.r.b.r.e.r.e.r.e.r.t (S81_1 n_ l_) k = k ⟨[(4, rF 0)], [[di (IntKind.wrap .i64 (((gt l_ (0 : Int) dI4).1) + 2)), di (IntKind.wrap .i64 (((gt l_ (0 : Int) dI4).2.1) + 2)), di ((gt l_ (0 : Int) dI4).2.2.1)], []], [], 117⟩ := by kernel_rfl
theorem ref03_made_f1000020 : P81 1 C81.r.r.l.r.b.r.e.r.e.r.e.r.e (S81_1 n_ l_) k = k ⟨[(1, rl tsI4 l_), (2, rC tsNode n_), (4, rF 0), (5, rF 1), (12, ri n_.1), (71, rb (n_.1 == 10))], [[di 0, di 0, di 0], [di ((gt l_ (0 : Int) dI4).1), di ((gt l_ (0 : Int) dI4).2.1), di ((gt l_ (0 : Int) dI4).2.2.1)]], [], 117⟩ := by kernel_rfl
def ref03_made_r20_p : Option Bool := (bif (decide ((1 : Int) < (l_.length : Int))) then (bif (((gt l_ (1 : Int) dI4).1) != ((gt l_ (0 : Int) dI4).1)) then (some true) else (bif (decide ((1 : Int) < (l_.length : Int))) then (some (((gt l_ (1 : Int) dI4).2.1) != ((gt l_ (0 : Int) dI4).2.1))) else none)) else none)
theorem ref03_made_r20 : P81 1 C81.r.r.l.r.b.r.e.r.e.r.e.r.e.r.t.l (S81_1 n_ l_) k = Option.bind (ref03_made_r20_p l_) (fun y1503 : Bool => k ⟨[(1, rl tsI4 l_), (4, rF 0), (5, rF 1), (90, rb y1503)], [[di 0, di 0, di 0], [di ((gt l_ (0 : Int) dI4).1), di ((gt l_ (0 : Int) dI4).2.1), di ((gt l_ (0 : Int) dI4).2.2.1)]], [], 117⟩) := .trans (by kernel_rfl) (bif_b (bif_b some_b (bif_b some_b none_b)) none_b)
abbrev S81_15 : St := ⟨[(1, rl tsI4 l_), (4, rF 0), (5, rF 1)], [[di 0, di 0, di 0], [di ((gt l_ (0 : Int) dI4).1), di ((gt l_ (0 : Int) dI4).2.1), di ((gt l_ (0 : Int) dI4).2.2.1)]], [], 117⟩
theorem ref03_made_fzx3 : P81 1 C81.r.r.l.r.b.r.e.r.e.r.e.r.e.r.t.l.r.t (S81_15 l_) k = k S81_14 := by kernel_rfl
def ref03_made_r22_p : Option Unit := (bif (decide ((1 : Int) < (l_.length : Int))) then (some ()) else none)
theorem ref03_made_r22 : P81 1 C81.r.r.l.r.b.r.e.r.e.r.e.r.e.r.t.r (S81_15 l_) k = Option.bind (ref03_made_r22_p l_) (fun y1504 : Unit => k ⟨[(4, rF 0)], [[di ((gt l_ (0 : Int) dI4).1), di ((gt l_ (0 : Int) dI4).2.1), di (IntKind.wrap .i64 (((gt l_ (0 : Int) dI4).2.2.1) + ((gt l_ (1 : Int) dI4).2.2.1)))], []], [], 117⟩) := .trans (by kernel_rfl) (bif_b some_b none_b)
theorem ref03_made_f1000024 : P81 1 C81.r.r.l.r.b.r.e.r.e.r.e.r.e.r.e (S81_1 n_ l_) k = k ⟨[(2, rC tsNode n_), (4, rF 0), (5, rF 1), (105, rb (n_.1 == 11))], [[di 0, di 0, di 0], [di ((gt l_ (0 : Int) dI4).1), di ((gt l_ (0 : Int) dI4).2.1), di ((gt l_ (0 : Int) dI4).2.2.1)]], [], 117⟩ := by kernel_rfl
def ref03_made_r24_q (K : Bool → β) : β := (K ((ref02_Size (n_.2.2.2.2.2.2.2.2.2.1, n_.2.2.2.2.2.2.2.2.2.2.1, n_.2.2.2.2.2.2.2.2.2.2.2.1)) != (ref02_Size ((gt l_ (0 : Int) dI4).1, (gt l_ (0 : Int) dI4).2.1, (gt l_ (0 : Int) dI4).2.2.1))))
def ref03_made_r24_p : Bool := ref03_made_r24_q n_ l_ (fun y => y)
theorem ref03_made_r24_n (K : Bool → β) : ref03_made_r24_q n_ l_ K = K (ref03_made_r24_p n_ l_) := rfl
abbrev S81_16 : St := ⟨[(2, rC tsNode n_), (4, rF 0), (5, rF 1)], [[di 0, di 0, di 0], [di ((gt l_ (0 : Int) dI4).1), di ((gt l_ (0 : Int) dI4).2.1), di ((gt l_ (0 : Int) dI4).2.2.1)]], [], 117⟩
theorem ref03_made_r24 : P81 1 C81.r.r.l.r.b.r.e.r.e.r.e.r.e.r.e.r.t.l (S81_16 n_ l_) k = k ⟨[(2, rC tsNode n_), (4, rF 0), (112, rb (ref03_made_r24_p n_ l_))], [[di 0, di 0, di 0], []], [], 117⟩ := Eq.trans (by kernel_rfl) (ref03_made_r24_n n_ l_ (fun y1506 : Bool => k ⟨[(2, rC tsNode n_), (4, rF 0), (112, rb y1506)], [[di 0, di 0, di 0], []], [], 117⟩))
abbrev S81_17 : St := ⟨[(2, rC tsNode n_), (4, rF 0)], [[di 0, di 0, di 0], []], [], 117⟩
theorem ref03_made_fzx4 : P81 1 C81.r.r.l.r.b.r.e.r.e.r.e.r.e.r.e.r.t.l.r.t (S81_17 n_) k = k S81_14 := by kernel_rfl
theorem ref03_made_fzx5 : P81 1 C81.r.r.l.r.b.r.e.r.e.r.e.r.e.r.e.r.t.r (S81_17 n_) k = k ⟨[(4, rF 0)], [[di n_.2.2.2.2.2.2.2.2.2.1, di n_.2.2.2.2.2.2.2.2.2.2.1, di n_.2.2.2.2.2.2.2.2.2.2.2.1], []], [], 117⟩ := by kernel_rfl
def ref03_made_j2_p : Option (Unit ⊕ (Int × Int × Int)) := (bif (ref03_made_j3_p n_) then (Option.bind (ref03_made_r10_p n_ l_) (fun y1499 : (Int × Int) => (some (Sum.inr (y1499.1, y1499.2, (ref03_made_j8_p n_ l_)))))) else (bif (n_.1 == 3) then (some (Sum.inr ((1 : Int), (1 : Int), n_.2.2.2.2.2.1))) else (bif (ref03_made_j13_p n_) then (Option.bind (ref03_made_r15_p l_) (fun y1501 : Bool => (bif y1501 then (some (Sum.inr ((0 : Int), (0 : Int), (0 : Int)))) else (some (Sum.inl ()))))) else (bif (n_.1 == 9) then (some (Sum.inr ((IntKind.wrap .i64 (((gt l_ (0 : Int) dI4).1) + 2)), (IntKind.wrap .i64 (((gt l_ (0 : Int) dI4).2.1) + 2)), (gt l_ (0 : Int) dI4).2.2.1))) else (bif (n_.1 == 10) then (Option.bind (ref03_made_r20_p l_) (fun y1503 : Bool => (bif y1503 then (some (Sum.inr ((0 : Int), (0 : Int), (0 : Int)))) else (Option.bind (ref03_made_r22_p l_) (fun y1504 : Unit => (some (Sum.inr ((gt l_ (0 : Int) dI4).1, (gt l_ (0 : Int) dI4).2.1, (IntKind.wrap .i64 (((gt l_ (0 : Int) dI4).2.2.1) + ((gt l_ (1 : Int) dI4).2.2.1))))))))))) else (bif (n_.1 == 11) then (bif (ref03_made_r24_p n_ l_) then (some (Sum.inr ((0 : Int), (0 : Int), (0 : Int)))) else (some (Sum.inr (n_.2.2.2.2.2.2.2.2.2.1, n_.2.2.2.2.2.2.2.2.2.2.1, n_.2.2.2.2.2.2.2.2.2.2.2.1)))) else (some (Sum.inl ()))))))))
theorem ref03_made_j2 : R81 C81.r.r.l (S81_0 n_ l_) (Q81 C81.r.r.r q) = Option.bind (ref03_made_j2_p n_ l_) (either (fun y1507 : Unit => R81 C81.r.r.r (S81_13 l_) q) (fun y1508 : (Int × Int × Int) => q .ret ⟨[(4, rF 0)], [(tsI3.leaves y1508), []], [], 117⟩)) := by
  refine .trans ?_ (bif_b (bind_b fun y1499 => e2_1) (bif_b e2_1 (bif_b (bind_b fun y1501 => (bif_b e2_1 e2_0)) (bif_b e2_1 (bif_b (bind_b fun y1503 => (bif_b e2_1 (bind_b fun y1504 => e2_1))) (bif_b (bif_b e2_1 e2_1) e2_0))))))
  refine (pre1 (ref03_made_f3 n_ l_ _)).trans ?_
  refine (block_push (id := 0)).trans ?_
  refine .trans seq_push ?_
  refine (ref03_made_j3 n_ l_ _).trans ?_
  refine (cond_s (b := (ref03_made_j3_p n_)) ).trans (bif_g ?_ ?_)
  · refine (pre1 (ref03_made_f8 n_ l_ _)).trans ?_
    refine .trans seq_push ?_
    refine (ref03_made_j8 n_ l_ _).trans ?_
    refine (pre1 (ref03_made_r10 n_ l_ _)).trans (bind_g fun y1499 => ?_)
    refine (ret_eq).trans ?_
    refine block_ret.trans ?_
    refine seqC_ret.trans ?_
    kernel_rfl
  · refine (pre1 (ref03_made_f1000012 n_ l_ _)).trans ?_
    refine (cond_e (b := (n_.1 == 3)) (st' := (S81_1 n_ l_)) ).trans (bif_g ?_ ?_)
    · refine (pre1 (ref03_made_fz n_ l_ _)).trans ?_
      refine (ret_eq).trans ?_
      refine block_ret.trans ?_
      refine seqC_ret.trans ?_
      kernel_rfl
    · refine .trans seq_push ?_
      refine (ref03_made_j13 n_ l_ _).trans ?_
      refine (cond_s (b := (ref03_made_j13_p n_)) ).trans (bif_g ?_ ?_)
      · refine (pre1 (ref03_made_r15 n_ l_ _)).trans (bind_g fun y1501 => ?_)
        refine (cond_e (b := y1501) (st' := (S81_13 l_)) ).trans (bif_g ?_ ?_)
        · refine (pre1 (ref03_made_fzx1 l_ _)).trans ?_
          refine (ret_eq).trans ?_
          refine block_ret.trans ?_
          refine seqC_ret.trans ?_
          kernel_rfl
        · refine (skip_eq).trans ?_
          refine block_normal.trans ?_
          refine (seqC_normal (st' := (S81_13 l_))).trans ?_
          kernel_rfl
      · refine (pre1 (ref03_made_f1000018 n_ l_ _)).trans ?_
        refine (cond_e (b := (n_.1 == 9)) (st' := (S81_1 n_ l_)) ).trans (bif_g ?_ ?_)
        · refine (pre1 (ref03_made_fzx2 n_ l_ _)).trans ?_
          refine (ret_eq).trans ?_
          refine block_ret.trans ?_
          refine seqC_ret.trans ?_
          kernel_rfl
        · refine (pre1 (ref03_made_f1000020 n_ l_ _)).trans ?_
          refine (cond_e (b := (n_.1 == 10)) (st' := (S81_1 n_ l_)) ).trans (bif_g ?_ ?_)
          · refine .trans seq_push ?_
            refine (pre1 (ref03_made_r20 n_ l_ _)).trans (bind_g fun y1503 => ?_)
            refine (cond_e (b := y1503) (st' := (S81_15 l_)) ).trans (bif_g ?_ ?_)
            · refine (pre1 (ref03_made_fzx3 l_ _)).trans ?_
              refine (ret_eq).trans ?_
              refine seqC_ret.trans ?_
              refine block_ret.trans ?_
              refine seqC_ret.trans ?_
              kernel_rfl
            · refine (skip_eq).trans ?_
              refine (seqC_normal (st' := (S81_15 l_))).trans ?_
              refine (pre1 (ref03_made_r22 l_ _)).trans (bind_g fun y1504 => ?_)
              refine (ret_eq).trans ?_
              refine block_ret.trans ?_
              refine seqC_ret.trans ?_
              kernel_rfl
          · refine (pre1 (ref03_made_f1000024 n_ l_ _)).trans ?_
            refine (cond_e (b := (n_.1 == 11)) (st' := (S81_16 n_ l_)) ).trans (bif_g ?_ ?_)
            · refine .trans seq_push ?_
              refine (pre1 (ref03_made_r24 n_ l_ _)).trans ?_
              refine (cond_e (b := (ref03_made_r24_p n_ l_)) (st' := (S81_17 n_)) ).trans (bif_g ?_ ?_)
              · refine (pre1 (ref03_made_fzx4 n_ _)).trans ?_
                refine (ret_eq).trans ?_
                refine seqC_ret.trans ?_
                refine block_ret.trans ?_
                refine seqC_ret.trans ?_
                kernel_rfl
              · refine (skip_eq).trans ?_
                refine (seqC_normal (st' := (S81_17 n_))).trans ?_
                refine (pre1 (ref03_made_fzx5 n_ _)).trans ?_
                refine (ret_eq).trans ?_
                refine block_ret.trans ?_
                refine seqC_ret.trans ?_
                kernel_rfl
            · refine (skip_eq).trans ?_
              refine block_normal.trans ?_
              refine (seqC_normal (st' := (S81_13 l_))).trans ?_
              kernel_rfl
theorem ref03_made_fzx6 : P81 1 C81.r.r.r (S81_13 l_) k = k ⟨[(4, rF 0)], [[di ((gt l_ (0 : Int) dI4).1), di ((gt l_ (0 : Int) dI4).2.1), di ((gt l_ (0 : Int) dI4).2.2.1)], []], [], 117⟩ := by kernel_rfl
/-- quilt/quiltref03.made -/
def ref03_made : Option I3 := (Option.bind (ref03_made_r1_p l_) (fun y1482 : Unit => (Option.bind (ref03_made_j2_p n_ l_) (either (fun y1507 : Unit => (some ((gt l_ (0 : Int) dI4).1, (gt l_ (0 : Int) dI4).2.1, (gt l_ (0 : Int) dI4).2.2.1))) (fun y1508 : (Int × Int × Int) => (some y1508))))))
theorem ref03_made_is : stepS E cp77 ce4 28 [rA tsNode n_, rl tsI4 l_] = Option.bind (ref03_made n_ l_) (fun y : I3 => some (rA tsI3 y : R)) := by
  refine .trans ?_ (bind_b fun y1482 => (bind_b (either_b (fun y1507 => some_b) (fun y1508 => some_b))))
  refine (stepG_is (nt := 117) (regs := [(0, rA tsNode n_), (1, rl tsI4 l_)])).trans ?_
  refine (pre2 (ref03_made_r1 n_ l_ _)).trans (bind_g fun y1482 => ?_)
  refine .trans seq_push ?_
  refine (ref03_made_j2 n_ l_ _).trans (bind_g (either_g (fun y1507 => ?_) (fun y1508 => ?_)))
  · refine (pre1 (ref03_made_fzx6 l_ _)).trans ?_
    refine (ret_eq).trans ?_
    kernel_rfl
  · kernel_rfl
noncomputable def cp78 : CallP := withC cp77 28 [(.agg tsNode), (pL tsI4)] (.one (.agg tsI3)) (fun y : I3 => y) (fun x => ref03_made x.1 x.2.1)
theorem cp78_ok : PureOK E cp78 := conS eok cp77_ok ce4_ok fun x => Eq.mp (by kernel_rfl) (ref03_made_is x.1 x.2.1)
end
section
variable {α β : Type} (n_ : Node) (s_ : I3) (k : St → Option α)
noncomputable abbrev C82 := codeOf E.P 29
noncomputable abbrev P82 := @preK α E 29 cp78 ce4
abbrev S82_0 : St := ⟨[(2, rC tsNode n_), (3, rC tsI3 s_)], [], [], 46⟩
theorem ref03_many_f1 : P82 1 C82 ⟨[(0, rA tsNode n_), (1, rA tsI3 s_)], [], [], 46⟩ k = k (S82_0 n_ s_) := by kernel_rfl
abbrev S82_1 : St := ⟨[(2, rC tsNode n_), (3, rC tsI3 s_), (7, ri n_.1)], [], [], 46⟩
theorem ref03_many_f2 : P82 1 C82.r.l (S82_0 n_ s_) k = k (S82_1 n_ s_) := by kernel_rfl
theorem ref03_many_f1000003 : P82 1 C82.r.l.r.b (S82_1 n_ s_) k = k ⟨[(2, rC tsNode n_), (3, rC tsI3 s_), (7, ri n_.1), (8, rb (n_.1 == 1))], [], [], 46⟩ := by kernel_rfl
def ref03_many_r3_q (K : Int → β) : β := (K (IntKind.wrap .i64 ((IntKind.wrap .i64 ((IntKind.wrap .i64 (n_.2.2.1 * n_.2.2.1)) * s_.2.2)) * n_.2.2.2.2.2.1)))
def ref03_many_r3_p : Int := ref03_many_r3_q n_ s_ (fun y => y)
theorem ref03_many_r3_n (K : Int → β) : ref03_many_r3_q n_ s_ K = K (ref03_many_r3_p n_ s_) := rfl
theorem ref03_many_r3 : P82 1 C82.r.l.r.b.r.t (S82_1 n_ s_) k = k ⟨[(4, ri (ref03_many_r3_p n_ s_)), (5, ri n_.2.2.2.2.2.1)], [], [], 46⟩ := Eq.trans (by kernel_rfl) (ref03_many_r3_n n_ s_ (fun y1511 : Int => k ⟨[(4, ri y1511), (5, ri n_.2.2.2.2.2.1)], [], [], 46⟩))
theorem ref03_many_f1000005 : P82 1 C82.r.l.r.b.r.e (S82_1 n_ s_) k = k ⟨[(2, rC tsNode n_), (3, rC tsI3 s_), (7, ri n_.1), (23, rb (n_.1 == 2))], [], [], 46⟩ := by kernel_rfl
theorem ref03_many_fz : P82 1 C82.r.l.r.b.r.e.r.t (S82_1 n_ s_) k = k ⟨[(4, ri (IntKind.wrap .i64 ((IntKind.wrap .i64 (n_.2.2.1 * n_.2.2.1)) * s_.2.2))), (5, ri s_.2.2)], [], [], 46⟩ := by kernel_rfl
theorem ref03_many_f1000007 : P82 1 C82.r.l.r.b.r.e.r.e (S82_1 n_ s_) k = k ⟨[(2, rC tsNode n_), (3, rC tsI3 s_), (7, ri n_.1), (35, rb (n_.1 == 3))], [], [], 46⟩ := by kernel_rfl
theorem ref03_many_fzx1 : P82 1 C82.r.l.r.b.r.e.r.e.r.t (S82_1 n_ s_) k = k ⟨[(4, ri (IntKind.wrap .i64 ((ref02_Size s_) * n_.2.2.2.2.2.1))), (5, ri n_.2.2.2.2.2.1)], [], [], 46⟩ := by kernel_rfl
theorem ref03_many_f1000009 : P82 1 C82.r.l.r.b.r.e.r.e.r.e (S82_1 n_ s_) k = k ⟨[(44, rb (n_.1 == 12))], [], [], 46⟩ := by kernel_rfl
theorem ref03_many_fzx2 : P82 1 C82.r.l.r.b.r.e.r.e.r.e.r.t ⟨[], [], [], 46⟩ k = k ⟨[(4, ri 256), (5, ri 0)], [], [], 46⟩ := by kernel_rfl
theorem ref03_many_fzx3 : P82 1 C82.r.r ⟨[], [], [], 46⟩ k = k ⟨[(4, ri 0), (5, ri 0)], [], [], 46⟩ := by kernel_rfl
/-- quilt/quiltref03.many -/
def ref03_many_q (K : (Int × Int) → β) : β := (bif (n_.1 == 1) then (K ((ref03_many_r3_p n_ s_), n_.2.2.2.2.2.1)) else (bif (n_.1 == 2) then (K ((IntKind.wrap .i64 ((IntKind.wrap .i64 (n_.2.2.1 * n_.2.2.1)) * s_.2.2)), s_.2.2)) else (bif (n_.1 == 3) then (K ((IntKind.wrap .i64 ((ref02_Size s_) * n_.2.2.2.2.2.1)), n_.2.2.2.2.2.1)) else (bif (n_.1 == 12) then (K ((256 : Int), (0 : Int))) else (K ((0 : Int), (0 : Int)))))))
def ref03_many : (Int × Int) := ref03_many_q n_ s_ (fun y => y)
theorem ref03_many_n (K : (Int × Int) → β) : ref03_many_q n_ s_ K = K (ref03_many n_ s_) := (bif_k K rfl (bif_k K rfl (bif_k K rfl (bif_k K rfl rfl))))
theorem ref03_many_is : stepS E cp78 ce4 29 [rA tsNode n_, rA tsI3 s_] = (fun y : (Int × Int) => some (.tup [ri y.1, ri y.2] : R)) (ref03_many n_ s_) := by
  refine Eq.trans ?_ (ref03_many_n n_ s_ (fun y : (Int × Int) => some (.tup [ri y.1, ri y.2] : R)))
  refine (stepG_is (nt := 46) (regs := [(0, rA tsNode n_), (1, rA tsI3 s_)])).trans ?_
  unfold ref03_many_q
  refine (pre1 (ref03_many_f1 n_ s_ _)).trans ?_
  refine .trans seq_push ?_
  refine (pre1 (ref03_many_f2 n_ s_ _)).trans ?_
  refine (block_push (id := 0)).trans ?_
  refine (pre1 (ref03_many_f1000003 n_ s_ _)).trans ?_
  refine (cond_e (b := (n_.1 == 1)) (st' := (S82_1 n_ s_)) ).trans (bif_g ?_ ?_)
  · refine (pre1 (ref03_many_r3 n_ s_ _)).trans ?_
    refine (ret_eq).trans ?_
    refine block_ret.trans ?_
    refine seqC_ret.trans ?_
    kernel_rfl
  · refine (pre1 (ref03_many_f1000005 n_ s_ _)).trans ?_
    refine (cond_e (b := (n_.1 == 2)) (st' := (S82_1 n_ s_)) ).trans (bif_g ?_ ?_)
    · refine (pre1 (ref03_many_fz n_ s_ _)).trans ?_
      refine (ret_eq).trans ?_
      refine block_ret.trans ?_
      refine seqC_ret.trans ?_
      kernel_rfl
    · refine (pre1 (ref03_many_f1000007 n_ s_ _)).trans ?_
      refine (cond_e (b := (n_.1 == 3)) (st' := (S82_1 n_ s_)) ).trans (bif_g ?_ ?_)
      · refine (pre1 (ref03_many_fzx1 n_ s_ _)).trans ?_
        refine (ret_eq).trans ?_
        refine block_ret.trans ?_
        refine seqC_ret.trans ?_
        kernel_rfl
      · refine (pre1 (ref03_many_f1000009 n_ s_ _)).trans ?_
        refine (cond_e (b := (n_.1 == 12)) (st' := ⟨[], [], [], 46⟩) ).trans (bif_g ?_ ?_)
        · refine (pre1 (ref03_many_fzx2 _)).trans ?_
          refine (ret_eq).trans ?_
          refine block_ret.trans ?_
          refine seqC_ret.trans ?_
          kernel_rfl
        · refine (skip_eq).trans ?_
          refine block_normal.trans ?_
          refine (seqC_normal (st' := ⟨[], [], [], 46⟩)).trans ?_
          refine (pre1 (ref03_many_fzx3 _)).trans ?_
          refine (ret_eq).trans ?_
          kernel_rfl
noncomputable def cp79 : CallP := withC cp78 29 [(.agg tsNode), (.agg tsI3)] (.tup [pI, pI]) (fun y : (Int × Int) => (y.1, y.2, ())) (fun x => some (ref03_many x.1 x.2.1))
theorem cp79_ok : PureOK E cp79 := conS eok cp78_ok ce4_ok fun x => Eq.mp (by kernel_rfl) (ref03_many_is x.1 x.2.1)
end
end Go.V.P
