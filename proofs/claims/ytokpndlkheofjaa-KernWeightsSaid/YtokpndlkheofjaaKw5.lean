/- What functions compute. -/
import Derived.Test.YtokpndlkheofjaaKw4
namespace Go.V.P
open Go.RowKit Go.V Go.Proofs
set_option linter.unusedVariables false
set_option maxRecDepth 100000
noncomputable abbrev C70 := codeOf E.P 27
noncomputable abbrev P70 {α : Type} := @preK α E 27 cp66 ce4
theorem ref02_May_f1 {α : Type} (s_ : I3) (k : St → Option α) : P70 1 C70 ⟨[(0, rA tsI3 s_)], [], [], 31⟩ k = k ⟨[(1, rC tsI3 s_)], [], [], 31⟩ := by kernel_rfl
def ref02_May_r1_q {β : Type} (s_ : I3) (K : Bool → β) : β := (bif (decide (s_.1 < 1)) then (K true) else (bif (decide (s_.1 > 16)) then (K true) else (bif (decide (s_.2.1 < 1)) then (K true) else (bif (decide (s_.2.1 > 16)) then (K true) else (bif (decide (s_.2.2 < 1)) then (K true) else (K (decide (s_.2.2 > 8))))))))
def ref02_May_r1_p (s_ : I3) : Bool := ref02_May_r1_q s_ (fun y => y)
theorem ref02_May_r1_n {β : Type} (s_ : I3) (K : Bool → β) : ref02_May_r1_q s_ K = K (ref02_May_r1_p s_) := (bif_k K rfl (bif_k K rfl (bif_k K rfl (bif_k K rfl (bif_k K rfl rfl)))))
theorem ref02_May_r1 {α : Type} (s_ : I3) (k : St → Option α) : P70 1 C70.r.l ⟨[(1, rC tsI3 s_)], [], [], 31⟩ k = k ⟨[(30, rb (ref02_May_r1_p s_))], [], [], 31⟩ := Eq.trans (by kernel_rfl) (ref02_May_r1_n s_ (fun y1325 : Bool => k ⟨[(30, rb y1325)], [], [], 31⟩))
theorem ref02_May_fz {α : Type} (k : St → Option α) : P70 1 C70.r.l.r.t ⟨[], [], [], 31⟩ k = k ⟨[(2, ri 10)], [], [], 31⟩ := by kernel_rfl
theorem ref02_May_fzx1 {α : Type} (k : St → Option α) : P70 1 C70.r.r ⟨[], [], [], 31⟩ k = k ⟨[(2, ri 0)], [], [], 31⟩ := by kernel_rfl
/-- quilt/quiltref02.May -/
def ref02_May_q {β : Type} (s_ : I3) (K : Int → β) : β := (bif (ref02_May_r1_p s_) then (K (10 : Int)) else (K (0 : Int)))
def ref02_May (s_ : I3) : Int := ref02_May_q s_ (fun y => y)
theorem ref02_May_n {β : Type} (s_ : I3) (K : Int → β) : ref02_May_q s_ K = K (ref02_May s_) := (bif_k K rfl rfl)
theorem ref02_May_is (s_ : I3) : stepS E cp66 ce4 27 [rA tsI3 s_] = (fun y : Int => some (ri y : R)) (ref02_May s_) := by
  refine Eq.trans ?_ (ref02_May_n s_ (fun y : Int => some (ri y : R)))
  refine (stepG_is (nt := 31) (regs := [(0, rA tsI3 s_)])).trans ?_
  unfold ref02_May_q
  refine (pre1 (ref02_May_f1 s_ _)).trans ?_
  refine .trans seq_push ?_
  refine (pre1 (ref02_May_r1 s_ _)).trans ?_
  refine (cond_e (b := (ref02_May_r1_p s_)) (st' := ⟨[], [], [], 31⟩) ).trans (bif_g ?_ ?_)
  · refine (pre1 (ref02_May_fz _)).trans ?_
    refine (ret_eq).trans ?_
    refine seqC_ret.trans ?_
    kernel_rfl
  · refine (skip_eq).trans ?_
    refine (seqC_normal (st' := ⟨[], [], [], 31⟩)).trans ?_
    refine (pre1 (ref02_May_fzx1 _)).trans ?_
    refine (ret_eq).trans ?_
    kernel_rfl
noncomputable def cp67 : CallP := withC cp66 27 [(.agg tsI3)] (.one pI) (fun y : Int => y) (fun x => some (ref02_May x.1))
theorem cp67_ok : PureOK E cp67 := conS eok cp66_ok ce4_ok fun x => Eq.mp (by kernel_rfl) (ref02_May_is x.1)
noncomputable abbrev C71 := codeOf E.P 21
noncomputable abbrev P71 {α : Type} := @preK α E 21 cp67 ce4
abbrev S71_0 (s_ : I3) : St := ⟨[(1, rC tsI3 s_)], [], [], 14⟩
theorem ref02_Size_f1 {α : Type} (s_ : I3) (k : St → Option α) : P71 1 C71 ⟨[(0, rA tsI3 s_)], [], [], 14⟩ k = k (S71_0 s_) := by kernel_rfl
theorem ref02_Size_f1000002 {α : Type} (s_ : I3) (k : St → Option α) : P71 1 C71.r.l (S71_0 s_) k = k ⟨[(1, rC tsI3 s_), (5, rb ((ref02_May s_) != 0))], [], [], 14⟩ := by kernel_rfl
theorem ref02_Size_fz {α : Type} (s_ : I3) (k : St → Option α) : P71 1 C71.r.l.r.t (S71_0 s_) k = k ⟨[(2, ri 0)], [], [], 14⟩ := by kernel_rfl
theorem ref02_Size_fzx1 {α : Type} (s_ : I3) (k : St → Option α) : P71 1 C71.r.r (S71_0 s_) k = k ⟨[(2, ri (IntKind.wrap .i64 ((IntKind.wrap .i64 (s_.1 * s_.2.1)) * s_.2.2)))], [], [], 14⟩ := by kernel_rfl
/-- quilt/quiltref02.Size -/
def ref02_Size_q {β : Type} (s_ : I3) (K : Int → β) : β := (bif ((ref02_May s_) != 0) then (K (0 : Int)) else (K (IntKind.wrap .i64 ((IntKind.wrap .i64 (s_.1 * s_.2.1)) * s_.2.2))))
def ref02_Size (s_ : I3) : Int := ref02_Size_q s_ (fun y => y)
theorem ref02_Size_n {β : Type} (s_ : I3) (K : Int → β) : ref02_Size_q s_ K = K (ref02_Size s_) := (bif_k K rfl rfl)
theorem ref02_Size_is (s_ : I3) : stepS E cp67 ce4 21 [rA tsI3 s_] = (fun y : Int => some (ri y : R)) (ref02_Size s_) := by
  refine Eq.trans ?_ (ref02_Size_n s_ (fun y : Int => some (ri y : R)))
  refine (stepG_is (nt := 14) (regs := [(0, rA tsI3 s_)])).trans ?_
  unfold ref02_Size_q
  refine (pre1 (ref02_Size_f1 s_ _)).trans ?_
  refine .trans seq_push ?_
  refine (pre1 (ref02_Size_f1000002 s_ _)).trans ?_
  refine (cond_e (b := ((ref02_May s_) != 0)) (st' := (S71_0 s_)) ).trans (bif_g ?_ ?_)
  · refine (pre1 (ref02_Size_fz s_ _)).trans ?_
    refine (ret_eq).trans ?_
    refine seqC_ret.trans ?_
    kernel_rfl
  · refine (skip_eq).trans ?_
    refine (seqC_normal (st' := (S71_0 s_))).trans ?_
    refine (pre1 (ref02_Size_fzx1 s_ _)).trans ?_
    refine (ret_eq).trans ?_
    kernel_rfl
noncomputable def cp68 : CallP := withC cp67 21 [(.agg tsI3)] (.one pI) (fun y : Int => y) (fun x => some (ref02_Size x.1))
theorem cp68_ok : PureOK E cp68 := conS eok cp67_ok ce4_ok fun x => Eq.mp (by kernel_rfl) (ref02_Size_is x.1)
section
variable {α : Type} (v_ : I4) (l_ : (List Int)) (s1351 : ((List Int) × Int)) (y1356 : Int) (y1358 : ((List Int) × Int)) (k : St → Option α) (q : Kont α)
noncomputable abbrev C72 := codeOf E.P 46
noncomputable abbrev P72 := @preK α E 46 cp68 ce4
noncomputable abbrev R72 := @runCode α E 46 cp68 ce4
noncomputable abbrev Q72 := @seqC α E 46 cp68 ce4
abbrev S72_0 : St := ⟨[(1, rl (.one (.int .i8)) l_), (2, rC tsI4 v_), (5, .one (.ow (.one (.int .i8)) [] (.v 5)))], [], [], 31⟩
theorem law05_filled_f2 : P72 2 C72 ⟨[(0, rA tsI4 v_), (1, rl (.one (.int .i8)) l_)], [], [], 31⟩ k = k (S72_0 v_ l_) := by kernel_rfl
abbrev S72_1 : St := ⟨[(1, rl (.one (.int .i8)) l_), (2, rC tsI4 v_), (5, .one (.ow (.one (.int .i8)) [] (.v 5))), (6, ri 0)], [], [], 31⟩
theorem law05_filled_f3 : P72 1 C72.r.r.l (S72_0 v_ l_) k = k (S72_1 v_ l_) := by kernel_rfl
abbrev S72_2 : St := ⟨[(1, rl (.one (.int .i8)) l_), (2, rC tsI4 v_), (5, .one (.ow (.one (.int .i8)) s1351.1 (.v 5))), (6, ri s1351.2)], [], [], 31⟩
theorem law05_filled_fz : P72 1 C72.r.r.l.r.b.b.l (S72_2 v_ l_ s1351) k = k ⟨[(1, rl (.one (.int .i8)) l_), (2, rC tsI4 v_), (5, .one (.ow (.one (.int .i8)) s1351.1 (.v 5))), (6, ri s1351.2), (13, rb (decide (s1351.2 < (ref02_Size (v_.1, v_.2.1, v_.2.2.1)))))], [], [], 31⟩ := by kernel_rfl
abbrev S72_3 : St := ⟨[(1, rl (.one (.int .i8)) l_), (2, rC tsI4 v_), (5, .one (.ow (.one (.int .i8)) s1351.1 (.v 5))), (6, ri s1351.2), (7, rk .i8 (0 : Int))], [], [], 31⟩
theorem law05_filled_f6 : P72 1 C72.r.r.l.r.b.b.r.l.b (S72_2 v_ l_ s1351) k = k (S72_3 v_ l_ s1351) := by kernel_rfl
theorem law05_filled_f1000007 : P72 1 C72.r.r.l.r.b.b.r.l.b.r.l (S72_3 v_ l_ s1351) k = k ⟨[(1, rl (.one (.int .i8)) l_), (2, rC tsI4 v_), (5, .one (.ow (.one (.int .i8)) s1351.1 (.v 5))), (6, ri s1351.2), (7, rk .i8 (0 : Int)), (18, rb (decide ((l_.length : Int) > 0)))], [], [], 31⟩ := by kernel_rfl
def law05_filled_r7_p : Option Unit := (bif ((l_.length : Int) == 0) then none else (bif (decide ((0 : Int) ≤ (Int.tmod s1351.2 (l_.length : Int)))) then (bif (decide ((Int.tmod s1351.2 (l_.length : Int)) < (l_.length : Int))) then (some ()) else none) else none))
abbrev S72_4 : St := ⟨[(1, rl (.one (.int .i8)) l_), (2, rC tsI4 v_), (5, .one (.ow (.one (.int .i8)) s1351.1 (.v 5))), (6, ri s1351.2), (7, rk .i8 (gt l_ (Int.tmod s1351.2 (l_.length : Int)) (0 : Int)))], [], [], 31⟩
theorem law05_filled_r7 : R72 C72.r.r.l.r.b.b.r.l.b.r.l.r.t (S72_3 v_ l_ s1351) q = Option.bind (law05_filled_r7_p l_ s1351) (fun y1355 : Unit => q .normal (S72_4 v_ l_ s1351)) := .trans (by kernel_rfl) (bif_b none_b (bif_b (bif_b some_b none_b) none_b))
def law05_filled_j6_p : Option Int := (bif (decide ((l_.length : Int) > 0)) then (Option.bind (law05_filled_r7_p l_ s1351) (fun y1355 : Unit => (some (gt l_ (Int.tmod s1351.2 (l_.length : Int)) (0 : Int))))) else (some (0 : Int)))
abbrev S72_5 : St := ⟨[(1, rl (.one (.int .i8)) l_), (2, rC tsI4 v_), (5, .one (.ow (.one (.int .i8)) s1351.1 (.v 5))), (6, ri s1351.2), (7, rk .i8 y1356)], [], [], 31⟩
theorem law05_filled_j6 : R72 C72.r.r.l.r.b.b.r.l.b.r.l (S72_3 v_ l_ s1351) (Q72 C72.r.r.l.r.b.b.r.l.b.r.r q) = Option.bind (law05_filled_j6_p l_ s1351) (fun y1356 : Int => R72 C72.r.r.l.r.b.b.r.l.b.r.r (S72_5 v_ l_ s1351 y1356) q) := by
  refine .trans ?_ (bif_b (bind_b fun y1355 => some_b) some_b)
  refine (pre1 (law05_filled_f1000007 v_ l_ s1351 _)).trans ?_
  refine (cond_e (b := (decide ((l_.length : Int) > 0))) (st' := (S72_3 v_ l_ s1351)) ).trans (bif_g ?_ ?_)
  · refine (law05_filled_r7 v_ l_ s1351 _).trans (bind_g fun y1355 => ?_)
    refine (seqC_normal (st' := (S72_4 v_ l_ s1351))).trans ?_
    kernel_rfl
  · refine (skip_eq).trans ?_
    refine (seqC_normal (st' := (S72_3 v_ l_ s1351))).trans ?_
    kernel_rfl
def law05_filled_r8_p : Option Unit := (bif (decide (s1351.1.length + ([y1356] : List Int).length ≤ maxL)) then (some ()) else none)
abbrev S72_6 : St := ⟨[(1, rl (.one (.int .i8)) l_), (2, rC tsI4 v_), (5, .one (.ow (.one (.int .i8)) (s1351.1 ++ [y1356]) (.v 5))), (6, ri s1351.2)], [], [], 31⟩
theorem law05_filled_r8 : R72 C72.r.r.l.r.b.b.r.l.b.r.r (S72_5 v_ l_ s1351 y1356) q = Option.bind (law05_filled_r8_p s1351 y1356) (fun y1357 : Unit => q .normal (S72_6 v_ l_ s1351 y1356)) := .trans (by kernel_rfl) (bif_b some_b none_b)
theorem law05_filled_r4 : R72 C72.r.r.l.r.b.b.r.r (S72_6 v_ l_ s1351 y1356) q = q .normal ⟨[(1, rl (.one (.int .i8)) l_), (2, rC tsI4 v_), (5, .one (.ow (.one (.int .i8)) (s1351.1 ++ [y1356]) (.v 5))), (6, ri (IntKind.wrap .i64 (s1351.2 + 1)))], [], [], 31⟩ := by kernel_rfl
def law05_filled_l3_p : Option (((List Int) × Int) ⊕ ((List Int) × Int)) := (bif (decide (s1351.2 < (ref02_Size (v_.1, v_.2.1, v_.2.2.1)))) then (Option.bind (law05_filled_j6_p l_ s1351) (fun y1356 : Int => (Option.bind (law05_filled_r8_p s1351 y1356) (fun y1357 : Unit => (some (Sum.inl ((s1351.1 ++ [y1356]), (IntKind.wrap .i64 (s1351.2 + 1))))))))) else (some (Sum.inr s1351)))
abbrev S72_7 : St := ⟨[(1, rl (.one (.int .i8)) l_), (2, rC tsI4 v_), (5, .one (.ow (.one (.int .i8)) y1358.1 (.v 5))), (6, ri y1358.2)], [], [], 31⟩
theorem law05_filled_l3_b : R72 C72.r.r.l.r.b.b (S72_2 v_ l_ s1351) (loopKont 0 q) = Option.bind (law05_filled_l3_p v_ l_ s1351) (either (fun y : ((List Int) × Int) => q .normal ⟨[(1, rl (.one (.int .i8)) l_), (2, rC tsI4 v_), (5, .one (.ow (.one (.int .i8)) y.1 (.v 5))), (6, ri y.2)], [], [], 31⟩) (fun y1358 : ((List Int) × Int) => q (.exit 0) (S72_7 v_ l_ y1358))) := by
  refine .trans ?_ (bif_b (bind_b fun y1356 => (bind_b fun y1357 => e2_0)) e2_1)
  refine .trans seq_push ?_
  refine (pre1 (law05_filled_fz v_ l_ s1351 _)).trans ?_
  refine (cond_e (b := (decide (s1351.2 < (ref02_Size (v_.1, v_.2.1, v_.2.2.1))))) (st' := (S72_2 v_ l_ s1351)) ).trans (bif_g ?_ ?_)
  · refine (skip_eq).trans ?_
    refine (seqC_normal (st' := (S72_2 v_ l_ s1351))).trans ?_
    refine .trans seq_push ?_
    refine (block_push (id := 1)).trans ?_
    refine (pre1 (law05_filled_f6 v_ l_ s1351 _)).trans ?_
    refine .trans seq_push ?_
    refine (law05_filled_j6 v_ l_ s1351 _).trans (bind_g fun y1356 => ?_)
    refine (law05_filled_r8 v_ l_ s1351 y1356 _).trans (bind_g fun y1357 => ?_)
    refine block_normal.trans ?_
    refine (seqC_normal (st' := (S72_6 v_ l_ s1351 y1356))).trans ?_
    refine (law05_filled_r4 v_ l_ s1351 y1356 _).trans ?_
    kernel_rfl
  · refine ((exit_eq (j := 0))).trans ?_
    refine seqC_exit.trans ?_
    kernel_rfl
theorem law05_filled_l3 : R72 C72.r.r.l.r.b (S72_1 v_ l_) q = Option.bind (iterN (law05_filled_l3_p v_ l_) LL ([], (0 : Int))) (fun y1358 : ((List Int) × Int) => q (.exit 0) (S72_7 v_ l_ y1358)) :=
  Eq.trans (by kernel_rfl) (loop_iter1 (S := fun s1351 : ((List Int) × Int) => (S72_2 v_ l_ s1351)) (Y1 := fun y1358 : ((List Int) × Int) => ((.exit 0), (S72_7 v_ l_ y1358))) (fun s q => law05_filled_l3_b v_ l_ s q) (fun z => rfl) LL ([], (0 : Int)))
theorem law05_filled_fzx1 : P72 1 C72.r.r.r ⟨[(5, .one (.ow (.one (.int .i8)) y1358.1 (.v 5)))], [], [], 31⟩ k = k ⟨[(4, .one (.ow (.one (.int .i8)) y1358.1 (.v 5)))], [], [], 31⟩ := by kernel_rfl
/-- quilt/quiltlaw05.filled -/
def law05_filled : Option (List Int) := (Option.bind (iterN (law05_filled_l3_p v_ l_) LL ([], (0 : Int))) (fun y1358 : ((List Int) × Int) => (some y1358.1)))
theorem law05_filled_is : stepS E cp68 ce4 46 [rA tsI4 v_, rl (.one (.int .i8)) l_] = Option.bind (law05_filled v_ l_) (fun y : (List Int) => some (rl (.one (.int .i8)) y : R)) := by
  refine .trans ?_ (bind_b fun y1358 => some_b)
  refine (stepG_is (nt := 31) (regs := [(0, rA tsI4 v_), (1, rl (.one (.int .i8)) l_)])).trans ?_
  refine (pre2 (law05_filled_f2 v_ l_ _)).trans ?_
  refine .trans seq_push ?_
  refine (pre1 (law05_filled_f3 v_ l_ _)).trans ?_
  refine (block_push (id := 0)).trans ?_
  refine (law05_filled_l3 v_ l_ _).trans (bind_g fun y1358 => ?_)
  refine block_same.trans ?_
  refine (seqC_normal (st' := ⟨[(5, .one (.ow (.one (.int .i8)) y1358.1 (.v 5)))], [], [], 31⟩)).trans ?_
  refine (pre1 (law05_filled_fzx1 y1358 _)).trans ?_
  refine (ret_eq).trans ?_
  kernel_rfl
noncomputable def cp69 : CallP := withC cp68 46 [(.agg tsI4), (.one (.g (.sl (.one (.int .i8)))))] (.one (.one (.g (.sl (.one (.int .i8)))))) (fun y : (List Int) => y) (fun x => law05_filled x.1 x.2.1)
theorem cp69_ok : PureOK E cp69 := conS eok cp68_ok ce4_ok fun x => Eq.mp (by kernel_rfl) (law05_filled_is x.1 x.2.1)
end
section
variable {α β : Type} (in_ : (List I4)) (l_ : A3) (s1398 : (Int × (List Int) × (List Int))) (y1406 : ((List Int) × (List Int))) (y1407 : (Int × (List Int) × (List Int))) (k : St → Option α) (q : Kont α)
noncomputable abbrev C73 := codeOf E.P 31
noncomputable abbrev P73 := @preK α E 31 cp69 ce4
noncomputable abbrev R73 := @runCode α E 31 cp69 ce4
abbrev S73_0 : St := ⟨[(0, rl tsI4 in_), (3, rC tsA3 l_), (4, rF 0), (5, rF 1)], [[dl (.one (.int .i8)) [], dl (.one (.int .i8)) []], [dl (.one (.int .i8)) [], dl (.one (.int .i8)) []]], [], 29⟩
theorem law05_data_f2 : P73 2 C73 ⟨[(0, rl tsI4 in_), (1, rA tsA3 l_)], [], [], 29⟩ k = k (S73_0 in_ l_) := by kernel_rfl
abbrev S73_1 : St := ⟨[(0, rl tsI4 in_), (3, rC tsA3 l_), (4, rF 0), (5, rF 1), (6, ri 0)], [[dl (.one (.int .i8)) [], dl (.one (.int .i8)) []], [dl (.one (.int .i8)) [], dl (.one (.int .i8)) []]], [], 29⟩
theorem law05_data_f3 : P73 1 C73.r.r.l (S73_0 in_ l_) k = k (S73_1 in_ l_) := by kernel_rfl
def law05_data_r3_q (K : Bool → β) : β := (bif (decide (s1398.1 < (in_.length : Int))) then (K (decide (s1398.1 < 2))) else (K false))
def law05_data_r3_p : Bool := law05_data_r3_q in_ s1398 (fun y => y)
theorem law05_data_r3_n (K : Bool → β) : law05_data_r3_q in_ s1398 K = K (law05_data_r3_p in_ s1398) := (bif_k K rfl rfl)
abbrev S73_2 : St := ⟨[(0, rl tsI4 in_), (3, rC tsA3 l_), (4, rF 0), (5, rF 1), (6, ri s1398.1)], [[dl (.one (.int .i8)) [], dl (.one (.int .i8)) []], (tsA3.leaves s1398.2)], [], 29⟩
theorem law05_data_r3 : P73 1 C73.r.r.l.r.b.b.l (S73_2 in_ l_ s1398) k = k ⟨[(0, rl tsI4 in_), (3, rC tsA3 l_), (4, rF 0), (5, rF 1), (6, ri s1398.1), (15, rb (law05_data_r3_p in_ s1398))], [[dl (.one (.int .i8)) [], dl (.one (.int .i8)) []], (tsA3.leaves s1398.2)], [], 29⟩ := Eq.trans (by kernel_rfl) (law05_data_r3_n in_ s1398 (fun y1400 : Bool => k ⟨[(0, rl tsI4 in_), (3, rC tsA3 l_), (4, rF 0), (5, rF 1), (6, ri s1398.1), (15, rb y1400)], [[dl (.one (.int .i8)) [], dl (.one (.int .i8)) []], (tsA3.leaves s1398.2)], [], 29⟩))
def law05_data_r5_p : Option ((List Int) × (List Int)) := (bif (decide ((0 : Int) ≤ s1398.1)) then (bif (decide (s1398.1 < (in_.length : Int))) then (bif (s1398.1 == 0) then (Option.bind (law05_filled (gt in_ s1398.1 dI4) l_.1) (fun y1404 : (List Int) => (bif (s1398.1 == 0) then (some (y1404, s1398.2.2)) else (bif (s1398.1 == 1) then (some (s1398.2.1, y1404)) else none)))) else (bif (s1398.1 == 1) then (Option.bind (law05_filled (gt in_ s1398.1 dI4) l_.2) (fun y1405 : (List Int) => (bif (s1398.1 == 0) then (some (y1405, s1398.2.2)) else (bif (s1398.1 == 1) then (some (s1398.2.1, y1405)) else none)))) else none)) else none) else none)
abbrev S73_3 : St := ⟨[(0, rl tsI4 in_), (3, rC tsA3 l_), (4, rF 0), (5, rF 1), (6, ri s1398.1)], [[dl (.one (.int .i8)) [], dl (.one (.int .i8)) []], (tsA3.leaves y1406)], [], 29⟩
theorem law05_data_r5 : R73 C73.r.r.l.r.b.b.r.l.b (S73_2 in_ l_ s1398) q = Option.bind (law05_data_r5_p in_ l_ s1398) (fun y1406 : ((List Int) × (List Int)) => q .normal (S73_3 in_ l_ s1398 y1406)) := .trans (by kernel_rfl) (bif_b (bif_b (bif_b (bind_b fun y1404 => (bif_b some_b (bif_b some_b none_b))) (bif_b (bind_b fun y1405 => (bif_b some_b (bif_b some_b none_b))) none_b)) none_b) none_b)
theorem law05_data_r4 : R73 C73.r.r.l.r.b.b.r.r (S73_3 in_ l_ s1398 y1406) q = q .normal ⟨[(0, rl tsI4 in_), (3, rC tsA3 l_), (4, rF 0), (5, rF 1), (6, ri (IntKind.wrap .i64 (s1398.1 + 1)))], [[dl (.one (.int .i8)) [], dl (.one (.int .i8)) []], (tsA3.leaves y1406)], [], 29⟩ := by kernel_rfl
def law05_data_l3_p : Option ((Int × (List Int) × (List Int)) ⊕ (Int × (List Int) × (List Int))) := (bif (law05_data_r3_p in_ s1398) then (Option.bind (law05_data_r5_p in_ l_ s1398) (fun y1406 : ((List Int) × (List Int)) => (some (Sum.inl ((IntKind.wrap .i64 (s1398.1 + 1)), y1406.1, y1406.2))))) else (some (Sum.inr s1398)))
abbrev S73_4 : St := ⟨[(0, rl tsI4 in_), (3, rC tsA3 l_), (4, rF 0), (5, rF 1), (6, ri y1407.1)], [[dl (.one (.int .i8)) [], dl (.one (.int .i8)) []], (tsA3.leaves y1407.2)], [], 29⟩
theorem law05_data_l3_b : R73 C73.r.r.l.r.b.b (S73_2 in_ l_ s1398) (loopKont 2 q) = Option.bind (law05_data_l3_p in_ l_ s1398) (either (fun y : (Int × (List Int) × (List Int)) => q .normal ⟨[(0, rl tsI4 in_), (3, rC tsA3 l_), (4, rF 0), (5, rF 1), (6, ri y.1)], [[dl (.one (.int .i8)) [], dl (.one (.int .i8)) []], (tsA3.leaves y.2)], [], 29⟩) (fun y1407 : (Int × (List Int) × (List Int)) => q (.exit 0) (S73_4 in_ l_ y1407))) := by
  refine .trans ?_ (bif_b (bind_b fun y1406 => e2_0) e2_1)
  refine .trans seq_push ?_
  refine (pre1 (law05_data_r3 in_ l_ s1398 _)).trans ?_
  refine (cond_e (b := (law05_data_r3_p in_ s1398)) (st' := (S73_2 in_ l_ s1398)) ).trans (bif_g ?_ ?_)
  · refine (skip_eq).trans ?_
    refine (seqC_normal (st' := (S73_2 in_ l_ s1398))).trans ?_
    refine .trans seq_push ?_
    refine (block_push (id := 1)).trans ?_
    refine (law05_data_r5 in_ l_ s1398 _).trans (bind_g fun y1406 => ?_)
    refine block_normal.trans ?_
    refine (seqC_normal (st' := (S73_3 in_ l_ s1398 y1406))).trans ?_
    refine (law05_data_r4 in_ l_ s1398 y1406 _).trans ?_
    kernel_rfl
  · refine ((exit_eq (j := 0))).trans ?_
    refine seqC_exit.trans ?_
    kernel_rfl
theorem law05_data_l3 : R73 C73.r.r.l.r.b (S73_1 in_ l_) q = Option.bind (iterN (law05_data_l3_p in_ l_) LL ((0 : Int), [], [])) (fun y1407 : (Int × (List Int) × (List Int)) => q (.exit 0) (S73_4 in_ l_ y1407)) :=
  Eq.trans (by kernel_rfl) (loop_iter1 (S := fun s1398 : (Int × (List Int) × (List Int)) => (S73_2 in_ l_ s1398)) (Y1 := fun y1407 : (Int × (List Int) × (List Int)) => ((.exit 0), (S73_4 in_ l_ y1407))) (fun s q => law05_data_l3_b in_ l_ s q) (fun z => rfl) LL ((0 : Int), [], []))
abbrev S73_5 : St := ⟨[(4, rF 0), (5, rF 1)], [[dl (.one (.int .i8)) [], dl (.one (.int .i8)) []], (tsA3.leaves y1407.2)], [], 29⟩
theorem law05_data_fz : P73 1 C73.r.r.r (S73_5 y1407) k = k ⟨[(4, rF 0)], [(tsA3.leaves y1407.2), []], [], 29⟩ := by kernel_rfl
/-- quilt/quiltlaw05.data -/
def law05_data : Option A3 := (Option.bind (iterN (law05_data_l3_p in_ l_) LL ((0 : Int), [], [])) (fun y1407 : (Int × (List Int) × (List Int)) => (some y1407.2)))
theorem law05_data_is : stepS E cp69 ce4 31 [rl tsI4 in_, rA tsA3 l_] = Option.bind (law05_data in_ l_) (fun y : A3 => some (rA tsA3 y : R)) := by
  refine .trans ?_ (bind_b fun y1407 => some_b)
  refine (stepG_is (nt := 29) (regs := [(0, rl tsI4 in_), (1, rA tsA3 l_)])).trans ?_
  refine (pre2 (law05_data_f2 in_ l_ _)).trans ?_
  refine .trans seq_push ?_
  refine (pre1 (law05_data_f3 in_ l_ _)).trans ?_
  refine (block_push (id := 0)).trans ?_
  refine (law05_data_l3 in_ l_ _).trans (bind_g fun y1407 => ?_)
  refine block_same.trans ?_
  refine (seqC_normal (st' := (S73_5 y1407))).trans ?_
  refine (pre1 (law05_data_fz y1407 _)).trans ?_
  refine (ret_eq).trans ?_
  kernel_rfl
noncomputable def cp70 : CallP := withC cp69 31 [(pL tsI4), (.agg tsA3)] (.one (.agg tsA3)) (fun y : A3 => y) (fun x => law05_data x.1 x.2.1)
theorem cp70_ok : PureOK E cp70 := conS eok cp69_ok ce4_ok fun x => Eq.mp (by kernel_rfl) (law05_data_is x.1 x.2.1)
end
section
variable {α β : Type} (x_ : Data) (y1323 : (List I4)) (k : St → Option α)
noncomputable abbrev C74 := codeOf E.P 18
noncomputable abbrev P74 := @preK α E 18 cp70 ce4
abbrev S74_0 : St := ⟨[(1, rC tsData x_), (3, rF 0), (5, rl tsI4 y1323)], [[dl (.one (.int .i8)) [], dl (.one (.int .i8)) []]], [], 39⟩
theorem law05_pair_r1 : P74 2 C74 ⟨[(0, rA tsData x_)], [], [], 39⟩ k = Option.bind (law05_some x_.1) fun y1323 : (List I4) => k (S74_0 x_ y1323) := by kernel_rfl
def law05_pair_r2_p : Option Bool := (bif ((y1323.length : Int) == 0) then (some true) else (bif (decide ((0 : Int) < (y1323.length : Int))) then (some ((ref02_May ((gt y1323 (0 : Int) dI4).1, (gt y1323 (0 : Int) dI4).2.1, (gt y1323 (0 : Int) dI4).2.2.1)) != 0)) else none))
theorem law05_pair_r2 : P74 1 C74.r.r.l (S74_0 x_ y1323) k = Option.bind (law05_pair_r2_p y1323) (fun y1327 : Bool => k ⟨[(1, rC tsData x_), (3, rF 0), (5, rl tsI4 y1323), (21, rb y1327)], [[dl (.one (.int .i8)) [], dl (.one (.int .i8)) []]], [], 39⟩) := .trans (by kernel_rfl) (bif_b some_b (bif_b some_b none_b))
theorem law05_pair_fz : P74 1 C74.r.r.l.r.t (S74_0 x_ y1323) k = k ⟨[(2, .one (.ow tsI4 [] (.v 2))), (3, rF 0), (4, rb false)], [[dl (.one (.int .i8)) [], dl (.one (.int .i8)) []]], [], 39⟩ := by kernel_rfl
def law05_pair_r4_p : Option Unit := (bif (decide ((0 : Int) < (y1323.length : Int))) then (some ()) else none)
abbrev S74_1 : St := ⟨[(1, rC tsData x_), (3, rF 0), (6, rF 1)], [[dl (.one (.int .i8)) [], dl (.one (.int .i8)) []], (tsI4.leaves (gt y1323 (0 : Int) dI4))], [], 39⟩
theorem law05_pair_r4 : P74 1 C74.r.r.r (S74_0 x_ y1323) k = Option.bind (law05_pair_r4_p y1323) (fun y1328 : Unit => k (S74_1 x_ y1323)) := .trans (by kernel_rfl) (bif_b some_b none_b)
def law05_pair_r6_q (K : (List I4) → β) : β := (K [((gt y1323 (0 : Int) dI4).1, (gt y1323 (0 : Int) dI4).2.1, (gt y1323 (0 : Int) dI4).2.2.1, (min (max ((gt y1323 (0 : Int) dI4).2.2.2) (-128 : Int)) (127 : Int))), ((gt y1323 (0 : Int) dI4).1, (gt y1323 (0 : Int) dI4).2.1, (gt y1323 (0 : Int) dI4).2.2.1, (min (max ((gt y1323 (0 : Int) dI4).2.2.2) (-128 : Int)) (127 : Int)))])
def law05_pair_r6_p : (List I4) := law05_pair_r6_q y1323 (fun y => y)
theorem law05_pair_r6_n (K : (List I4) → β) : law05_pair_r6_q y1323 K = K (law05_pair_r6_p y1323) := rfl
abbrev S74_2 : St := ⟨[(1, rC tsData x_), (3, rF 0), (7, .one (.ow tsI4 (law05_pair_r6_p y1323) (.v 7)))], [[dl (.one (.int .i8)) [], dl (.one (.int .i8)) []], []], [], 39⟩
theorem law05_pair_r6 : P74 2 C74.r.r.r.r (S74_1 x_ y1323) k = k (S74_2 x_ y1323) := Eq.trans (by kernel_rfl) (law05_pair_r6_n y1323 (fun y1329 : (List I4) => k ⟨[(1, rC tsData x_), (3, rF 0), (7, rO tsI4 y1329 7)], [[dl (.one (.int .i8)) [], dl (.one (.int .i8)) []], []], [], 39⟩))
theorem law05_pair_r7 : P74 1 C74.r.r.r.r.r.r (S74_2 x_ y1323) k = Option.bind (law05_data (law05_pair_r6_p y1323) x_.2) fun y1408 : A3 => k ⟨[(2, .one (.ow tsI4 (law05_pair_r6_p y1323) (.v 7))), (3, rF 0), (4, rb true)], [(tsA3.leaves y1408), []], [], 39⟩ := by kernel_rfl
/-- quilt/quiltlaw05.pair -/
def law05_pair : Option ((List I4) × A3 × Bool) := (Option.bind (law05_some x_.1) (fun y1323 : (List I4) => (Option.bind (law05_pair_r2_p y1323) (fun y1327 : Bool => (bif y1327 then (some ([], ([], []), false)) else (Option.bind (law05_pair_r4_p y1323) (fun y1328 : Unit => (Option.bind (law05_data (law05_pair_r6_p y1323) x_.2) (fun y1408 : A3 => (some ((law05_pair_r6_p y1323), y1408, true)))))))))))
theorem law05_pair_is : stepO E cp70 ce4 18 [rA tsData x_] = Option.bind (law05_pair x_) (fun y : ((List I4) × A3 × Bool) => some (.tup [.one (.ow tsI4 y.1 (.s 0)), rA tsA3 y.2.1, rb y.2.2] : R)) := by
  refine .trans ?_ (bind_b fun y1323 => (bind_b fun y1327 => (bif_b some_b (bind_b fun y1328 => (bind_b fun y1408 => some_b)))))
  refine (stepG_is (nt := 39) (regs := [(0, rA tsData x_)])).trans ?_
  refine (pre2 (law05_pair_r1 x_ _)).trans (bind_g fun y1323 => ?_)
  refine .trans seq_push ?_
  refine (pre1 (law05_pair_r2 x_ y1323 _)).trans (bind_g fun y1327 => ?_)
  refine (cond_e (b := y1327) (st' := (S74_0 x_ y1323)) ).trans (bif_g ?_ ?_)
  · refine (pre1 (law05_pair_fz x_ y1323 _)).trans ?_
    refine (ret_eq).trans ?_
    refine seqC_ret.trans ?_
    kernel_rfl
  · refine (skip_eq).trans ?_
    refine (seqC_normal (st' := (S74_0 x_ y1323))).trans ?_
    refine (pre1 (law05_pair_r4 x_ y1323 _)).trans (bind_g fun y1328 => ?_)
    refine (pre2 (law05_pair_r6 x_ y1323 _)).trans ?_
    refine (pre1 (law05_pair_r7 x_ y1323 _)).trans (bind_g fun y1408 => ?_)
    refine (ret_eq).trans ?_
    kernel_rfl
noncomputable def cp71 : CallP := withC cp70 18 [(.agg tsData)] (.tup [(.one (.ow tsI4)), (.agg tsA3), pB]) (fun y : ((List I4) × A3 × Bool) => (y.1, y.2.1, y.2.2, ())) (fun x => law05_pair x.1)
theorem cp71_ok : PureOK E cp71 := conO eok cp70_ok ce4_ok fun x => Eq.mp (by kernel_rfl) (law05_pair_is x.1)
end
end Go.V.P
