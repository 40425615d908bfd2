/- What functions compute. -/
import Derived.Test.YtaehdmelnmajnaaHSem2
namespace Go.V.P
open Go.RowKit Go.V Go.Proofs
set_option linter.unusedVariables false
set_option maxRecDepth 100000
section
variable {α : Type} (y1 : (List Int)) (y2 : (Int × (List Int))) (y3 : (Int × (List Int))) (y4 : (Int × (List Int))) (k : St → Option α)
noncomputable abbrev C0 := codeOf E.P 8
noncomputable abbrev P0 := @preK α E 8 cpA semE
abbrev S0_0 : St := ⟨[(1, rF 0)], [[.sem y1]], [], 34, 0⟩
theorem law10_shown_r1 : P0 2 C0 ⟨[], [], [], 34, 0⟩ k = Option.bind semNew fun y1 : (List Int) => k (S0_0 y1) := by kernel_rfl
theorem law10_shown_f1000003 : P0 1 C0.r.r.l (S0_0 y1) k = k ⟨[(1, rF 0), (7, rb false)], [[.sem y1]], [], 34, 0⟩ := by kernel_rfl
abbrev S0_1 : St := ⟨[(1, rF 0), (2, ri y2.1)], [[.sem y2.2]], [], 34, 0⟩
theorem law10_shown_r4 : P0 1 C0.r.r.r (S0_0 y1) k = Option.bind (semWait y1 (0 : Int)) fun y2 : (Int × (List Int)) => k (S0_1 y2) := by kernel_rfl
abbrev S0_2 : St := ⟨[(1, rF 0), (2, ri y2.1), (3, ri y3.1)], [[.sem y3.2]], [], 34, 0⟩
theorem law10_shown_r5 : P0 1 C0.r.r.r.r (S0_1 y2) k = Option.bind (semSignal y2.2 (0 : Int)) fun y3 : (Int × (List Int)) => k (S0_2 y2 y3) := by kernel_rfl
abbrev S0_3 : St := ⟨[(1, rF 0), (2, ri y2.1), (3, ri y3.1), (4, ri y4.1)], [[.sem y4.2]], [], 34, 0⟩
theorem law10_shown_r6 : P0 1 C0.r.r.r.r.r (S0_2 y2 y3) k = Option.bind (semWait y3.2 (0 : Int)) fun y4 : (Int × (List Int)) => k (S0_3 y2 y3 y4) := by kernel_rfl
def law10_shown_r7_p : Option (Bool × (List Int)) := (bif (y2.1 == 20) then (bif (y3.1 == 0) then (bif (y4.1 == 0) then (Option.bind (semWait y4.2 (0 : Int)) (fun y5 : (Int × (List Int)) => (bif (y5.1 == 20) then (Option.bind (semSignal y5.2 (8 : Int)) (fun y6 : (Int × (List Int)) => (some ((y6.1 == 1), y6.2)))) else (some (false, y5.2))))) else (some (false, y4.2))) else (some (false, y4.2))) else (some (false, y4.2)))
theorem law10_shown_r7 : P0 1 C0.r.r.r.r.r.r (S0_3 y2 y3 y4) k = Option.bind (law10_shown_r7_p y2 y3 y4) (fun y7 : (Bool × (List Int)) => k ⟨[(0, rb y7.1)], [[.sem y7.2]], [], 34, 0⟩) := .trans (by kernel_rfl) (bif_b (bif_b (bif_b (bind_b fun y5 => (bif_b (bind_b fun y6 => some_b) some_b)) some_b) some_b) some_b)
/-- quilt/quiltlaw10.shown -/
def law10_shown : Option Bool := (Option.bind semNew (fun y1 : (List Int) => (Option.bind (semWait y1 (0 : Int)) (fun y2 : (Int × (List Int)) => (Option.bind (semSignal y2.2 (0 : Int)) (fun y3 : (Int × (List Int)) => (Option.bind (semWait y3.2 (0 : Int)) (fun y4 : (Int × (List Int)) => (Option.bind (law10_shown_r7_p y2 y3 y4) (fun y7 : (Bool × (List Int)) => (some y7.1)))))))))))
theorem law10_shown_is : stepS E cpA semE 8 [] = Option.bind (law10_shown) (fun y : Bool => some (rb y : R)) := by
  refine .trans ?_ (bind_b fun y1 => (bind_b fun y2 => (bind_b fun y3 => (bind_b fun y4 => (bind_b fun y7 => some_b)))))
  refine (stepG_is (nt := 34) (regs := [])).trans ?_
  refine (pre2 (law10_shown_r1 _)).trans (bind_g fun y1 => ?_)
  refine .trans seq_push ?_
  refine (pre1 (law10_shown_f1000003 y1 _)).trans ?_
  refine (cond_f (st' := (S0_0 y1)) ).trans ?_
  refine (skip_eq).trans ?_
  refine (seqC_normal (st' := (S0_0 y1))).trans ?_
  refine (pre1 (law10_shown_r4 y1 _)).trans (bind_g fun y2 => ?_)
  refine (pre1 (law10_shown_r5 y2 _)).trans (bind_g fun y3 => ?_)
  refine (pre1 (law10_shown_r6 y2 y3 _)).trans (bind_g fun y4 => ?_)
  refine (pre1 (law10_shown_r7 y2 y3 y4 _)).trans (bind_g fun y7 => ?_)
  refine (ret_eq).trans ?_
  kernel_rfl
noncomputable def cp1 : CallP := withC cpA 8 [] (.one pB) (fun y : Bool => y) (fun x => law10_shown)
theorem cp1_ok : PureOK E cp1 := conS eok cpA_ok semE_ok fun x => Eq.mp (by kernel_rfl) (law10_shown_is)
end
noncomputable abbrev C1 := codeOf E.P 22
noncomputable abbrev P1 {α : Type} := @preK α E 22 cp1 semE
def ref10_there_r1_q {β : Type} (i_ : Int) (K : Bool → β) : β := (bif (decide (i_ ≥ 0)) then (K (decide (i_ < 8))) else (K false))
def ref10_there_r1_p (i_ : Int) : Bool := ref10_there_r1_q i_ (fun y => y)
theorem ref10_there_r1_n {β : Type} (i_ : Int) (K : Bool → β) : ref10_there_r1_q i_ K = K (ref10_there_r1_p i_) := (bif_k K rfl rfl)
theorem ref10_there_r1 {α : Type} (i_ : Int) (k : St → Option α) : P1 2 C1 ⟨[(0, ri i_)], [], [], 9, 0⟩ k = k ⟨[(2, rb (ref10_there_r1_p i_))], [], [], 9, 0⟩ := Eq.trans (by kernel_rfl) (ref10_there_r1_n i_ (fun y17 : Bool => k ⟨[(2, rb y17)], [], [], 9, 0⟩))
/-- quilt/quiltref10.there -/
def ref10_there_q {β : Type} (i_ : Int) (K : Bool → β) : β := (K (ref10_there_r1_p i_))
def ref10_there (i_ : Int) : Bool := ref10_there_q i_ (fun y => y)
theorem ref10_there_n {β : Type} (i_ : Int) (K : Bool → β) : ref10_there_q i_ K = K (ref10_there i_) := rfl
theorem ref10_there_is (i_ : Int) : stepS E cp1 semE 22 [ri i_] = (fun y : Bool => some (rb y : R)) (ref10_there i_) := by
  refine Eq.trans ?_ (ref10_there_n i_ (fun y : Bool => some (rb y : R)))
  refine (stepG_is (nt := 9) (regs := [(0, ri i_)])).trans ?_
  unfold ref10_there_q
  refine (pre2 (ref10_there_r1 i_ _)).trans ?_
  refine (ret_eq).trans ?_
  kernel_rfl
noncomputable def cp2 : CallP := withC cp1 22 [pI] (.one pB) (fun y : Bool => y) (fun x => some (ref10_there x.1))
theorem cp2_ok : PureOK E cp2 := conS eok cp1_ok semE_ok fun x => Eq.mp (by kernel_rfl) (ref10_there_is x.1)
section
variable {α : Type} (s_ : (List Int)) (i_ : Int) (s34 : (Int × Int)) (y36 : Int) (y38 : Int) (y39 : (Int × Int)) (k : St → Option α) (q : Kont α)
noncomputable abbrev C2 := codeOf E.P 18
noncomputable abbrev P2 := @preK α E 18 cp2 semE
noncomputable abbrev R2 := @runCode α E 18 cp2 semE
noncomputable abbrev Q2 := @seqC α E 18 cp2 semE
abbrev S2_0 : St := ⟨[(0, .one (.cell [dl (.one (.int .i64)) s_])), (1, ri i_), (5, ri 0)], [], [], 42, 0⟩
theorem ref10_Sems_Count_f2 : P2 2 C2 ⟨[(0, .one (.cell [dl (.one (.int .i64)) s_])), (1, ri i_)], [], [], 42, 0⟩ k = k (S2_0 s_ i_) := by kernel_rfl
abbrev S2_1 : St := ⟨[(0, .one (.cell [dl (.one (.int .i64)) s_])), (1, ri i_), (5, ri 0), (6, ri 0)], [], [], 42, 0⟩
theorem ref10_Sems_Count_f3 : P2 1 C2.r.r.l (S2_0 s_ i_) k = k (S2_1 s_ i_) := by kernel_rfl
abbrev S2_2 : St := ⟨[(0, .one (.cell [dl (.one (.int .i64)) s_])), (1, ri i_), (5, ri s34.1), (6, ri s34.2)], [], [], 42, 0⟩
theorem ref10_Sems_Count_fz : P2 1 C2.r.r.l.r.b.b.l (S2_2 s_ i_ s34) k = k ⟨[(0, .one (.cell [dl (.one (.int .i64)) s_])), (1, ri i_), (5, ri s34.1), (6, ri s34.2), (13, rb (decide (s34.2 < (s_.length : Int))))], [], [], 42, 0⟩ := by kernel_rfl
def ref10_Sems_Count_r5_p : Option Unit := (bif (decide ((0 : Int) ≤ s34.2)) then (bif (decide (s34.2 < (s_.length : Int))) then (some ()) else none) else none)
theorem ref10_Sems_Count_r5 : P2 1 C2.r.r.l.r.b.b.r.l.b.l (S2_2 s_ i_ s34) k = Option.bind (ref10_Sems_Count_r5_p s_ s34) (fun y35 : Unit => k ⟨[(0, .one (.cell [dl (.one (.int .i64)) s_])), (1, ri i_), (5, ri s34.1), (6, ri s34.2), (25, rb ((gt s_ s34.2 (0 : Int)) == (IntKind.wrap .i64 (i_ + 1))))], [], [], 42, 0⟩) := .trans (by kernel_rfl) (bif_b (bif_b some_b none_b) none_b)
abbrev S2_3 : St := ⟨[(0, .one (.cell [dl (.one (.int .i64)) s_])), (1, ri i_), (5, ri (IntKind.wrap .i64 (s34.1 + 1))), (6, ri s34.2)], [], [], 42, 0⟩
theorem ref10_Sems_Count_r6 : R2 C2.r.r.l.r.b.b.r.l.b.l.r.t (S2_2 s_ i_ s34) q = q .normal (S2_3 s_ i_ s34) := by kernel_rfl
def ref10_Sems_Count_j5_p : Option Int := (Option.bind (ref10_Sems_Count_r5_p s_ s34) (fun y35 : Unit => (bif ((gt s_ s34.2 (0 : Int)) == (IntKind.wrap .i64 (i_ + 1))) then (some (IntKind.wrap .i64 (s34.1 + 1))) else (some s34.1))))
abbrev S2_4 : St := ⟨[(0, .one (.cell [dl (.one (.int .i64)) s_])), (1, ri i_), (5, ri y36), (6, ri s34.2)], [], [], 42, 0⟩
theorem ref10_Sems_Count_j5 : R2 C2.r.r.l.r.b.b.r.l.b.l (S2_2 s_ i_ s34) (Q2 C2.r.r.l.r.b.b.r.l.b.r q) = Option.bind (ref10_Sems_Count_j5_p s_ i_ s34) (fun y36 : Int => R2 C2.r.r.l.r.b.b.r.l.b.r (S2_4 s_ i_ s34 y36) q) := by
  refine .trans ?_ (bind_b fun y35 => (bif_b some_b some_b))
  refine (pre1 (ref10_Sems_Count_r5 s_ i_ s34 _)).trans (bind_g fun y35 => ?_)
  refine (cond_e (b := ((gt s_ s34.2 (0 : Int)) == (IntKind.wrap .i64 (i_ + 1)))) (st' := (S2_2 s_ i_ s34)) ).trans (bif_g ?_ ?_)
  · refine (ref10_Sems_Count_r6 s_ i_ s34 _).trans ?_
    refine (seqC_normal (st' := (S2_3 s_ i_ s34))).trans ?_
    kernel_rfl
  · refine (skip_eq).trans ?_
    refine (seqC_normal (st' := (S2_2 s_ i_ s34))).trans ?_
    kernel_rfl
def ref10_Sems_Count_r7_p : Option Bool := (bif (decide ((0 : Int) ≤ s34.2)) then (bif (decide (s34.2 < (s_.length : Int))) then (some ((gt s_ s34.2 (0 : Int)) == (IntKind.wrap .i64 ((IntKind.wrap .i64 (0 - i_)) - 1)))) else none) else none)
theorem ref10_Sems_Count_r7 : P2 1 C2.r.r.l.r.b.b.r.l.b.r (S2_4 s_ i_ s34 y36) k = Option.bind (ref10_Sems_Count_r7_p s_ i_ s34) (fun y37 : Bool => k ⟨[(0, .one (.cell [dl (.one (.int .i64)) s_])), (1, ri i_), (5, ri y36), (6, ri s34.2), (38, rb y37)], [], [], 42, 0⟩) := .trans (by kernel_rfl) (bif_b (bif_b some_b none_b) none_b)
abbrev S2_5 : St := ⟨[(0, .one (.cell [dl (.one (.int .i64)) s_])), (1, ri i_), (5, ri (IntKind.wrap .i64 (y36 - 1))), (6, ri s34.2)], [], [], 42, 0⟩
theorem ref10_Sems_Count_r8 : R2 C2.r.r.l.r.b.b.r.l.b.r.r.t (S2_4 s_ i_ s34 y36) q = q .normal (S2_5 s_ i_ s34 y36) := by kernel_rfl
def ref10_Sems_Count_j5x1_p : Option Int := (Option.bind (ref10_Sems_Count_j5_p s_ i_ s34) (fun y36 : Int => (Option.bind (ref10_Sems_Count_r7_p s_ i_ s34) (fun y37 : Bool => (bif y37 then (some (IntKind.wrap .i64 (y36 - 1))) else (some y36))))))
abbrev S2_6 : St := ⟨[(0, .one (.cell [dl (.one (.int .i64)) s_])), (1, ri i_), (5, ri y38), (6, ri s34.2)], [], [], 42, 0⟩
theorem ref10_Sems_Count_j5x1 : R2 C2.r.r.l.r.b.b.r.l (S2_2 s_ i_ s34) (Q2 C2.r.r.l.r.b.b.r.r q) = Option.bind (ref10_Sems_Count_j5x1_p s_ i_ s34) (fun y38 : Int => R2 C2.r.r.l.r.b.b.r.r (S2_6 s_ i_ s34 y38) q) := by
  refine .trans ?_ (bind_b fun y36 => (bind_b fun y37 => (bif_b some_b some_b)))
  refine (block_push (id := 1)).trans ?_
  refine .trans seq_push ?_
  refine (ref10_Sems_Count_j5 s_ i_ s34 _).trans (bind_g fun y36 => ?_)
  refine (pre1 (ref10_Sems_Count_r7 s_ i_ s34 y36 _)).trans (bind_g fun y37 => ?_)
  refine (cond_e (b := y37) (st' := (S2_4 s_ i_ s34 y36)) ).trans (bif_g ?_ ?_)
  · refine (ref10_Sems_Count_r8 s_ i_ s34 y36 _).trans ?_
    refine block_normal.trans ?_
    refine (seqC_normal (st' := (S2_5 s_ i_ s34 y36))).trans ?_
    kernel_rfl
  · refine (skip_eq).trans ?_
    refine block_normal.trans ?_
    refine (seqC_normal (st' := (S2_4 s_ i_ s34 y36))).trans ?_
    kernel_rfl
theorem ref10_Sems_Count_r4 : R2 C2.r.r.l.r.b.b.r.r (S2_6 s_ i_ s34 y38) q = q .normal ⟨[(0, .one (.cell [dl (.one (.int .i64)) s_])), (1, ri i_), (5, ri y38), (6, ri (IntKind.wrap .i64 (s34.2 + 1)))], [], [], 42, 0⟩ := by kernel_rfl
def ref10_Sems_Count_l3_p : Option ((Int × Int) ⊕ (Int × Int)) := (bif (decide (s34.2 < (s_.length : Int))) then (Option.bind (ref10_Sems_Count_j5x1_p s_ i_ s34) (fun y38 : Int => (some (Sum.inl (y38, (IntKind.wrap .i64 (s34.2 + 1))))))) else (some (Sum.inr s34)))
abbrev S2_7 : St := ⟨[(0, .one (.cell [dl (.one (.int .i64)) s_])), (1, ri i_), (5, ri y39.1), (6, ri y39.2)], [], [], 42, 0⟩
theorem ref10_Sems_Count_l3_b : R2 C2.r.r.l.r.b.b (S2_2 s_ i_ s34) (loopKont 0 q) = Option.bind (ref10_Sems_Count_l3_p s_ i_ s34) (either (fun y : (Int × Int) => q .normal ⟨[(0, .one (.cell [dl (.one (.int .i64)) s_])), (1, ri i_), (5, ri y.1), (6, ri y.2)], [], [], 42, 0⟩) (fun y39 : (Int × Int) => q (.exit 0) (S2_7 s_ i_ y39))) := by
  refine .trans ?_ (bif_b (bind_b fun y38 => e2_0) e2_1)
  refine .trans seq_push ?_
  refine (pre1 (ref10_Sems_Count_fz s_ i_ s34 _)).trans ?_
  refine (cond_e (b := (decide (s34.2 < (s_.length : Int)))) (st' := (S2_2 s_ i_ s34)) ).trans (bif_g ?_ ?_)
  · refine (skip_eq).trans ?_
    refine (seqC_normal (st' := (S2_2 s_ i_ s34))).trans ?_
    refine .trans seq_push ?_
    refine (ref10_Sems_Count_j5x1 s_ i_ s34 _).trans (bind_g fun y38 => ?_)
    refine (ref10_Sems_Count_r4 s_ i_ s34 y38 _).trans ?_
    kernel_rfl
  · refine ((exit_eq (j := 0))).trans ?_
    refine seqC_exit.trans ?_
    kernel_rfl
theorem ref10_Sems_Count_l3 : R2 C2.r.r.l.r.b (S2_1 s_ i_) q = Option.bind (iterN (ref10_Sems_Count_l3_p s_ i_) LL ((0 : Int), (0 : Int))) (fun y39 : (Int × Int) => q (.exit 0) (S2_7 s_ i_ y39)) :=
  Eq.trans (by kernel_rfl) (loop_iter1 (S := fun s34 : (Int × Int) => (S2_2 s_ i_ s34)) (Y1 := fun y39 : (Int × Int) => ((.exit 0), (S2_7 s_ i_ y39))) (fun s q => ref10_Sems_Count_l3_b s_ i_ s q) (fun z => rfl) LL ((0 : Int), (0 : Int)))
theorem ref10_Sems_Count_fzx1 : P2 1 C2.r.r.r ⟨[(5, ri y39.1)], [], [], 42, 0⟩ k = k ⟨[(4, ri y39.1)], [], [], 42, 0⟩ := by kernel_rfl
/-- (*quilt/quiltref10.Sems).Count -/
def ref10_Sems_Count : Option Int := (Option.bind (iterN (ref10_Sems_Count_l3_p s_ i_) LL ((0 : Int), (0 : Int))) (fun y39 : (Int × Int) => (some y39.1)))
theorem ref10_Sems_Count_is : stepS E cp2 semE 18 [.one (.cell [dl (.one (.int .i64)) s_]), ri i_] = Option.bind (ref10_Sems_Count s_ i_) (fun y : Int => some (ri y : R)) := by
  refine .trans ?_ (bind_b fun y39 => some_b)
  refine (stepG_is (nt := 42) (regs := [(0, .one (.cell [dl (.one (.int .i64)) s_])), (1, ri i_)])).trans ?_
  refine (pre2 (ref10_Sems_Count_f2 s_ i_ _)).trans ?_
  refine .trans seq_push ?_
  refine (pre1 (ref10_Sems_Count_f3 s_ i_ _)).trans ?_
  refine (block_push (id := 0)).trans ?_
  refine (ref10_Sems_Count_l3 s_ i_ _).trans (bind_g fun y39 => ?_)
  refine block_same.trans ?_
  refine (seqC_normal (st' := ⟨[(5, ri y39.1)], [], [], 42, 0⟩)).trans ?_
  refine (pre1 (ref10_Sems_Count_fzx1 y39 _)).trans ?_
  refine (ret_eq).trans ?_
  kernel_rfl
noncomputable def cp3 : CallP := withC cp2 18 [(.one (.cell (.cons (.g (.sl (.one (.int .i64)))) .nil))), pI] (.one pI) (fun y : Int => y) (fun x => ref10_Sems_Count x.1.1 x.2.1)
theorem cp3_ok : PureOK E cp3 := conS eok cp2_ok semE_ok fun x => Eq.mp (by kernel_rfl) (ref10_Sems_Count_is x.1.1 x.2.1)
end
section
variable {α : Type} (i_ : Int) (c2_ : (List Int)) (c3_ : (List Int)) (k : St → Option α)
noncomputable abbrev C3 := codeOf E.P 16
noncomputable abbrev P3 := @preK α E 16 cp3 semE
abbrev S3_0 : St := ⟨[(0, rF 1), (1, ri i_)], [[.sem c2_], [dl (.one (.int .i64)) c3_]], [], 26, 2⟩
theorem ref10_Sems_Wait_f1 : P3 1 C3 (S3_0 i_ c2_ c3_) k = k (S3_0 i_ c2_ c3_) := by kernel_rfl
theorem ref10_Sems_Wait_f1000002 : P3 1 C3.r.l (S3_0 i_ c2_ c3_) k = k ⟨[(0, rF 1), (1, ri i_), (7, rb (!(ref10_there i_)))], [[.sem c2_], [dl (.one (.int .i64)) c3_]], [], 26, 2⟩ := by kernel_rfl
theorem ref10_Sems_Wait_fz : P3 1 C3.r.l.r.t (S3_0 i_ c2_ c3_) k = k ⟨[(4, ri 1)], [[.sem c2_], [dl (.one (.int .i64)) c3_]], [], 26, 2⟩ := by kernel_rfl
theorem ref10_Sems_Wait_r3 : P3 1 C3.r.r.l (S3_0 i_ c2_ c3_) k = Option.bind (ref10_Sems_Count c3_ i_) fun y44 : Int => k ⟨[(0, rF 1), (1, ri i_), (11, rb (y44 == 0))], [[.sem c2_], [dl (.one (.int .i64)) c3_]], [], 26, 2⟩ := by kernel_rfl
theorem ref10_Sems_Wait_fzx1 : P3 1 C3.r.r.l.r.t (S3_0 i_ c2_ c3_) k = k ⟨[(4, ri 20)], [[.sem c2_], [dl (.one (.int .i64)) c3_]], [], 26, 2⟩ := by kernel_rfl
def ref10_Sems_Wait_r5_p : Option (List Int) := (bif (decide (([] : List Int).length + c3_.length ≤ maxL)) then (bif (decide (([] ++ c3_).length + ([(IntKind.wrap .i64 ((IntKind.wrap .i64 (0 - i_)) - 1))] : List Int).length ≤ maxL)) then (some (([] ++ c3_) ++ [(IntKind.wrap .i64 ((IntKind.wrap .i64 (0 - i_)) - 1))])) else none) else none)
theorem ref10_Sems_Wait_r5 : P3 1 C3.r.r.r (S3_0 i_ c2_ c3_) k = Option.bind (ref10_Sems_Wait_r5_p i_ c3_) (fun y45 : (List Int) => k ⟨[], [[.sem c2_], [.ow (.one (.int .i64)) y45 (.h 1 0)]], [], 26, 2⟩) := .trans (by kernel_rfl) (bif_b (bif_b some_b none_b) none_b)
theorem ref10_Sems_Wait_fzx2 (y45 : (List Int)) (k : St → Option α) : P3 1 C3.r.r.r.r ⟨[], [[.sem c2_], [.ow (.one (.int .i64)) y45 (.h 1 0)]], [], 26, 2⟩ k = k ⟨[(4, ri 0)], [[.sem c2_], [.ow (.one (.int .i64)) y45 (.h 1 0)]], [], 26, 2⟩ := by kernel_rfl
/-- (*quilt/quiltref10.Sems).Wait -/
def ref10_Sems_Wait : Option (Int × (List Int)) := (bif (!(ref10_there i_)) then (some ((1 : Int), c3_)) else (Option.bind (ref10_Sems_Count c3_ i_) (fun y44 : Int => (bif (y44 == 0) then (some ((20 : Int), c3_)) else (Option.bind (ref10_Sems_Wait_r5_p i_ c3_) (fun y45 : (List Int) => (some ((0 : Int), y45))))))))
theorem ref10_Sems_Wait_is (k : R → Heap → Option α) : callBody E cp3 semE α 16 [rF 1, ri i_] [[.sem c2_], [dl (.one (.int .i64)) c3_]] k = Option.bind (ref10_Sems_Wait i_ c3_) (fun y : (Int × (List Int)) => k (ri y.1) [[.sem c2_], [dl (.one (.int .i64)) y.2]]) := by
  refine .trans ?_ (bif_b some_b (bind_b fun y44 => (bif_b some_b (bind_b fun y45 => some_b))))
  refine (body_is (nt := 26) (regs := [(0, rF 1), (1, ri i_)]) (by kernel_rfl) (by kernel_rfl)).trans ?_
  refine (pre1 (ref10_Sems_Wait_f1 i_ c2_ c3_ _)).trans ?_
  refine .trans seq_push ?_
  refine (pre1 (ref10_Sems_Wait_f1000002 i_ c2_ c3_ _)).trans ?_
  refine (cond_e (b := (!(ref10_there i_))) (st' := (S3_0 i_ c2_ c3_)) ).trans (bif_g ?_ ?_)
  · refine (pre1 (ref10_Sems_Wait_fz i_ c2_ c3_ _)).trans ?_
    refine (ret_eq).trans ?_
    refine seqC_ret.trans ?_
    kernel_rfl
  · refine (skip_eq).trans ?_
    refine (seqC_normal (st' := (S3_0 i_ c2_ c3_))).trans ?_
    refine .trans seq_push ?_
    refine (pre1 (ref10_Sems_Wait_r3 i_ c2_ c3_ _)).trans (bind_g fun y44 => ?_)
    refine (cond_e (b := (y44 == 0)) (st' := (S3_0 i_ c2_ c3_)) ).trans (bif_g ?_ ?_)
    · refine (pre1 (ref10_Sems_Wait_fzx1 i_ c2_ c3_ _)).trans ?_
      refine (ret_eq).trans ?_
      refine seqC_ret.trans ?_
      kernel_rfl
    · refine (skip_eq).trans ?_
      refine (seqC_normal (st' := (S3_0 i_ c2_ c3_))).trans ?_
      refine (pre1 (ref10_Sems_Wait_r5 i_ c2_ c3_ _)).trans (bind_g fun y45 => ?_)
      refine (pre1 (ref10_Sems_Wait_fzx2 c2_ y45 _)).trans ?_
      refine (ret_eq).trans ?_
      kernel_rfl
noncomputable def ce1 : CallE := withE semE 16 (decA [(.one (.ref 1 0)), pI] [(.cons .sem .nil), (.cons (.g (.sl (.one (.int .i64)))) .nil)]) (.one pI) (fun y : (Int × (List Int)) => y.1) (fun x y => [[.sem x.2.1.1], [dl (.one (.int .i64)) y.2]]) (fun x => ref10_Sems_Wait x.1.2.1 x.2.2.1.1)
theorem ce1_ok : EffOK E ce1 := conE eok cp3_ok semE_ok fun α x k => Eq.mp (by kernel_rfl) (ref10_Sems_Wait_is x.1.2.1 x.2.1.1 x.2.2.1.1 k)
end
section
variable {α : Type} (i_ : Int) (c2_ : (List Int)) (c3_ : (List Int)) (k : St → Option α)
noncomputable abbrev C4 := codeOf E.P 17
noncomputable abbrev P4 := @preK α E 17 cp3 ce1
abbrev S4_0 : St := ⟨[(0, rF 1), (1, ri i_)], [[.sem c2_], [dl (.one (.int .i64)) c3_]], [], 25, 2⟩
theorem ref10_Sems_Signal_f1 : P4 1 C4 (S4_0 i_ c2_ c3_) k = k (S4_0 i_ c2_ c3_) := by kernel_rfl
theorem ref10_Sems_Signal_f1000002 : P4 1 C4.r.l (S4_0 i_ c2_ c3_) k = k ⟨[(0, rF 1), (1, ri i_), (7, rb (!(ref10_there i_)))], [[.sem c2_], [dl (.one (.int .i64)) c3_]], [], 25, 2⟩ := by kernel_rfl
theorem ref10_Sems_Signal_fz : P4 1 C4.r.l.r.t (S4_0 i_ c2_ c3_) k = k ⟨[(4, ri 1)], [[.sem c2_], [dl (.one (.int .i64)) c3_]], [], 25, 2⟩ := by kernel_rfl
theorem ref10_Sems_Signal_r3 : P4 1 C4.r.r.l (S4_0 i_ c2_ c3_) k = Option.bind (ref10_Sems_Count c3_ i_) fun y55 : Int => k ⟨[(0, rF 1), (1, ri i_), (11, rb (decide (y55 ≥ 15)))], [[.sem c2_], [dl (.one (.int .i64)) c3_]], [], 25, 2⟩ := by kernel_rfl
theorem ref10_Sems_Signal_fzx1 : P4 1 C4.r.r.l.r.t (S4_0 i_ c2_ c3_) k = k ⟨[(4, ri 22)], [[.sem c2_], [dl (.one (.int .i64)) c3_]], [], 25, 2⟩ := by kernel_rfl
def ref10_Sems_Signal_r5_p : Option Unit := (bif (decide (([] : List Int).length + c3_.length ≤ maxL)) then (bif (decide (([] ++ c3_).length + ([(IntKind.wrap .i64 (i_ + 1))] : List Int).length ≤ maxL)) then (some ()) else none) else none)
abbrev S4_1 : St := ⟨[], [[.sem c2_], [.ow (.one (.int .i64)) (([] ++ c3_) ++ [(IntKind.wrap .i64 (i_ + 1))]) (.h 1 0)]], [], 25, 2⟩
theorem ref10_Sems_Signal_r5 : P4 1 C4.r.r.r (S4_0 i_ c2_ c3_) k = Option.bind (ref10_Sems_Signal_r5_p i_ c3_) (fun y56 : Unit => k (S4_1 i_ c2_ c3_)) := .trans (by kernel_rfl) (bif_b (bif_b some_b none_b) none_b)
theorem ref10_Sems_Signal_fzx2 : P4 1 C4.r.r.r.r (S4_1 i_ c2_ c3_) k = k ⟨[(4, ri 0)], [[.sem c2_], [.ow (.one (.int .i64)) (([] ++ c3_) ++ [(IntKind.wrap .i64 (i_ + 1))]) (.h 1 0)]], [], 25, 2⟩ := by kernel_rfl
/-- (*quilt/quiltref10.Sems).Signal -/
def ref10_Sems_Signal : Option (Int × (List Int)) := (bif (!(ref10_there i_)) then (some ((1 : Int), c3_)) else (Option.bind (ref10_Sems_Count c3_ i_) (fun y55 : Int => (bif (decide (y55 ≥ 15)) then (some ((22 : Int), c3_)) else (Option.bind (ref10_Sems_Signal_r5_p i_ c3_) (fun y56 : Unit => (some ((0 : Int), (([] ++ c3_) ++ [(IntKind.wrap .i64 (i_ + 1))])))))))))
theorem ref10_Sems_Signal_is (k : R → Heap → Option α) : callBody E cp3 ce1 α 17 [rF 1, ri i_] [[.sem c2_], [dl (.one (.int .i64)) c3_]] k = Option.bind (ref10_Sems_Signal i_ c3_) (fun y : (Int × (List Int)) => k (ri y.1) [[.sem c2_], [dl (.one (.int .i64)) y.2]]) := by
  refine .trans ?_ (bif_b some_b (bind_b fun y55 => (bif_b some_b (bind_b fun y56 => some_b))))
  refine (body_is (nt := 25) (regs := [(0, rF 1), (1, ri i_)]) (by kernel_rfl) (by kernel_rfl)).trans ?_
  refine (pre1 (ref10_Sems_Signal_f1 i_ c2_ c3_ _)).trans ?_
  refine .trans seq_push ?_
  refine (pre1 (ref10_Sems_Signal_f1000002 i_ c2_ c3_ _)).trans ?_
  refine (cond_e (b := (!(ref10_there i_))) (st' := (S4_0 i_ c2_ c3_)) ).trans (bif_g ?_ ?_)
  · refine (pre1 (ref10_Sems_Signal_fz i_ c2_ c3_ _)).trans ?_
    refine (ret_eq).trans ?_
    refine seqC_ret.trans ?_
    kernel_rfl
  · refine (skip_eq).trans ?_
    refine (seqC_normal (st' := (S4_0 i_ c2_ c3_))).trans ?_
    refine .trans seq_push ?_
    refine (pre1 (ref10_Sems_Signal_r3 i_ c2_ c3_ _)).trans (bind_g fun y55 => ?_)
    refine (cond_e (b := (decide (y55 ≥ 15))) (st' := (S4_0 i_ c2_ c3_)) ).trans (bif_g ?_ ?_)
    · refine (pre1 (ref10_Sems_Signal_fzx1 i_ c2_ c3_ _)).trans ?_
      refine (ret_eq).trans ?_
      refine seqC_ret.trans ?_
      kernel_rfl
    · refine (skip_eq).trans ?_
      refine (seqC_normal (st' := (S4_0 i_ c2_ c3_))).trans ?_
      refine (pre1 (ref10_Sems_Signal_r5 i_ c2_ c3_ _)).trans (bind_g fun y56 => ?_)
      refine (pre1 (ref10_Sems_Signal_fzx2 i_ c2_ c3_ _)).trans ?_
      refine (ret_eq).trans ?_
      kernel_rfl
noncomputable def ce2 : CallE := withE ce1 17 (decA [(.one (.ref 1 0)), pI] [(.cons .sem .nil), (.cons (.g (.sl (.one (.int .i64)))) .nil)]) (.one pI) (fun y : (Int × (List Int)) => y.1) (fun x y => [[.sem x.2.1.1], [dl (.one (.int .i64)) y.2]]) (fun x => ref10_Sems_Signal x.1.2.1 x.2.2.1.1)
theorem ce2_ok : EffOK E ce2 := conE eok cp3_ok ce1_ok fun α x k => Eq.mp (by kernel_rfl) (ref10_Sems_Signal_is x.1.2.1 x.2.1.1 x.2.2.1.1 k)
end
section
variable {α : Type} (c1_ : (List Int)) (c2_ : (List Int)) (y77 : (List Int)) (y114 : (List Int)) (s132 : (Int × (List Int))) (s145 : (Int × (List Int))) (y147 : (Int × (List Int))) (y148 : (Int × (List Int))) (y149 : (Int × (List Int))) (k : St → Option α) (q : Kont α)
noncomputable abbrev C5 := codeOf E.P 15
noncomputable abbrev P5 := @preK α E 15 cp3 ce2
noncomputable abbrev R5 := @runCode α E 15 cp3 ce2
abbrev S5_0 : St := ⟨[(0, rF 0), (3, rF 2)], [[.sem c1_], [dl (.one (.int .i64)) c2_], [.sem y77]], [], 24, 2⟩
theorem sema_Sems_Clone_r1 : P5 2 C5 ⟨[(0, rF 0)], [[.sem c1_], [dl (.one (.int .i64)) c2_]], [], 24, 2⟩ k = Option.bind semNew fun y77 : (List Int) => k (S5_0 c1_ c2_ y77) := by kernel_rfl
abbrev S5_1 : St := ⟨[(3, rF 2), (8, rl (.one (.int .i64)) y114), (9, ri (y114.length : Int)), (10, ri 0)], [[.sem c1_], [dl (.one (.int .i64)) c2_], [.sem y77]], [], 24, 2⟩
theorem sema_Sems_Clone_r2 : P5 1 C5.r.r.l (S5_0 c1_ c2_ y77) k = Option.bind (semAll c1_) fun y114 : (List Int) => k (S5_1 c1_ c2_ y77 y114) := by kernel_rfl
abbrev S5_2 : St := ⟨[(3, rF 2), (8, rl (.one (.int .i64)) y114), (9, ri (y114.length : Int)), (10, ri s132.1)], [[.sem c1_], [dl (.one (.int .i64)) c2_], [.sem s132.2]], [], 24, 2⟩
theorem sema_Sems_Clone_fz : P5 1 C5.r.r.l.r.b.b (S5_2 c1_ c2_ y114 s132) k = k ⟨[(3, rF 2), (8, rl (.one (.int .i64)) y114), (9, ri (y114.length : Int)), (10, ri s132.1), (11, rb (decide (s132.1 < (y114.length : Int))))], [[.sem c1_], [dl (.one (.int .i64)) c2_], [.sem s132.2]], [], 24, 2⟩ := by kernel_rfl
def sema_Sems_Clone_r4_p : Option Unit := (bif (decide ((0 : Int) ≤ s132.1)) then (bif (decide (s132.1 < (y114.length : Int))) then (some ()) else none) else none)
abbrev S5_3 : St := ⟨[(3, rF 2), (4, ri s132.1), (5, ri (gt y114 s132.1 (0 : Int))), (8, rl (.one (.int .i64)) y114), (9, ri (y114.length : Int)), (10, ri s132.1)], [[.sem c1_], [dl (.one (.int .i64)) c2_], [.sem s132.2]], [], 24, 2⟩
theorem sema_Sems_Clone_r4 : P5 1 C5.r.r.l.r.b.b.r.r.l.b (S5_2 c1_ c2_ y114 s132) k = Option.bind (sema_Sems_Clone_r4_p y114 s132) (fun y141 : Unit => k (S5_3 c1_ c2_ y114 s132)) := .trans (by kernel_rfl) (bif_b (bif_b some_b none_b) none_b)
abbrev S5_4 : St := ⟨[(3, rF 2), (4, ri s132.1), (8, rl (.one (.int .i64)) y114), (9, ri (y114.length : Int)), (10, ri s132.1), (15, ri (gt y114 s132.1 (0 : Int))), (16, ri 0)], [[.sem c1_], [dl (.one (.int .i64)) c2_], [.sem s132.2]], [], 24, 2⟩
theorem sema_Sems_Clone_f6 : P5 1 C5.r.r.l.r.b.b.r.r.l.b.r (S5_3 c1_ c2_ y114 s132) k = k (S5_4 c1_ c2_ y114 s132) := by kernel_rfl
abbrev S5_5 : St := ⟨[(3, rF 2), (4, ri s132.1), (8, rl (.one (.int .i64)) y114), (9, ri (y114.length : Int)), (10, ri s132.1), (15, ri (gt y114 s132.1 (0 : Int))), (16, ri s145.1)], [[.sem c1_], [dl (.one (.int .i64)) c2_], [.sem s145.2]], [], 24, 2⟩
theorem sema_Sems_Clone_fzx1 : P5 1 C5.r.r.l.r.b.b.r.r.l.b.r.r.b.b (S5_5 c1_ c2_ y114 s132 s145) k = k ⟨[(3, rF 2), (4, ri s132.1), (8, rl (.one (.int .i64)) y114), (9, ri (y114.length : Int)), (10, ri s132.1), (15, ri (gt y114 s132.1 (0 : Int))), (16, ri s145.1), (17, rb (decide (s145.1 < (gt y114 s132.1 (0 : Int)))))], [[.sem c1_], [dl (.one (.int .i64)) c2_], [.sem s145.2]], [], 24, 2⟩ := by kernel_rfl
abbrev S5_6 : St := ⟨[(3, rF 2), (4, ri s132.1), (8, rl (.one (.int .i64)) y114), (9, ri (y114.length : Int)), (10, ri s132.1), (15, ri (gt y114 s132.1 (0 : Int))), (16, ri s145.1)], [[.sem c1_], [dl (.one (.int .i64)) c2_], [.sem y147.2]], [], 24, 2⟩
theorem sema_Sems_Clone_r7 : R5 C5.r.r.l.r.b.b.r.r.l.b.r.r.b.b.r.r.l.b (S5_5 c1_ c2_ y114 s132 s145) q = Option.bind (semSignal s145.2 s132.1) fun y147 : (Int × (List Int)) => q .normal (S5_6 c1_ c2_ y114 s132 s145 y147) := by kernel_rfl
theorem sema_Sems_Clone_r8 : R5 C5.r.r.l.r.b.b.r.r.l.b.r.r.b.b.r.r.r (S5_6 c1_ c2_ y114 s132 s145 y147) q = q .normal ⟨[(3, rF 2), (4, ri s132.1), (8, rl (.one (.int .i64)) y114), (9, ri (y114.length : Int)), (10, ri s132.1), (15, ri (gt y114 s132.1 (0 : Int))), (16, ri (IntKind.wrap .i64 (s145.1 + 1)))], [[.sem c1_], [dl (.one (.int .i64)) c2_], [.sem y147.2]], [], 24, 2⟩ := by kernel_rfl
def sema_Sems_Clone_l6_p : Option ((Int × (List Int)) ⊕ (Int × (List Int))) := (bif (decide (s145.1 < (gt y114 s132.1 (0 : Int)))) then (Option.bind (semSignal s145.2 s132.1) (fun y147 : (Int × (List Int)) => (some (Sum.inl ((IntKind.wrap .i64 (s145.1 + 1)), y147.2))))) else (some (Sum.inr s145)))
abbrev S5_7 : St := ⟨[(3, rF 2), (4, ri s132.1), (8, rl (.one (.int .i64)) y114), (9, ri (y114.length : Int)), (10, ri s132.1), (15, ri (gt y114 s132.1 (0 : Int))), (16, ri y148.1)], [[.sem c1_], [dl (.one (.int .i64)) c2_], [.sem y148.2]], [], 24, 2⟩
theorem sema_Sems_Clone_l6_b : R5 C5.r.r.l.r.b.b.r.r.l.b.r.r.b.b (S5_5 c1_ c2_ y114 s132 s145) (loopKont 3 q) = Option.bind (sema_Sems_Clone_l6_p y114 s132 s145) (either (fun y : (Int × (List Int)) => q .normal ⟨[(3, rF 2), (4, ri s132.1), (8, rl (.one (.int .i64)) y114), (9, ri (y114.length : Int)), (10, ri s132.1), (15, ri (gt y114 s132.1 (0 : Int))), (16, ri y.1)], [[.sem c1_], [dl (.one (.int .i64)) c2_], [.sem y.2]], [], 24, 2⟩) (fun y148 : (Int × (List Int)) => q (.exit 2) (S5_7 c1_ c2_ y114 s132 y148))) := by
  refine .trans ?_ (bif_b (bind_b fun y147 => e2_0) e2_1)
  refine (pre1 (sema_Sems_Clone_fzx1 c1_ c2_ y114 s132 s145 _)).trans ?_
  refine .trans seq_push ?_
  refine (cond_e (b := (decide (s145.1 < (gt y114 s132.1 (0 : Int))))) (st' := (S5_5 c1_ c2_ y114 s132 s145)) ).trans (bif_g ?_ ?_)
  · refine (skip_eq).trans ?_
    refine (seqC_normal (st' := (S5_5 c1_ c2_ y114 s132 s145))).trans ?_
    refine .trans seq_push ?_
    refine (block_push (id := 3)).trans ?_
    refine (sema_Sems_Clone_r7 c1_ c2_ y114 s132 s145 _).trans (bind_g fun y147 => ?_)
    refine block_normal.trans ?_
    refine (seqC_normal (st' := (S5_6 c1_ c2_ y114 s132 s145 y147))).trans ?_
    refine (sema_Sems_Clone_r8 c1_ c2_ y114 s132 s145 y147 _).trans ?_
    kernel_rfl
  · refine ((exit_eq (j := 2))).trans ?_
    refine seqC_exit.trans ?_
    kernel_rfl
theorem sema_Sems_Clone_l6 : R5 C5.r.r.l.r.b.b.r.r.l.b.r.r.b (S5_4 c1_ c2_ y114 s132) q = Option.bind (iterN (sema_Sems_Clone_l6_p y114 s132) LL ((0 : Int), s132.2)) (fun y148 : (Int × (List Int)) => q (.exit 2) (S5_7 c1_ c2_ y114 s132 y148)) :=
  Eq.trans (by kernel_rfl) (loop_iter1 (S := fun s145 : (Int × (List Int)) => (S5_5 c1_ c2_ y114 s132 s145)) (Y1 := fun y148 : (Int × (List Int)) => ((.exit 2), (S5_7 c1_ c2_ y114 s132 y148))) (fun s q => sema_Sems_Clone_l6_b c1_ c2_ y114 s132 s q) (fun z => rfl) LL ((0 : Int), s132.2))
abbrev S5_8 : St := ⟨[(3, rF 2), (8, rl (.one (.int .i64)) y114), (9, ri (y114.length : Int)), (10, ri s132.1)], [[.sem c1_], [dl (.one (.int .i64)) c2_], [.sem y148.2]], [], 24, 2⟩
theorem sema_Sems_Clone_r9 : R5 C5.r.r.l.r.b.b.r.r.r (S5_8 c1_ c2_ y114 s132 y148) q = q .normal ⟨[(3, rF 2), (8, rl (.one (.int .i64)) y114), (9, ri (y114.length : Int)), (10, ri (IntKind.wrap .i64 (s132.1 + 1)))], [[.sem c1_], [dl (.one (.int .i64)) c2_], [.sem y148.2]], [], 24, 2⟩ := by kernel_rfl
def sema_Sems_Clone_l3_p : Option ((Int × (List Int)) ⊕ (Int × (List Int))) := (bif (decide (s132.1 < (y114.length : Int))) then (Option.bind (sema_Sems_Clone_r4_p y114 s132) (fun y141 : Unit => (Option.bind (iterN (sema_Sems_Clone_l6_p y114 s132) LL ((0 : Int), s132.2)) (fun y148 : (Int × (List Int)) => (some (Sum.inl ((IntKind.wrap .i64 (s132.1 + 1)), y148.2))))))) else (some (Sum.inr s132)))
abbrev S5_9 : St := ⟨[(3, rF 2), (8, rl (.one (.int .i64)) y114), (9, ri (y114.length : Int)), (10, ri y149.1)], [[.sem c1_], [dl (.one (.int .i64)) c2_], [.sem y149.2]], [], 24, 2⟩
theorem sema_Sems_Clone_l3_b : R5 C5.r.r.l.r.b.b (S5_2 c1_ c2_ y114 s132) (loopKont 3 q) = Option.bind (sema_Sems_Clone_l3_p y114 s132) (either (fun y : (Int × (List Int)) => q .normal ⟨[(3, rF 2), (8, rl (.one (.int .i64)) y114), (9, ri (y114.length : Int)), (10, ri y.1)], [[.sem c1_], [dl (.one (.int .i64)) c2_], [.sem y.2]], [], 24, 2⟩) (fun y149 : (Int × (List Int)) => q (.exit 0) (S5_9 c1_ c2_ y114 y149))) := by
  refine .trans ?_ (bif_b (bind_b fun y141 => (bind_b fun y148 => e2_0)) e2_1)
  refine (pre1 (sema_Sems_Clone_fz c1_ c2_ y114 s132 _)).trans ?_
  refine .trans seq_push ?_
  refine (cond_e (b := (decide (s132.1 < (y114.length : Int)))) (st' := (S5_2 c1_ c2_ y114 s132)) ).trans (bif_g ?_ ?_)
  · refine (skip_eq).trans ?_
    refine (seqC_normal (st' := (S5_2 c1_ c2_ y114 s132))).trans ?_
    refine .trans seq_push ?_
    refine (block_push (id := 1)).trans ?_
    refine (pre1 (sema_Sems_Clone_r4 c1_ c2_ y114 s132 _)).trans (bind_g fun y141 => ?_)
    refine (pre1 (sema_Sems_Clone_f6 c1_ c2_ y114 s132 _)).trans ?_
    refine (block_push (id := 2)).trans ?_
    refine (sema_Sems_Clone_l6 c1_ c2_ y114 s132 _).trans (bind_g fun y148 => ?_)
    refine block_same.trans ?_
    refine block_normal.trans ?_
    refine (seqC_normal (st' := (S5_8 c1_ c2_ y114 s132 y148))).trans ?_
    refine (sema_Sems_Clone_r9 c1_ c2_ y114 s132 y148 _).trans ?_
    kernel_rfl
  · refine ((exit_eq (j := 0))).trans ?_
    refine seqC_exit.trans ?_
    kernel_rfl
theorem sema_Sems_Clone_l3 : R5 C5.r.r.l.r.b (S5_1 c1_ c2_ y77 y114) q = Option.bind (iterN (sema_Sems_Clone_l3_p y114) LL ((0 : Int), y77)) (fun y149 : (Int × (List Int)) => q (.exit 0) (S5_9 c1_ c2_ y114 y149)) :=
  Eq.trans (by kernel_rfl) (loop_iter1 (S := fun s132 : (Int × (List Int)) => (S5_2 c1_ c2_ y114 s132)) (Y1 := fun y149 : (Int × (List Int)) => ((.exit 0), (S5_9 c1_ c2_ y114 y149))) (fun s q => sema_Sems_Clone_l3_b c1_ c2_ y114 s q) (fun z => rfl) LL ((0 : Int), y77))
abbrev S5_10 : St := ⟨[(3, rF 2)], [[.sem c1_], [dl (.one (.int .i64)) c2_], [.sem y149.2]], [], 24, 2⟩
theorem sema_Sems_Clone_fzx2 : P5 1 C5.r.r.r (S5_10 c1_ c2_ y149) k = k ⟨[(2, rF 2)], [[.sem c1_], [dl (.one (.int .i64)) c2_], [.sem y149.2]], [], 24, 2⟩ := by kernel_rfl
/-- (*quilt/sema.Sems).Clone -/
def sema_Sems_Clone : Option (Unit × (List Int)) := (Option.bind semNew (fun y77 : (List Int) => (Option.bind (semAll c1_) (fun y114 : (List Int) => (Option.bind (iterN (sema_Sems_Clone_l3_p y114) LL ((0 : Int), y77)) (fun y149 : (Int × (List Int)) => (some ((), y149.2))))))))
theorem sema_Sems_Clone_is (k : R → Heap → Option α) : callBody E cp3 ce2 α 15 [rF 0] [[.sem c1_], [dl (.one (.int .i64)) c2_]] k = Option.bind (sema_Sems_Clone c1_) (fun y : (Unit × (List Int)) => k (.one (.ref 2 0)) [[.sem c1_], [dl (.one (.int .i64)) c2_], [.sem y.2]]) := by
  refine .trans ?_ (bind_b fun y77 => (bind_b fun y114 => (bind_b fun y149 => some_b)))
  refine (body_is (nt := 24) (regs := [(0, rF 0)]) (by kernel_rfl) (by kernel_rfl)).trans ?_
  refine (pre2 (sema_Sems_Clone_r1 c1_ c2_ _)).trans (bind_g fun y77 => ?_)
  refine .trans seq_push ?_
  refine (pre1 (sema_Sems_Clone_r2 c1_ c2_ y77 _)).trans (bind_g fun y114 => ?_)
  refine (block_push (id := 0)).trans ?_
  refine (sema_Sems_Clone_l3 c1_ c2_ y77 y114 _).trans (bind_g fun y149 => ?_)
  refine block_same.trans ?_
  refine (seqC_normal (st' := (S5_10 c1_ c2_ y149))).trans ?_
  refine (pre1 (sema_Sems_Clone_fzx2 c1_ c2_ y149 _)).trans ?_
  refine (ret_eq).trans ?_
  kernel_rfl
noncomputable def ce3 : CallE := withE ce2 15 (decA [(.one (.ref 0 0))] [(.cons .sem .nil), (.cons (.g (.sl (.one (.int .i64)))) .nil)]) (.one (.one (.ref 2 0))) (fun y : (Unit × (List Int)) => y.1) (fun x y => [[.sem x.2.1.1], [dl (.one (.int .i64)) x.2.2.1.1], [.sem y.2]]) (fun x => sema_Sems_Clone x.2.1.1)
theorem ce3_ok : EffOK E ce3 := conE eok cp3_ok ce2_ok fun α x k => Eq.mp (by kernel_rfl) (sema_Sems_Clone_is x.2.1.1 x.2.2.1.1 k)
end
section
variable {α : Type} (c1_ : (List Int)) (c2_ : (List Int)) (s311 : ((List Int) × Int)) (y315 : (List Int)) (y316 : ((List Int) × Int)) (k : St → Option α) (q : Kont α)
noncomputable abbrev C6 := codeOf E.P 19
noncomputable abbrev P6 := @preK α E 19 cp3 ce3
noncomputable abbrev R6 := @runCode α E 19 cp3 ce3
abbrev S6_0 : St := ⟨[(0, rF 1), (3, .one (.ow (.one (.int .i64)) [] (.v 3)))], [[.sem c1_], [dl (.one (.int .i64)) c2_]], [], 17, 2⟩
theorem ref10_Sems_All_f2 : P6 2 C6 ⟨[(0, rF 1)], [[.sem c1_], [dl (.one (.int .i64)) c2_]], [], 17, 2⟩ k = k (S6_0 c1_ c2_) := by kernel_rfl
abbrev S6_1 : St := ⟨[(0, rF 1), (3, .one (.ow (.one (.int .i64)) [] (.v 3))), (4, ri 0)], [[.sem c1_], [dl (.one (.int .i64)) c2_]], [], 17, 2⟩
theorem ref10_Sems_All_f3 : P6 1 C6.r.r.l (S6_0 c1_ c2_) k = k (S6_1 c1_ c2_) := by kernel_rfl
abbrev S6_2 : St := ⟨[(0, rF 1), (3, .one (.ow (.one (.int .i64)) s311.1 (.v 3))), (4, ri s311.2)], [[.sem c1_], [dl (.one (.int .i64)) c2_]], [], 17, 2⟩
theorem ref10_Sems_All_fz : P6 1 C6.r.r.l.r.b.b.l (S6_2 c1_ c2_ s311) k = k ⟨[(0, rF 1), (3, .one (.ow (.one (.int .i64)) s311.1 (.v 3))), (4, ri s311.2), (7, rb (decide (s311.2 < 8)))], [[.sem c1_], [dl (.one (.int .i64)) c2_]], [], 17, 2⟩ := by kernel_rfl
def ref10_Sems_All_r5_p : Option (List Int) := (Option.bind (ref10_Sems_Count c2_ s311.2) (fun y314 : Int => (bif (decide (s311.1.length + ([y314] : List Int).length ≤ maxL)) then (some (s311.1 ++ [y314])) else none)))
abbrev S6_3 : St := ⟨[(0, rF 1), (3, .one (.ow (.one (.int .i64)) y315 (.v 3))), (4, ri s311.2)], [[.sem c1_], [dl (.one (.int .i64)) c2_]], [], 17, 2⟩
theorem ref10_Sems_All_r5 : R6 C6.r.r.l.r.b.b.r.l.b (S6_2 c1_ c2_ s311) q = Option.bind (ref10_Sems_All_r5_p c2_ s311) (fun y315 : (List Int) => q .normal (S6_3 c1_ c2_ s311 y315)) := .trans (by kernel_rfl) (bind_b fun y314 => (bif_b some_b none_b))
theorem ref10_Sems_All_r4 : R6 C6.r.r.l.r.b.b.r.r (S6_3 c1_ c2_ s311 y315) q = q .normal ⟨[(0, rF 1), (3, .one (.ow (.one (.int .i64)) y315 (.v 3))), (4, ri (IntKind.wrap .i64 (s311.2 + 1)))], [[.sem c1_], [dl (.one (.int .i64)) c2_]], [], 17, 2⟩ := by kernel_rfl
def ref10_Sems_All_l3_p : Option (((List Int) × Int) ⊕ ((List Int) × Int)) := (bif (decide (s311.2 < 8)) then (Option.bind (ref10_Sems_All_r5_p c2_ s311) (fun y315 : (List Int) => (some (Sum.inl (y315, (IntKind.wrap .i64 (s311.2 + 1))))))) else (some (Sum.inr s311)))
abbrev S6_4 : St := ⟨[(0, rF 1), (3, .one (.ow (.one (.int .i64)) y316.1 (.v 3))), (4, ri y316.2)], [[.sem c1_], [dl (.one (.int .i64)) c2_]], [], 17, 2⟩
theorem ref10_Sems_All_l3_b : R6 C6.r.r.l.r.b.b (S6_2 c1_ c2_ s311) (loopKont 2 q) = Option.bind (ref10_Sems_All_l3_p c2_ s311) (either (fun y : ((List Int) × Int) => q .normal ⟨[(0, rF 1), (3, .one (.ow (.one (.int .i64)) y.1 (.v 3))), (4, ri y.2)], [[.sem c1_], [dl (.one (.int .i64)) c2_]], [], 17, 2⟩) (fun y316 : ((List Int) × Int) => q (.exit 0) (S6_4 c1_ c2_ y316))) := by
  refine .trans ?_ (bif_b (bind_b fun y315 => e2_0) e2_1)
  refine .trans seq_push ?_
  refine (pre1 (ref10_Sems_All_fz c1_ c2_ s311 _)).trans ?_
  refine (cond_e (b := (decide (s311.2 < 8))) (st' := (S6_2 c1_ c2_ s311)) ).trans (bif_g ?_ ?_)
  · refine (skip_eq).trans ?_
    refine (seqC_normal (st' := (S6_2 c1_ c2_ s311))).trans ?_
    refine .trans seq_push ?_
    refine (block_push (id := 1)).trans ?_
    refine (ref10_Sems_All_r5 c1_ c2_ s311 _).trans (bind_g fun y315 => ?_)
    refine block_normal.trans ?_
    refine (seqC_normal (st' := (S6_3 c1_ c2_ s311 y315))).trans ?_
    refine (ref10_Sems_All_r4 c1_ c2_ s311 y315 _).trans ?_
    kernel_rfl
  · refine ((exit_eq (j := 0))).trans ?_
    refine seqC_exit.trans ?_
    kernel_rfl
theorem ref10_Sems_All_l3 : R6 C6.r.r.l.r.b (S6_1 c1_ c2_) q = Option.bind (iterN (ref10_Sems_All_l3_p c2_) LL ([], (0 : Int))) (fun y316 : ((List Int) × Int) => q (.exit 0) (S6_4 c1_ c2_ y316)) :=
  Eq.trans (by kernel_rfl) (loop_iter1 (S := fun s311 : ((List Int) × Int) => (S6_2 c1_ c2_ s311)) (Y1 := fun y316 : ((List Int) × Int) => ((.exit 0), (S6_4 c1_ c2_ y316))) (fun s q => ref10_Sems_All_l3_b c1_ c2_ s q) (fun z => rfl) LL ([], (0 : Int)))
abbrev S6_5 : St := ⟨[(3, .one (.ow (.one (.int .i64)) y316.1 (.v 3)))], [[.sem c1_], [dl (.one (.int .i64)) c2_]], [], 17, 2⟩
theorem ref10_Sems_All_fzx1 : P6 1 C6.r.r.r (S6_5 c1_ c2_ y316) k = k ⟨[(2, .one (.ow (.one (.int .i64)) y316.1 (.v 3)))], [[.sem c1_], [dl (.one (.int .i64)) c2_]], [], 17, 2⟩ := by kernel_rfl
/-- (*quilt/quiltref10.Sems).All -/
def ref10_Sems_All : Option (List Int) := (Option.bind (iterN (ref10_Sems_All_l3_p c2_) LL ([], (0 : Int))) (fun y316 : ((List Int) × Int) => (some y316.1)))
theorem ref10_Sems_All_is (k : R → Heap → Option α) : callBody E cp3 ce3 α 19 [rF 1] [[.sem c1_], [dl (.one (.int .i64)) c2_]] k = Option.bind (ref10_Sems_All c2_) (fun y : (List Int) => k (rl (.one (.int .i64)) y) [[.sem c1_], [dl (.one (.int .i64)) c2_]]) := by
  refine .trans ?_ (bind_b fun y316 => some_b)
  refine (body_is (nt := 17) (regs := [(0, rF 1)]) (by kernel_rfl) (by kernel_rfl)).trans ?_
  refine (pre2 (ref10_Sems_All_f2 c1_ c2_ _)).trans ?_
  refine .trans seq_push ?_
  refine (pre1 (ref10_Sems_All_f3 c1_ c2_ _)).trans ?_
  refine (block_push (id := 0)).trans ?_
  refine (ref10_Sems_All_l3 c1_ c2_ _).trans (bind_g fun y316 => ?_)
  refine block_same.trans ?_
  refine (seqC_normal (st' := (S6_5 c1_ c2_ y316))).trans ?_
  refine (pre1 (ref10_Sems_All_fzx1 c1_ c2_ y316 _)).trans ?_
  refine (ret_eq).trans ?_
  kernel_rfl
noncomputable def ce4 : CallE := withE ce3 19 (decA [(.one (.ref 1 0))] [(.cons .sem .nil), (.cons (.g (.sl (.one (.int .i64)))) .nil)]) (.one (.one (.g (.sl (.one (.int .i64)))))) (fun y : (List Int) => y) (fun x y => [[.sem x.2.1.1], [dl (.one (.int .i64)) x.2.2.1.1]]) (fun x => ref10_Sems_All x.2.2.1.1)
theorem ce4_ok : EffOK E ce4 := conE eok cp3_ok ce3_ok fun α x k => Eq.mp (by kernel_rfl) (ref10_Sems_All_is x.2.1.1 x.2.2.1.1 k)
end
section
variable {α : Type} (a_ : (List Int)) (b_ : (List Int)) (s329 : Int) (k : St → Option α) (q : Kont α)
noncomputable abbrev C7 := codeOf E.P 21
noncomputable abbrev P7 := @preK α E 21 cp3 ce4
noncomputable abbrev R7 := @runCode α E 21 cp3 ce4
abbrev S7_0 : St := ⟨[(0, rl (.one (.int .i64)) a_), (1, rl (.one (.int .i64)) b_)], [], [], 26, 0⟩
theorem ref03_ints_f1 : P7 1 C7 (S7_0 a_ b_) k = k (S7_0 a_ b_) := by kernel_rfl
theorem ref03_ints_f1000002 : P7 1 C7.r.l (S7_0 a_ b_) k = k ⟨[(0, rl (.one (.int .i64)) a_), (1, rl (.one (.int .i64)) b_), (10, rb ((a_.length : Int) != (b_.length : Int)))], [], [], 26, 0⟩ := by kernel_rfl
abbrev S7_1 : St := ⟨[(4, rb false)], [], [], 26, 0⟩
theorem ref03_ints_fz : P7 1 C7.r.l.r.t (S7_0 a_ b_) k = k S7_1 := by kernel_rfl
abbrev S7_2 : St := ⟨[(0, rl (.one (.int .i64)) a_), (1, rl (.one (.int .i64)) b_), (5, ri 0)], [], [], 26, 0⟩
theorem ref03_ints_f4 : P7 1 C7.r.r.l (S7_0 a_ b_) k = k (S7_2 a_ b_) := by kernel_rfl
abbrev S7_3 : St := ⟨[(0, rl (.one (.int .i64)) a_), (1, rl (.one (.int .i64)) b_), (5, ri s329)], [], [], 26, 0⟩
theorem ref03_ints_fzx1 : P7 1 C7.r.r.l.r.b.b.l (S7_3 a_ b_ s329) k = k ⟨[(0, rl (.one (.int .i64)) a_), (1, rl (.one (.int .i64)) b_), (5, ri s329), (14, rb (decide (s329 < (a_.length : Int))))], [], [], 26, 0⟩ := by kernel_rfl
def ref03_ints_r6_p : Option Unit := (bif (decide ((0 : Int) ≤ s329)) then (bif (decide (s329 < (a_.length : Int))) then (bif (decide ((0 : Int) ≤ s329)) then (bif (decide (s329 < (b_.length : Int))) then (some ()) else none) else none) else none) else none)
theorem ref03_ints_r6 : P7 1 C7.r.r.l.r.b.b.r.l.b (S7_3 a_ b_ s329) k = Option.bind (ref03_ints_r6_p a_ b_ s329) (fun y331 : Unit => k ⟨[(0, rl (.one (.int .i64)) a_), (1, rl (.one (.int .i64)) b_), (5, ri s329), (25, rb ((gt a_ s329 (0 : Int)) != (gt b_ s329 (0 : Int))))], [], [], 26, 0⟩) := .trans (by kernel_rfl) (bif_b (bif_b (bif_b (bif_b some_b none_b) none_b) none_b) none_b)
theorem ref03_ints_fzx2 : P7 1 C7.r.r.l.r.b.b.r.l.b.r.t (S7_3 a_ b_ s329) k = k S7_1 := by kernel_rfl
theorem ref03_ints_r5 : R7 C7.r.r.l.r.b.b.r.r (S7_3 a_ b_ s329) q = q .normal ⟨[(0, rl (.one (.int .i64)) a_), (1, rl (.one (.int .i64)) b_), (5, ri (IntKind.wrap .i64 (s329 + 1)))], [], [], 26, 0⟩ := by kernel_rfl
def ref03_ints_l4_p : Option (Int ⊕ (Int ⊕ Unit)) := (bif (decide (s329 < (a_.length : Int))) then (Option.bind (ref03_ints_r6_p a_ b_ s329) (fun y331 : Unit => (bif ((gt a_ s329 (0 : Int)) != (gt b_ s329 (0 : Int))) then (some (Sum.inr (Sum.inr ()))) else (some (Sum.inl (IntKind.wrap .i64 (s329 + 1))))))) else (some (Sum.inr (Sum.inl s329))))
abbrev S7_4 (y332 : Int) : St := ⟨[(0, rl (.one (.int .i64)) a_), (1, rl (.one (.int .i64)) b_), (5, ri y332)], [], [], 26, 0⟩
theorem ref03_ints_l4_b : R7 C7.r.r.l.r.b.b (S7_3 a_ b_ s329) (loopKont 0 q) = Option.bind (ref03_ints_l4_p a_ b_ s329) (either (fun y : Int => q .normal ⟨[(0, rl (.one (.int .i64)) a_), (1, rl (.one (.int .i64)) b_), (5, ri y)], [], [], 26, 0⟩) (either (fun y332 : Int => q (.exit 0) (S7_4 a_ b_ y332)) (fun y333 : Unit => q .ret S7_1))) := by
  refine .trans ?_ (bif_b (bind_b fun y331 => (bif_b e3_2 e3_0)) e3_1)
  refine .trans seq_push ?_
  refine (pre1 (ref03_ints_fzx1 a_ b_ s329 _)).trans ?_
  refine (cond_e (b := (decide (s329 < (a_.length : Int)))) (st' := (S7_3 a_ b_ s329)) ).trans (bif_g ?_ ?_)
  · refine (skip_eq).trans ?_
    refine (seqC_normal (st' := (S7_3 a_ b_ s329))).trans ?_
    refine .trans seq_push ?_
    refine (block_push (id := 1)).trans ?_
    refine (pre1 (ref03_ints_r6 a_ b_ s329 _)).trans (bind_g fun y331 => ?_)
    refine (cond_e (b := ((gt a_ s329 (0 : Int)) != (gt b_ s329 (0 : Int)))) (st' := (S7_3 a_ b_ s329)) ).trans (bif_g ?_ ?_)
    · refine (pre1 (ref03_ints_fzx2 a_ b_ s329 _)).trans ?_
      refine (ret_eq).trans ?_
      refine block_ret.trans ?_
      refine seqC_ret.trans ?_
      kernel_rfl
    · refine (skip_eq).trans ?_
      refine block_normal.trans ?_
      refine (seqC_normal (st' := (S7_3 a_ b_ s329))).trans ?_
      refine (ref03_ints_r5 a_ b_ s329 _).trans ?_
      kernel_rfl
  · refine ((exit_eq (j := 0))).trans ?_
    refine seqC_exit.trans ?_
    kernel_rfl
theorem ref03_ints_l4 : R7 C7.r.r.l.r.b (S7_2 a_ b_) q = Option.bind (iterN (ref03_ints_l4_p a_ b_) LL (0 : Int)) (either (fun y332 : Int => q (.exit 0) (S7_4 a_ b_ y332)) (fun y333 : Unit => q .ret S7_1)) :=
  Eq.trans (by kernel_rfl) (loop_iter2 (S := fun s329 : Int => (S7_3 a_ b_ s329)) (Y1 := fun y332 : Int => ((.exit 0), (S7_4 a_ b_ y332))) (Y2 := fun y333 : Unit => (.ret, S7_1)) (fun s q => ref03_ints_l4_b a_ b_ s q) (fun z => rfl) (fun z => rfl) LL (0 : Int))
theorem ref03_ints_fzx3 : P7 1 C7.r.r.r ⟨[], [], [], 26, 0⟩ k = k ⟨[(4, rb true)], [], [], 26, 0⟩ := by kernel_rfl
/-- quilt/quiltref03.ints -/
def ref03_ints : Option Bool := (bif ((a_.length : Int) != (b_.length : Int)) then (some false) else (Option.bind (iterN (ref03_ints_l4_p a_ b_) LL (0 : Int)) (either (fun y332 : Int => (some true)) (fun y333 : Unit => (some false)))))
theorem ref03_ints_is : stepS E cp3 ce4 21 [rl (.one (.int .i64)) a_, rl (.one (.int .i64)) b_] = Option.bind (ref03_ints a_ b_) (fun y : Bool => some (rb y : R)) := by
  refine .trans ?_ (bif_b some_b (bind_b (either_b (fun y332 => some_b) (fun y333 => some_b))))
  refine (stepG_is (nt := 26) (regs := [(0, rl (.one (.int .i64)) a_), (1, rl (.one (.int .i64)) b_)])).trans ?_
  refine (pre1 (ref03_ints_f1 a_ b_ _)).trans ?_
  refine .trans seq_push ?_
  refine (pre1 (ref03_ints_f1000002 a_ b_ _)).trans ?_
  refine (cond_e (b := ((a_.length : Int) != (b_.length : Int))) (st' := (S7_0 a_ b_)) ).trans (bif_g ?_ ?_)
  · refine (pre1 (ref03_ints_fz a_ b_ _)).trans ?_
    refine (ret_eq).trans ?_
    refine seqC_ret.trans ?_
    kernel_rfl
  · refine (skip_eq).trans ?_
    refine (seqC_normal (st' := (S7_0 a_ b_))).trans ?_
    refine .trans seq_push ?_
    refine (pre1 (ref03_ints_f4 a_ b_ _)).trans ?_
    refine (block_push (id := 0)).trans ?_
    refine (ref03_ints_l4 a_ b_ _).trans (bind_g (either_g (fun y332 => ?_) (fun y333 => ?_)))
    · refine block_same.trans ?_
      refine (seqC_normal (st' := ⟨[], [], [], 26, 0⟩)).trans ?_
      refine (pre1 (ref03_ints_fzx3 _)).trans ?_
      refine (ret_eq).trans ?_
      kernel_rfl
    · refine block_ret.trans ?_
      refine seqC_ret.trans ?_
      kernel_rfl
noncomputable def cp4 : CallP := withC cp3 21 [(.one (.g (.sl (.one (.int .i64))))), (.one (.g (.sl (.one (.int .i64)))))] (.one pB) (fun y : Bool => y) (fun x => ref03_ints x.1 x.2.1)
theorem cp4_ok : PureOK E cp4 := conS eok cp3_ok ce4_ok fun x => Eq.mp (by kernel_rfl) (ref03_ints_is x.1 x.2.1)
end
section
variable {α : Type} (a_ : (List Int)) (b_ : (List Int)) (k : St → Option α)
noncomputable abbrev C8 := codeOf E.P 13
noncomputable abbrev P8 := @preK α E 13 cp4 ce4
theorem ref03_Ints_r1 : P8 2 C8 ⟨[(0, rl (.one (.int .i64)) a_), (1, rl (.one (.int .i64)) b_)], [], [], 8, 0⟩ k = Option.bind (ref03_ints a_ b_) fun y334 : Bool => k ⟨[(4, rb y334)], [], [], 8, 0⟩ := by kernel_rfl
/-- quilt/quiltref03.Ints -/
def ref03_Ints : Option Bool := (Option.bind (ref03_ints a_ b_) (fun y334 : Bool => (some y334)))
theorem ref03_Ints_is : stepS E cp4 ce4 13 [rl (.one (.int .i64)) a_, rl (.one (.int .i64)) b_] = Option.bind (ref03_Ints a_ b_) (fun y : Bool => some (rb y : R)) := by
  refine .trans ?_ (bind_b fun y334 => some_b)
  refine (stepG_is (nt := 8) (regs := [(0, rl (.one (.int .i64)) a_), (1, rl (.one (.int .i64)) b_)])).trans ?_
  refine (pre2 (ref03_Ints_r1 a_ b_ _)).trans (bind_g fun y334 => ?_)
  refine (ret_eq).trans ?_
  kernel_rfl
noncomputable def cp5 : CallP := withC cp4 13 [(.one (.g (.sl (.one (.int .i64))))), (.one (.g (.sl (.one (.int .i64)))))] (.one pB) (fun y : Bool => y) (fun x => ref03_Ints x.1 x.2.1)
theorem cp5_ok : PureOK E cp5 := conS eok cp4_ok ce4_ok fun x => Eq.mp (by kernel_rfl) (ref03_Ints_is x.1 x.2.1)
end
end Go.V.P
