/- What functions compute. -/
import Derived.Test.YtaehdmelnmajnaaSe0
namespace Go.V.P
open Go.RowKit Go.V Go.Proofs
set_option linter.unusedVariables false
set_option maxRecDepth 100000
section
variable {α : Type} (a_ : (List Int)) (b_ : (List Int)) (s81 : Int) (k : St → Option α) (q : Kont α)
noncomputable abbrev C2 := codeOf E.P 21
noncomputable abbrev P2 := @preK α E 21 cp1 semE
noncomputable abbrev R2 := @runCode α E 21 cp1 semE
abbrev S2_0 : St := ⟨[(0, rl (.one (.int .i64)) a_), (1, rl (.one (.int .i64)) b_)], [], [], 26⟩
theorem ref03_ints_f1 : P2 1 C2 (S2_0 a_ b_) k = k (S2_0 a_ b_) := by kernel_rfl
theorem ref03_ints_f1000002 : P2 1 C2.r.l (S2_0 a_ b_) k = k ⟨[(0, rl (.one (.int .i64)) a_), (1, rl (.one (.int .i64)) b_), (10, rb ((a_.length : Int) != (b_.length : Int)))], [], [], 26⟩ := by kernel_rfl
abbrev S2_1 : St := ⟨[(4, rb false)], [], [], 26⟩
theorem ref03_ints_fz : P2 1 C2.r.l.r.t (S2_0 a_ b_) k = k S2_1 := by kernel_rfl
abbrev S2_2 : St := ⟨[(0, rl (.one (.int .i64)) a_), (1, rl (.one (.int .i64)) b_), (5, ri 0)], [], [], 26⟩
theorem ref03_ints_f4 : P2 1 C2.r.r.l (S2_0 a_ b_) k = k (S2_2 a_ b_) := by kernel_rfl
abbrev S2_3 : St := ⟨[(0, rl (.one (.int .i64)) a_), (1, rl (.one (.int .i64)) b_), (5, ri s81)], [], [], 26⟩
theorem ref03_ints_fzx1 : P2 1 C2.r.r.l.r.b.b.l (S2_3 a_ b_ s81) k = k ⟨[(0, rl (.one (.int .i64)) a_), (1, rl (.one (.int .i64)) b_), (5, ri s81), (14, rb (decide (s81 < (a_.length : Int))))], [], [], 26⟩ := by kernel_rfl
def ref03_ints_r6_p : Option Unit := (bif (decide ((0 : Int) ≤ s81)) then (bif (decide (s81 < (a_.length : Int))) then (bif (decide ((0 : Int) ≤ s81)) then (bif (decide (s81 < (b_.length : Int))) then (some ()) else none) else none) else none) else none)
theorem ref03_ints_r6 : P2 1 C2.r.r.l.r.b.b.r.l.b (S2_3 a_ b_ s81) k = Option.bind (ref03_ints_r6_p a_ b_ s81) (fun y83 : Unit => k ⟨[(0, rl (.one (.int .i64)) a_), (1, rl (.one (.int .i64)) b_), (5, ri s81), (25, rb ((gt a_ s81 (0 : Int)) != (gt b_ s81 (0 : Int))))], [], [], 26⟩) := .trans (by kernel_rfl) (bif_b (bif_b (bif_b (bif_b some_b none_b) none_b) none_b) none_b)
theorem ref03_ints_fzx2 : P2 1 C2.r.r.l.r.b.b.r.l.b.r.t (S2_3 a_ b_ s81) k = k S2_1 := by kernel_rfl
theorem ref03_ints_r5 : R2 C2.r.r.l.r.b.b.r.r (S2_3 a_ b_ s81) q = q .normal ⟨[(0, rl (.one (.int .i64)) a_), (1, rl (.one (.int .i64)) b_), (5, ri (IntKind.wrap .i64 (s81 + 1)))], [], [], 26⟩ := by kernel_rfl
def ref03_ints_l4_p : Option (Int ⊕ (Int ⊕ Unit)) := (bif (decide (s81 < (a_.length : Int))) then (Option.bind (ref03_ints_r6_p a_ b_ s81) (fun y83 : Unit => (bif ((gt a_ s81 (0 : Int)) != (gt b_ s81 (0 : Int))) then (some (Sum.inr (Sum.inr ()))) else (some (Sum.inl (IntKind.wrap .i64 (s81 + 1))))))) else (some (Sum.inr (Sum.inl s81))))
abbrev S2_4 (y84 : Int) : St := ⟨[(0, rl (.one (.int .i64)) a_), (1, rl (.one (.int .i64)) b_), (5, ri y84)], [], [], 26⟩
theorem ref03_ints_l4_b : R2 C2.r.r.l.r.b.b (S2_3 a_ b_ s81) (loopKont 0 q) = Option.bind (ref03_ints_l4_p a_ b_ s81) (either (fun y : Int => q .normal ⟨[(0, rl (.one (.int .i64)) a_), (1, rl (.one (.int .i64)) b_), (5, ri y)], [], [], 26⟩) (either (fun y84 : Int => q (.exit 0) (S2_4 a_ b_ y84)) (fun y85 : Unit => q .ret S2_1))) := by
  refine .trans ?_ (bif_b (bind_b fun y83 => (bif_b e3_2 e3_0)) e3_1)
  refine .trans seq_push ?_
  refine (pre1 (ref03_ints_fzx1 a_ b_ s81 _)).trans ?_
  refine (cond_e (b := (decide (s81 < (a_.length : Int)))) (st' := (S2_3 a_ b_ s81)) ).trans (bif_g ?_ ?_)
  · refine (skip_eq).trans ?_
    refine (seqC_normal (st' := (S2_3 a_ b_ s81))).trans ?_
    refine .trans seq_push ?_
    refine (block_push (id := 1)).trans ?_
    refine (pre1 (ref03_ints_r6 a_ b_ s81 _)).trans (bind_g fun y83 => ?_)
    refine (cond_e (b := ((gt a_ s81 (0 : Int)) != (gt b_ s81 (0 : Int)))) (st' := (S2_3 a_ b_ s81)) ).trans (bif_g ?_ ?_)
    · refine (pre1 (ref03_ints_fzx2 a_ b_ s81 _)).trans ?_
      refine (ret_eq).trans ?_
      refine block_ret.trans ?_
      refine seqC_ret.trans ?_
      kernel_rfl
    · refine (skip_eq).trans ?_
      refine block_normal.trans ?_
      refine (seqC_normal (st' := (S2_3 a_ b_ s81))).trans ?_
      refine (ref03_ints_r5 a_ b_ s81 _).trans ?_
      kernel_rfl
  · refine ((exit_eq (j := 0))).trans ?_
    refine seqC_exit.trans ?_
    kernel_rfl
theorem ref03_ints_l4 : R2 C2.r.r.l.r.b (S2_2 a_ b_) q = Option.bind (iterN (ref03_ints_l4_p a_ b_) LL (0 : Int)) (either (fun y84 : Int => q (.exit 0) (S2_4 a_ b_ y84)) (fun y85 : Unit => q .ret S2_1)) :=
  Eq.trans (by kernel_rfl) (loop_iter2 (S := fun s81 : Int => (S2_3 a_ b_ s81)) (Y1 := fun y84 : Int => ((.exit 0), (S2_4 a_ b_ y84))) (Y2 := fun y85 : Unit => (.ret, S2_1)) (fun s q => ref03_ints_l4_b a_ b_ s q) (fun z => rfl) (fun z => rfl) LL (0 : Int))
theorem ref03_ints_fzx3 : P2 1 C2.r.r.r ⟨[], [], [], 26⟩ k = k ⟨[(4, rb true)], [], [], 26⟩ := by kernel_rfl
/-- quilt/quiltref03.ints -/
def ref03_ints : Option Bool := (bif ((a_.length : Int) != (b_.length : Int)) then (some false) else (Option.bind (iterN (ref03_ints_l4_p a_ b_) LL (0 : Int)) (either (fun y84 : Int => (some true)) (fun y85 : Unit => (some false)))))
theorem ref03_ints_is : stepS E cp1 semE 21 [rl (.one (.int .i64)) a_, rl (.one (.int .i64)) b_] = Option.bind (ref03_ints a_ b_) (fun y : Bool => some (rb y : R)) := by
  refine .trans ?_ (bif_b some_b (bind_b (either_b (fun y84 => some_b) (fun y85 => some_b))))
  refine (stepG_is (nt := 26) (regs := [(0, rl (.one (.int .i64)) a_), (1, rl (.one (.int .i64)) b_)])).trans ?_
  refine (pre1 (ref03_ints_f1 a_ b_ _)).trans ?_
  refine .trans seq_push ?_
  refine (pre1 (ref03_ints_f1000002 a_ b_ _)).trans ?_
  refine (cond_e (b := ((a_.length : Int) != (b_.length : Int))) (st' := (S2_0 a_ b_)) ).trans (bif_g ?_ ?_)
  · refine (pre1 (ref03_ints_fz a_ b_ _)).trans ?_
    refine (ret_eq).trans ?_
    refine seqC_ret.trans ?_
    kernel_rfl
  · refine (skip_eq).trans ?_
    refine (seqC_normal (st' := (S2_0 a_ b_))).trans ?_
    refine .trans seq_push ?_
    refine (pre1 (ref03_ints_f4 a_ b_ _)).trans ?_
    refine (block_push (id := 0)).trans ?_
    refine (ref03_ints_l4 a_ b_ _).trans (bind_g (either_g (fun y84 => ?_) (fun y85 => ?_)))
    · refine block_same.trans ?_
      refine (seqC_normal (st' := ⟨[], [], [], 26⟩)).trans ?_
      refine (pre1 (ref03_ints_fzx3 _)).trans ?_
      refine (ret_eq).trans ?_
      kernel_rfl
    · refine block_ret.trans ?_
      refine seqC_ret.trans ?_
      kernel_rfl
noncomputable def cp3 : CallP := withC cp1 21 [(.one (.g (.sl (.one (.int .i64))))), (.one (.g (.sl (.one (.int .i64)))))] (.one pB) (fun y : Bool => y) (fun x => ref03_ints x.1 x.2.1)
theorem cp3_ok : PureOK E cp3 := conS eok cp1_ok semE_ok fun x => Eq.mp (by kernel_rfl) (ref03_ints_is x.1 x.2.1)
end
section
variable {α : Type} (a_ : (List Int)) (b_ : (List Int)) (k : St → Option α)
noncomputable abbrev C3 := codeOf E.P 13
noncomputable abbrev P3 := @preK α E 13 cp3 semE
theorem ref03_Ints_r1 : P3 2 C3 ⟨[(0, rl (.one (.int .i64)) a_), (1, rl (.one (.int .i64)) b_)], [], [], 8⟩ k = Option.bind (ref03_ints a_ b_) fun y86 : Bool => k ⟨[(4, rb y86)], [], [], 8⟩ := by kernel_rfl
/-- quilt/quiltref03.Ints -/
def ref03_Ints : Option Bool := (Option.bind (ref03_ints a_ b_) (fun y86 : Bool => (some y86)))
theorem ref03_Ints_is : stepS E cp3 semE 13 [rl (.one (.int .i64)) a_, rl (.one (.int .i64)) b_] = Option.bind (ref03_Ints a_ b_) (fun y : Bool => some (rb y : R)) := by
  refine .trans ?_ (bind_b fun y86 => some_b)
  refine (stepG_is (nt := 8) (regs := [(0, rl (.one (.int .i64)) a_), (1, rl (.one (.int .i64)) b_)])).trans ?_
  refine (pre2 (ref03_Ints_r1 a_ b_ _)).trans (bind_g fun y86 => ?_)
  refine (ret_eq).trans ?_
  kernel_rfl
noncomputable def cp4 : CallP := withC cp3 13 [(.one (.g (.sl (.one (.int .i64))))), (.one (.g (.sl (.one (.int .i64)))))] (.one pB) (fun y : Bool => y) (fun x => ref03_Ints x.1 x.2.1)
theorem cp4_ok : PureOK E cp4 := conS eok cp3_ok semE_ok fun x => Eq.mp (by kernel_rfl) (ref03_Ints_is x.1 x.2.1)
end
end Go.V.P
