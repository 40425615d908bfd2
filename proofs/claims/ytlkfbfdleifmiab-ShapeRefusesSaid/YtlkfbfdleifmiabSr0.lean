/- What functions compute. -/
import Derived.Test.YtlkfbfdleifmiabSrEnv
namespace Go.V.P
open Go.RowKit Go.V Go.Proofs
set_option linter.unusedVariables false
set_option maxRecDepth 100000
noncomputable abbrev C0 : Code := codeOf E.P 12
noncomputable abbrev P0 {α : Type} (n : Nat) (c : Code) (st : St) (k : St → Option α) : Option α := preK E 12 cpA noE n c st k
noncomputable abbrev R0 {α : Type} (c : Code) (st : St) (k : Kont α) : Option α := runCode E 12 cpA noE c st k
noncomputable abbrev Q0 {α : Type} (c : Code) (k : Kont α) : Kont α := seqC E 12 cpA noE c k
theorem shape_within_fz {α : Type} (low : Int) (high : Int) (k : St → Option α) : P0 2 C0 ⟨[(0, ri low), (1, ri high)], [], [], 6⟩ k = k ⟨[(4, .one (.fn 13 [.cell [di low], .cell [di high]]))], [], [], 6⟩ := by kernel_rfl
/-- quilt/shape.within -/
def shape_within_q {β : Type} (low : Int) (high : Int) (K : ((Int × Unit) × (Int × Unit) × Unit) → β) : β := (K ((low, ()), (high, ()), ()))
def shape_within (low : Int) (high : Int) : ((Int × Unit) × (Int × Unit) × Unit) := shape_within_q low high (fun y => y)
theorem shape_within_n {β : Type} (low : Int) (high : Int) (K : ((Int × Unit) × (Int × Unit) × Unit) → β) : shape_within_q low high K = K (shape_within low high) := rfl
theorem shape_within_is (low : Int) (high : Int) : stepS E cpA noE 12 [ri low, ri high] = (fun y : ((Int × Unit) × (Int × Unit) × Unit) => some (.one (.fn 13 [.cell [di y.1.1], .cell [di y.2.1.1]]) : R)) (shape_within low high) := by
  refine Eq.trans ?_ (shape_within_n low high (fun y : ((Int × Unit) × (Int × Unit) × Unit) => some (.one (.fn 13 [.cell [di y.1.1], .cell [di y.2.1.1]]) : R)))
  refine (stepG_is (nt := 6) (regs := [(0, ri low), (1, ri high)]) (by kernel_rfl) (by kernel_rfl)).trans ?_
  unfold shape_within_q
  refine (pre (n := 2) (c' := C0.r.r) (by kernel_rfl) (by kernel_rfl) (shape_within_fz low high _)).trans ?_
  refine (ret_eq (by kernel_rfl)).trans ?_
  kernel_rfl
theorem shape_within_c (x : denL [(.one (.g (.int .i64))), (.one (.g (.int .i64)))]) : stepS E cpA noE 12 (encL [(.one (.g (.int .i64))), (.one (.g (.int .i64)))] x) = ((fun x => some (shape_within x.1 x.2.1)) x).bind fun y => some (Po.enc (.one (.one (.fn 13 (.cons (.cell (.cons (.g (.int .i64)) .nil)) (.cons (.cell (.cons (.g (.int .i64)) .nil)) .nil))))) ((fun y : ((Int × Unit) × (Int × Unit) × Unit) => y) y)) := Eq.mp (by kernel_rfl) (shape_within_is x.1 x.2.1)
noncomputable def cp1 : CallP := withC cpA 12 [(.one (.g (.int .i64))), (.one (.g (.int .i64)))] (.one (.one (.fn 13 (.cons (.cell (.cons (.g (.int .i64)) .nil)) (.cons (.cell (.cons (.g (.int .i64)) .nil)) .nil))))) (fun y : ((Int × Unit) × (Int × Unit) × Unit) => y) (fun x => some (shape_within x.1 x.2.1))
theorem cp1_ok : PureOK E cp1 := withC_ok cpA_ok (stepS_ok eok cpA_ok noE_ok) fun x => con_of (enc := fun y => Po.enc (.one (.one (.fn 13 (.cons (.cell (.cons (.g (.int .i64)) .nil)) (.cons (.cell (.cons (.g (.int .i64)) .nil)) .nil))))) ((fun y : ((Int × Unit) × (Int × Unit) × Unit) => y) y)) (shape_within_c x)
noncomputable abbrev C1 : Code := codeOf E.P 13
noncomputable abbrev P1 {α : Type} (n : Nat) (c : Code) (st : St) (k : St → Option α) : Option α := preK E 13 cp1 noE n c st k
noncomputable abbrev R1 {α : Type} (c : Code) (st : St) (k : Kont α) : Option α := runCode E 13 cp1 noE c st k
noncomputable abbrev Q1 {α : Type} (c : Code) (k : Kont α) : Kont α := seqC E 13 cp1 noE c k
theorem shape_within_1_f1 {α : Type} (l_ : (List Int)) (c1_ : Int) (c2_ : Int) (k : St → Option α) : P1 1 C1 ⟨[(0, rl (.one (.int .i64)) l_), (1, .one (.cell [di c1_])), (2, .one (.cell [di c2_]))], [], [], 22⟩ k = k ⟨[(0, rl (.one (.int .i64)) l_), (1, .one (.cell [di c1_])), (2, .one (.cell [di c2_]))], [], [], 22⟩ := by kernel_rfl
theorem shape_within_1_f2 {α : Type} (l_ : (List Int)) (c1_ : Int) (c2_ : Int) (k : St → Option α) : P1 1 C1.r.l ⟨[(0, rl (.one (.int .i64)) l_), (1, .one (.cell [di c1_])), (2, .one (.cell [di c2_]))], [], [], 22⟩ k = k ⟨[(1, .one (.cell [di c1_])), (2, .one (.cell [di c2_])), (7, rl (.one (.int .i64)) l_), (8, ri (l_.length : Int)), (9, ri (0 : Int))], [], [], 22⟩ := by kernel_rfl
theorem shape_within_1_fz {α : Type} (l_ : (List Int)) (c1_ : Int) (c2_ : Int) (s18 : Int) (k : St → Option α) : P1 1 (bodyOf (bodyOf C1.r.l.r)) ⟨[(1, .one (.cell [di c1_])), (2, .one (.cell [di c2_])), (7, rl (.one (.int .i64)) l_), (8, ri (l_.length : Int)), (9, ri s18)], [], [], 22⟩ k = k ⟨[(1, .one (.cell [di c1_])), (2, .one (.cell [di c2_])), (7, rl (.one (.int .i64)) l_), (8, ri (l_.length : Int)), (9, ri s18), (10, rb (decide (s18 < (l_.length : Int))))], [], [], 22⟩ := by kernel_rfl
def shape_within_1_r3_q {β : Type} (l_ : (List Int)) (s18 : Int) (K : Unit → Option β) : Option β := (bif (decide ((0 : Int) ≤ s18)) then (bif (decide (s18 < (l_.length : Int))) then (K ()) else none) else none)
def shape_within_1_r3_p (l_ : (List Int)) (s18 : Int) : Option (Unit) := shape_within_1_r3_q l_ s18 some
theorem shape_within_1_r3_n {β : Type} (l_ : (List Int)) (s18 : Int) (K : Unit → Option β) : shape_within_1_r3_q l_ s18 K = (shape_within_1_r3_p l_ s18).bind K := (bif_b (bif_b some_b none_b) none_b)
theorem shape_within_1_r3 {α : Type} (l_ : (List Int)) (c1_ : Int) (c2_ : Int) (s18 : Int) (k : St → Option α) : P1 1 (bodyOf (bodyOf (bodyOf C1.r.l.r)).r.r.l) ⟨[(1, .one (.cell [di c1_])), (2, .one (.cell [di c2_])), (7, rl (.one (.int .i64)) l_), (8, ri (l_.length : Int)), (9, ri s18)], [], [], 22⟩ k = Option.bind (shape_within_1_r3_p l_ s18) (fun y21 : Unit => k ⟨[(1, .one (.cell [di c1_])), (2, .one (.cell [di c2_])), (6, ri (gt l_ s18 (0 : Int))), (7, rl (.one (.int .i64)) l_), (8, ri (l_.length : Int)), (9, ri s18)], [], [], 22⟩) := Eq.trans (by kernel_rfl) (shape_within_1_r3_n l_ s18 _)
def shape_within_1_r4_q {β : Type} (l_ : (List Int)) (c1_ : Int) (c2_ : Int) (s18 : Int) (K : Bool → β) : β := (bif (decide ((gt l_ s18 (0 : Int)) < c1_)) then (K true) else (K (decide ((gt l_ s18 (0 : Int)) > c2_))))
def shape_within_1_r4_p (l_ : (List Int)) (c1_ : Int) (c2_ : Int) (s18 : Int) : Bool := shape_within_1_r4_q l_ c1_ c2_ s18 (fun y => y)
theorem shape_within_1_r4_n {β : Type} (l_ : (List Int)) (c1_ : Int) (c2_ : Int) (s18 : Int) (K : Bool → β) : shape_within_1_r4_q l_ c1_ c2_ s18 K = K (shape_within_1_r4_p l_ c1_ c2_ s18) := (bif_k K rfl rfl)
theorem shape_within_1_r4 {α : Type} (l_ : (List Int)) (c1_ : Int) (c2_ : Int) (s18 : Int) (k : St → Option α) : P1 1 (bodyOf (bodyOf (bodyOf C1.r.l.r)).r.r.l).r ⟨[(1, .one (.cell [di c1_])), (2, .one (.cell [di c2_])), (6, ri (gt l_ s18 (0 : Int))), (7, rl (.one (.int .i64)) l_), (8, ri (l_.length : Int)), (9, ri s18)], [], [], 22⟩ k = k ⟨[(1, .one (.cell [di c1_])), (2, .one (.cell [di c2_])), (7, rl (.one (.int .i64)) l_), (8, ri (l_.length : Int)), (9, ri s18), (20, rb (shape_within_1_r4_p l_ c1_ c2_ s18))], [], [], 22⟩ := Eq.trans (by kernel_rfl) (shape_within_1_r4_n l_ c1_ c2_ s18 (fun y22 : Bool => k ⟨[(1, .one (.cell [di c1_])), (2, .one (.cell [di c2_])), (7, rl (.one (.int .i64)) l_), (8, ri (l_.length : Int)), (9, ri s18), (20, rb y22)], [], [], 22⟩))
theorem shape_within_1_fzx1 {α : Type} (l_ : (List Int)) (c1_ : Int) (c2_ : Int) (s18 : Int) (k : St → Option α) : P1 1 (bodyOf (bodyOf (bodyOf C1.r.l.r)).r.r.l).r.r.t ⟨[(1, .one (.cell [di c1_])), (2, .one (.cell [di c2_])), (7, rl (.one (.int .i64)) l_), (8, ri (l_.length : Int)), (9, ri s18)], [], [], 22⟩ k = k ⟨[(4, rb false)], [], [], 22⟩ := by kernel_rfl
theorem shape_within_1_r6 {α : Type} (l_ : (List Int)) (c1_ : Int) (c2_ : Int) (s18 : Int) (k : Kont α) : R1 (bodyOf (bodyOf C1.r.l.r)).r.r.r ⟨[(1, .one (.cell [di c1_])), (2, .one (.cell [di c2_])), (7, rl (.one (.int .i64)) l_), (8, ri (l_.length : Int)), (9, ri s18)], [], [], 22⟩ k = k .normal ⟨[(1, .one (.cell [di c1_])), (2, .one (.cell [di c2_])), (7, rl (.one (.int .i64)) l_), (8, ri (l_.length : Int)), (9, ri (IntKind.wrap .i64 (s18 + (1 : Int))))], [], [], 22⟩ := by kernel_rfl
def shape_within_1_l2_q {β : Type} (l_ : (List Int)) (c1_ : Int) (c2_ : Int) (s18 : Int) (K0 : Int → Option β) (K1 : Int → Option β) (K2 : Unit → Option β) : Option β := (bif (decide (s18 < (l_.length : Int))) then (Option.bind (shape_within_1_r3_p l_ s18) (fun y21 : Unit => (bif (shape_within_1_r4_p l_ c1_ c2_ s18) then (K2 ()) else (K0 (IntKind.wrap .i64 (s18 + (1 : Int))))))) else (K1 s18))
def shape_within_1_l2_p (l_ : (List Int)) (c1_ : Int) (c2_ : Int) (s18 : Int) : Option (Int ⊕ (Int ⊕ Unit)) := shape_within_1_l2_q l_ c1_ c2_ s18 (fun y => some (Sum.inl y)) (fun y => some (Sum.inr (Sum.inl y))) (fun y => some (Sum.inr (Sum.inr y)))
theorem shape_within_1_l2_n {β : Type} (l_ : (List Int)) (c1_ : Int) (c2_ : Int) (s18 : Int) (K0 : Int → Option β) (K1 : Int → Option β) (K2 : Unit → Option β) : shape_within_1_l2_q l_ c1_ c2_ s18 K0 K1 K2 = (shape_within_1_l2_p l_ c1_ c2_ s18).bind (either K0 (either K1 K2)) := (bif_b (bind_b fun y21 => (bif_b e3_2 e3_0)) e3_1)
theorem shape_within_1_l2_b {α : Type} (l_ : (List Int)) (c1_ : Int) (c2_ : Int) (s18 : Int) (k : Kont α) : R1 (bodyOf (bodyOf C1.r.l.r)) ⟨[(1, .one (.cell [di c1_])), (2, .one (.cell [di c2_])), (7, rl (.one (.int .i64)) l_), (8, ri (l_.length : Int)), (9, ri s18)], [], [], 22⟩ (loopKont 0 k) = Option.bind (shape_within_1_l2_p l_ c1_ c2_ s18) (either (fun y : Int => k .normal ⟨[(1, .one (.cell [di c1_])), (2, .one (.cell [di c2_])), (7, rl (.one (.int .i64)) l_), (8, ri (l_.length : Int)), (9, ri y)], [], [], 22⟩) (either (fun y23 : Int => k (.exit 0) ⟨[(1, .one (.cell [di c1_])), (2, .one (.cell [di c2_])), (7, rl (.one (.int .i64)) l_), (8, ri (l_.length : Int)), (9, ri y23)], [], [], 22⟩) (fun y24 : Unit => k .ret ⟨[(4, rb false)], [], [], 22⟩))) := by
  refine Eq.trans ?_ (shape_within_1_l2_n l_ c1_ c2_ s18 _ _ _)
  unfold shape_within_1_l2_q
  refine (pre (n := 1) (c' := (bodyOf (bodyOf C1.r.l.r)).r) (by kernel_rfl) (by kernel_rfl) (shape_within_1_fz l_ c1_ c2_ s18 _)).trans ?_
  refine (seq_push (by kernel_rfl)).trans ?_
  refine (cond_eq (b := (decide (s18 < (l_.length : Int)))) (st' := ⟨[(1, .one (.cell [di c1_])), (2, .one (.cell [di c2_])), (7, rl (.one (.int .i64)) l_), (8, ri (l_.length : Int)), (9, ri s18)], [], [], 22⟩) (by kernel_rfl) (by kernel_rfl) (by kernel_rfl)).trans (bif_g ?_ ?_)
  · refine (skip_eq (by kernel_rfl)).trans ?_
    refine (seqC_normal (st' := ⟨[(1, .one (.cell [di c1_])), (2, .one (.cell [di c2_])), (7, rl (.one (.int .i64)) l_), (8, ri (l_.length : Int)), (9, ri s18)], [], [], 22⟩) (by kernel_rfl)).trans ?_
    refine (seq_push (by kernel_rfl)).trans ?_
    refine (block_push (id := 1) (by kernel_rfl)).trans ?_
    refine (pre (n := 1) (c' := (bodyOf (bodyOf (bodyOf C1.r.l.r)).r.r.l).r) (by kernel_rfl) (by kernel_rfl) (shape_within_1_r3 l_ c1_ c2_ s18 _)).trans (bind_g fun y21 => ?_)
    refine (pre (n := 1) (c' := (bodyOf (bodyOf (bodyOf C1.r.l.r)).r.r.l).r.r) (by kernel_rfl) (by kernel_rfl) (shape_within_1_r4 l_ c1_ c2_ s18 _)).trans ?_
    refine (cond_eq (b := (shape_within_1_r4_p l_ c1_ c2_ s18)) (st' := ⟨[(1, .one (.cell [di c1_])), (2, .one (.cell [di c2_])), (7, rl (.one (.int .i64)) l_), (8, ri (l_.length : Int)), (9, ri s18)], [], [], 22⟩) (by kernel_rfl) (by kernel_rfl) (by kernel_rfl)).trans (bif_g ?_ ?_)
    · refine (pre (n := 1) (c' := (bodyOf (bodyOf (bodyOf C1.r.l.r)).r.r.l).r.r.t.r) (by kernel_rfl) (by kernel_rfl) (shape_within_1_fzx1 l_ c1_ c2_ s18 _)).trans ?_
      refine (ret_eq (by kernel_rfl)).trans ?_
      refine block_ret.trans ?_
      refine seqC_ret.trans ?_
      kernel_rfl
    · refine (skip_eq (by kernel_rfl)).trans ?_
      refine block_normal.trans ?_
      refine (seqC_normal (st' := ⟨[(1, .one (.cell [di c1_])), (2, .one (.cell [di c2_])), (7, rl (.one (.int .i64)) l_), (8, ri (l_.length : Int)), (9, ri s18)], [], [], 22⟩) (by kernel_rfl)).trans ?_
      refine (shape_within_1_r6 l_ c1_ c2_ s18 _).trans ?_
      kernel_rfl
  · refine (exit_eq (j := 0) (by kernel_rfl)).trans ?_
    refine seqC_exit.trans ?_
    kernel_rfl
theorem shape_within_1_l2 {α : Type} (l_ : (List Int)) (c1_ : Int) (c2_ : Int) (k : Kont α) : R1 (bodyOf C1.r.l.r) ⟨[(1, .one (.cell [di c1_])), (2, .one (.cell [di c2_])), (7, rl (.one (.int .i64)) l_), (8, ri (l_.length : Int)), (9, ri (0 : Int))], [], [], 22⟩ k = Option.bind (iterN (shape_within_1_l2_p l_ c1_ c2_) LL (0 : Int)) (either (fun y23 : Int => k (.exit 0) ⟨[(1, .one (.cell [di c1_])), (2, .one (.cell [di c2_])), (7, rl (.one (.int .i64)) l_), (8, ri (l_.length : Int)), (9, ri y23)], [], [], 22⟩) (fun y24 : Unit => k .ret ⟨[(4, rb false)], [], [], 22⟩)) :=
  Eq.trans (by kernel_rfl) (loop_iter2 (S := fun s18 : Int => ⟨[(1, .one (.cell [di c1_])), (2, .one (.cell [di c2_])), (7, rl (.one (.int .i64)) l_), (8, ri (l_.length : Int)), (9, ri s18)], [], [], 22⟩) (Y1 := fun y23 : Int => ((.exit 0), ⟨[(1, .one (.cell [di c1_])), (2, .one (.cell [di c2_])), (7, rl (.one (.int .i64)) l_), (8, ri (l_.length : Int)), (9, ri y23)], [], [], 22⟩)) (Y2 := fun y24 : Unit => (.ret, ⟨[(4, rb false)], [], [], 22⟩)) (fun s k => shape_within_1_l2_b l_ c1_ c2_ s k) (fun z => rfl) (fun z => rfl) LL (0 : Int))
theorem shape_within_1_fzx2 {α : Type} (k : St → Option α) : P1 1 C1.r.r ⟨[], [], [], 22⟩ k = k ⟨[(4, rb true)], [], [], 22⟩ := by kernel_rfl
/-- quilt/shape.within$1 -/
def shape_within_1_q {β : Type} (l_ : (List Int)) (c1_ : Int) (c2_ : Int) (K : Bool → Option β) : Option β := (Option.bind (iterN (shape_within_1_l2_p l_ c1_ c2_) LL (0 : Int)) (either (fun y23 : Int => (K true)) (fun y24 : Unit => (K false))))
def shape_within_1 (l_ : (List Int)) (c1_ : Int) (c2_ : Int) : Option Bool := shape_within_1_q l_ c1_ c2_ some
theorem shape_within_1_n {β : Type} (l_ : (List Int)) (c1_ : Int) (c2_ : Int) (K : Bool → Option β) : shape_within_1_q l_ c1_ c2_ K = (shape_within_1 l_ c1_ c2_).bind K := (bind_b (either_b (fun y23 => some_b) (fun y24 => some_b)))
theorem shape_within_1_is (l_ : (List Int)) (c1_ : Int) (c2_ : Int) : stepS E cp1 noE 13 [rl (.one (.int .i64)) l_, .one (.cell [di c1_]), .one (.cell [di c2_])] = Option.bind (shape_within_1 l_ c1_ c2_) (fun y : Bool => some (rb y : R)) := by
  refine Eq.trans ?_ (shape_within_1_n l_ c1_ c2_ (fun y : Bool => some (rb y : R)))
  refine (stepG_is (nt := 22) (regs := [(0, rl (.one (.int .i64)) l_), (1, .one (.cell [di c1_])), (2, .one (.cell [di c2_]))]) (by kernel_rfl) (by kernel_rfl)).trans ?_
  unfold shape_within_1_q
  refine (pre (n := 1) (c' := C1.r) (by kernel_rfl) (by kernel_rfl) (shape_within_1_f1 l_ c1_ c2_ _)).trans ?_
  refine (seq_push (by kernel_rfl)).trans ?_
  refine (pre (n := 1) (c' := C1.r.l.r) (by kernel_rfl) (by kernel_rfl) (shape_within_1_f2 l_ c1_ c2_ _)).trans ?_
  refine (block_push (id := 0) (by kernel_rfl)).trans ?_
  refine (shape_within_1_l2 l_ c1_ c2_ _).trans (bind_g (either_g (fun y23 => ?_) (fun y24 => ?_)))
  · refine block_same.trans ?_
    refine (seqC_normal (st' := ⟨[], [], [], 22⟩) (by kernel_rfl)).trans ?_
    refine (pre (n := 1) (c' := C1.r.r.r) (by kernel_rfl) (by kernel_rfl) (shape_within_1_fzx2 _)).trans ?_
    refine (ret_eq (by kernel_rfl)).trans ?_
    kernel_rfl
  · refine block_ret.trans ?_
    refine seqC_ret.trans ?_
    kernel_rfl
theorem shape_within_1_c (x : denL [(.one (.g (.sl (.one (.int .i64))))), (.one (.cell (.cons (.g (.int .i64)) .nil))), (.one (.cell (.cons (.g (.int .i64)) .nil)))]) : stepS E cp1 noE 13 (encL [(.one (.g (.sl (.one (.int .i64))))), (.one (.cell (.cons (.g (.int .i64)) .nil))), (.one (.cell (.cons (.g (.int .i64)) .nil)))] x) = ((fun x => shape_within_1 x.1 x.2.1.1 x.2.2.1.1) x).bind fun y => some (Po.enc (.one (.one (.g .bool))) ((fun y : Bool => y) y)) := Eq.mp (by kernel_rfl) (shape_within_1_is x.1 x.2.1.1 x.2.2.1.1)
noncomputable def cp2 : CallP := withC cp1 13 [(.one (.g (.sl (.one (.int .i64))))), (.one (.cell (.cons (.g (.int .i64)) .nil))), (.one (.cell (.cons (.g (.int .i64)) .nil)))] (.one (.one (.g .bool))) (fun y : Bool => y) (fun x => shape_within_1 x.1 x.2.1.1 x.2.2.1.1)
theorem cp2_ok : PureOK E cp2 := withC_ok cp1_ok (stepS_ok eok cp1_ok noE_ok) fun x => con_of (enc := fun y => Po.enc (.one (.one (.g .bool))) ((fun y : Bool => y) y)) (shape_within_1_c x)
noncomputable abbrev C2 : Code := codeOf E.P 10
noncomputable abbrev P2 {α : Type} (n : Nat) (c : Code) (st : St) (k : St → Option α) : Option α := preK E 10 cp2 noE n c st k
noncomputable abbrev R2 {α : Type} (c : Code) (st : St) (k : Kont α) : Option α := runCode E 10 cp2 noE c st k
noncomputable abbrev Q2 {α : Type} (c : Code) (k : Kont α) : Kont α := seqC E 10 cp2 noE c k
theorem shape_Out_f1 {α : Type} (size : Int) (k_ : Int) (stride : Int) (pad : Int) (k : St → Option α) : P2 1 C2 ⟨[(0, ri size), (1, ri k_), (2, ri stride), (3, ri pad)], [], [], 46⟩ k = k ⟨[(0, ri size), (1, ri k_), (2, ri stride), (3, ri pad)], [], [], 46⟩ := by kernel_rfl
def shape_Out_r1_q {β : Type} (size : Int) (k_ : Int) (stride : Int) (pad : Int) (K : Bool → Option β) : Option β := (Option.bind (shape_within_1 [size] (((shape_within (1 : Int) (64 : Int)).1).1) (((shape_within (1 : Int) (64 : Int)).2.1).1)) (fun y29 : Bool => (bif (!y29) then (K true) else (Option.bind (shape_within_1 [k_, stride] (((shape_within (1 : Int) (16 : Int)).1).1) (((shape_within (1 : Int) (16 : Int)).2.1).1)) (fun y30 : Bool => (bif (!y30) then (K true) else (Option.bind (shape_within_1 [pad] (((shape_within (0 : Int) (16 : Int)).1).1) (((shape_within (0 : Int) (16 : Int)).2.1).1)) (fun y31 : Bool => (bif (!y31) then (K true) else (K (decide (k_ > (IntKind.wrap .i64 (size + (IntKind.wrap .i64 ((2 : Int) * pad))))))))))))))))
def shape_Out_r1_p (size : Int) (k_ : Int) (stride : Int) (pad : Int) : Option (Bool) := shape_Out_r1_q size k_ stride pad some
theorem shape_Out_r1_n {β : Type} (size : Int) (k_ : Int) (stride : Int) (pad : Int) (K : Bool → Option β) : shape_Out_r1_q size k_ stride pad K = (shape_Out_r1_p size k_ stride pad).bind K := (bind_b fun y29 => (bif_b some_b (bind_b fun y30 => (bif_b some_b (bind_b fun y31 => (bif_b some_b some_b))))))
theorem shape_Out_r1 {α : Type} (size : Int) (k_ : Int) (stride : Int) (pad : Int) (k : St → Option α) : P2 1 C2.r.l ⟨[(0, ri size), (1, ri k_), (2, ri stride), (3, ri pad)], [], [], 46⟩ k = Option.bind (shape_Out_r1_p size k_ stride pad) (fun y32 : Bool => k ⟨[(0, ri size), (1, ri k_), (2, ri stride), (3, ri pad), (36, rb y32)], [], [], 46⟩) := Eq.trans (by kernel_rfl) (shape_Out_r1_n size k_ stride pad _)
theorem shape_Out_fz {α : Type} (size : Int) (k_ : Int) (stride : Int) (pad : Int) (k : St → Option α) : P2 1 C2.r.l.r.t ⟨[(0, ri size), (1, ri k_), (2, ri stride), (3, ri pad)], [], [], 46⟩ k = k ⟨[(8, ri (0 : Int))], [], [], 46⟩ := by kernel_rfl
def shape_Out_r3_q {β : Type} (size : Int) (k_ : Int) (stride : Int) (pad : Int) (K : Int → Option β) : Option β := (bif (stride == (0:Int)) then none else (K (IntKind.wrap .i64 ((1 : Int) + (IntKind.wrap .i64 (Int.tdiv (IntKind.wrap .i64 ((IntKind.wrap .i64 (size + (IntKind.wrap .i64 ((2 : Int) * pad)))) - k_)) stride))))))
def shape_Out_r3_p (size : Int) (k_ : Int) (stride : Int) (pad : Int) : Option (Int) := shape_Out_r3_q size k_ stride pad some
theorem shape_Out_r3_n {β : Type} (size : Int) (k_ : Int) (stride : Int) (pad : Int) (K : Int → Option β) : shape_Out_r3_q size k_ stride pad K = (shape_Out_r3_p size k_ stride pad).bind K := (bif_b none_b some_b)
theorem shape_Out_r3 {α : Type} (size : Int) (k_ : Int) (stride : Int) (pad : Int) (k : St → Option α) : P2 1 C2.r.r ⟨[(0, ri size), (1, ri k_), (2, ri stride), (3, ri pad)], [], [], 46⟩ k = Option.bind (shape_Out_r3_p size k_ stride pad) (fun y33 : Int => k ⟨[(8, ri y33)], [], [], 46⟩) := Eq.trans (by kernel_rfl) (shape_Out_r3_n size k_ stride pad _)
/-- quilt/shape.Out -/
def shape_Out_q {β : Type} (size : Int) (k_ : Int) (stride : Int) (pad : Int) (K : Int → Option β) : Option β := (Option.bind (shape_Out_r1_p size k_ stride pad) (fun y32 : Bool => (bif y32 then (K (0 : Int)) else (Option.bind (shape_Out_r3_p size k_ stride pad) (fun y33 : Int => (K y33))))))
def shape_Out (size : Int) (k_ : Int) (stride : Int) (pad : Int) : Option Int := shape_Out_q size k_ stride pad some
theorem shape_Out_n {β : Type} (size : Int) (k_ : Int) (stride : Int) (pad : Int) (K : Int → Option β) : shape_Out_q size k_ stride pad K = (shape_Out size k_ stride pad).bind K := (bind_b fun y32 => (bif_b some_b (bind_b fun y33 => some_b)))
theorem shape_Out_is (size : Int) (k_ : Int) (stride : Int) (pad : Int) : stepS E cp2 noE 10 [ri size, ri k_, ri stride, ri pad] = Option.bind (shape_Out size k_ stride pad) (fun y : Int => some (ri y : R)) := by
  refine Eq.trans ?_ (shape_Out_n size k_ stride pad (fun y : Int => some (ri y : R)))
  refine (stepG_is (nt := 46) (regs := [(0, ri size), (1, ri k_), (2, ri stride), (3, ri pad)]) (by kernel_rfl) (by kernel_rfl)).trans ?_
  unfold shape_Out_q
  refine (pre (n := 1) (c' := C2.r) (by kernel_rfl) (by kernel_rfl) (shape_Out_f1 size k_ stride pad _)).trans ?_
  refine (seq_push (by kernel_rfl)).trans ?_
  refine (pre (n := 1) (c' := C2.r.l.r) (by kernel_rfl) (by kernel_rfl) (shape_Out_r1 size k_ stride pad _)).trans (bind_g fun y32 => ?_)
  refine (cond_eq (b := y32) (st' := ⟨[(0, ri size), (1, ri k_), (2, ri stride), (3, ri pad)], [], [], 46⟩) (by kernel_rfl) (by kernel_rfl) (by kernel_rfl)).trans (bif_g ?_ ?_)
  · refine (pre (n := 1) (c' := C2.r.l.r.t.r) (by kernel_rfl) (by kernel_rfl) (shape_Out_fz size k_ stride pad _)).trans ?_
    refine (ret_eq (by kernel_rfl)).trans ?_
    refine seqC_ret.trans ?_
    kernel_rfl
  · refine (skip_eq (by kernel_rfl)).trans ?_
    refine (seqC_normal (st' := ⟨[(0, ri size), (1, ri k_), (2, ri stride), (3, ri pad)], [], [], 46⟩) (by kernel_rfl)).trans ?_
    refine (pre (n := 1) (c' := C2.r.r.r) (by kernel_rfl) (by kernel_rfl) (shape_Out_r3 size k_ stride pad _)).trans (bind_g fun y33 => ?_)
    refine (ret_eq (by kernel_rfl)).trans ?_
    kernel_rfl
theorem shape_Out_c (x : denL [(.one (.g (.int .i64))), (.one (.g (.int .i64))), (.one (.g (.int .i64))), (.one (.g (.int .i64)))]) : stepS E cp2 noE 10 (encL [(.one (.g (.int .i64))), (.one (.g (.int .i64))), (.one (.g (.int .i64))), (.one (.g (.int .i64)))] x) = ((fun x => shape_Out x.1 x.2.1 x.2.2.1 x.2.2.2.1) x).bind fun y => some (Po.enc (.one (.one (.g (.int .i64)))) ((fun y : Int => y) y)) := Eq.mp (by kernel_rfl) (shape_Out_is x.1 x.2.1 x.2.2.1 x.2.2.2.1)
noncomputable def cp3 : CallP := withC cp2 10 [(.one (.g (.int .i64))), (.one (.g (.int .i64))), (.one (.g (.int .i64))), (.one (.g (.int .i64)))] (.one (.one (.g (.int .i64)))) (fun y : Int => y) (fun x => shape_Out x.1 x.2.1 x.2.2.1 x.2.2.2.1)
theorem cp3_ok : PureOK E cp3 := withC_ok cp2_ok (stepS_ok eok cp2_ok noE_ok) fun x => con_of (enc := fun y => Po.enc (.one (.one (.g (.int .i64)))) ((fun y : Int => y) y)) (shape_Out_c x)
noncomputable abbrev C3 : Code := codeOf E.P 9
noncomputable abbrev P3 {α : Type} (n : Nat) (c : Code) (st : St) (k : St → Option α) : Option α := preK E 9 cp3 noE n c st k
noncomputable abbrev R3 {α : Type} (c : Code) (st : St) (k : Kont α) : Option α := runCode E 9 cp3 noE c st k
noncomputable abbrev Q3 {α : Type} (c : Code) (k : Kont α) : Kont α := seqC E 9 cp3 noE c k
theorem shape_Reach_r1 {α : Type} (first : Int) (rows : Int) (k_ : Int) (stride : Int) (pad : Int) (size : Int) (k : St → Option α) : P3 2 C3 ⟨[(0, ri first), (1, ri rows), (2, ri k_), (3, ri stride), (4, ri pad), (5, ri size)], [], [], 78⟩ k = Option.bind (shape_Out size k_ stride pad) fun y34 : Int => k ⟨[(0, ri first), (1, ri rows), (2, ri k_), (3, ri stride), (4, ri pad), (5, ri size), (14, ri y34)], [], [], 78⟩ := by kernel_rfl
def shape_Reach_r2_q {β : Type} (first : Int) (rows : Int) (y34 : Int) (K : Bool → β) : β := (bif (decide (first < (0 : Int))) then (K true) else (bif (decide (rows < (1 : Int))) then (K true) else (bif (decide (first > y34)) then (K true) else (K (decide (rows > (IntKind.wrap .i64 (y34 - first))))))))
def shape_Reach_r2_p (first : Int) (rows : Int) (y34 : Int) : Bool := shape_Reach_r2_q first rows y34 (fun y => y)
theorem shape_Reach_r2_n {β : Type} (first : Int) (rows : Int) (y34 : Int) (K : Bool → β) : shape_Reach_r2_q first rows y34 K = K (shape_Reach_r2_p first rows y34) := (bif_k K rfl (bif_k K rfl (bif_k K rfl rfl)))
theorem shape_Reach_r2 {α : Type} (first : Int) (rows : Int) (k_ : Int) (stride : Int) (pad : Int) (size : Int) (y34 : Int) (k : St → Option α) : P3 1 C3.r.r.l ⟨[(0, ri first), (1, ri rows), (2, ri k_), (3, ri stride), (4, ri pad), (5, ri size), (14, ri y34)], [], [], 78⟩ k = k ⟨[(0, ri first), (1, ri rows), (2, ri k_), (3, ri stride), (4, ri pad), (5, ri size), (40, rb (shape_Reach_r2_p first rows y34))], [], [], 78⟩ := Eq.trans (by kernel_rfl) (shape_Reach_r2_n first rows y34 (fun y36 : Bool => k ⟨[(0, ri first), (1, ri rows), (2, ri k_), (3, ri stride), (4, ri pad), (5, ri size), (40, rb y36)], [], [], 78⟩))
theorem shape_Reach_fz {α : Type} (first : Int) (rows : Int) (k_ : Int) (stride : Int) (pad : Int) (size : Int) (k : St → Option α) : P3 1 C3.r.r.l.r.t ⟨[(0, ri first), (1, ri rows), (2, ri k_), (3, ri stride), (4, ri pad), (5, ri size)], [], [], 78⟩ k = k ⟨[(12, ri (0 : Int)), (13, ri (0 : Int))], [], [], 78⟩ := by kernel_rfl
theorem shape_Reach_f5 {α : Type} (first : Int) (rows : Int) (k_ : Int) (stride : Int) (pad : Int) (size : Int) (k : St → Option α) : P3 1 C3.r.r.r ⟨[(0, ri first), (1, ri rows), (2, ri k_), (3, ri stride), (4, ri pad), (5, ri size)], [], [], 78⟩ k = k ⟨[(0, ri first), (1, ri rows), (2, ri k_), (3, ri stride), (4, ri pad), (5, ri size), (12, ri size), (13, ri (0 : Int))], [], [], 78⟩ := by kernel_rfl
theorem shape_Reach_f6 {α : Type} (first : Int) (rows : Int) (k_ : Int) (stride : Int) (pad : Int) (size : Int) (k : St → Option α) : P3 1 C3.r.r.r.r.l ⟨[(0, ri first), (1, ri rows), (2, ri k_), (3, ri stride), (4, ri pad), (5, ri size), (12, ri size), (13, ri (0 : Int))], [], [], 78⟩ k = k ⟨[(0, ri first), (1, ri rows), (2, ri k_), (3, ri stride), (4, ri pad), (5, ri size), (12, ri size), (13, ri (0 : Int)), (15, ri first)], [], [], 78⟩ := by kernel_rfl
theorem shape_Reach_fzx1 {α : Type} (first : Int) (rows : Int) (k_ : Int) (stride : Int) (pad : Int) (size : Int) (s53 : (Int × Int × Int)) (k : St → Option α) : P3 1 (bodyOf (bodyOf C3.r.r.r.r.l.r)).l ⟨[(0, ri first), (1, ri rows), (2, ri k_), (3, ri stride), (4, ri pad), (5, ri size), (12, ri s53.1), (13, ri s53.2.1), (15, ri s53.2.2)], [], [], 78⟩ k = k ⟨[(0, ri first), (1, ri rows), (2, ri k_), (3, ri stride), (4, ri pad), (5, ri size), (12, ri s53.1), (13, ri s53.2.1), (15, ri s53.2.2), (47, rb (decide (s53.2.2 < (IntKind.wrap .i64 (first + rows)))))], [], [], 78⟩ := by kernel_rfl
def shape_Reach_r8_q {β : Type} (k_ : Int) (stride : Int) (pad : Int) (size : Int) (s53 : (Int × Int × Int)) (K : Int → β) : β := (K (min size (IntKind.wrap .i64 ((IntKind.wrap .i64 ((IntKind.wrap .i64 (s53.2.2 * stride)) - pad)) + k_))))
def shape_Reach_r8_p (k_ : Int) (stride : Int) (pad : Int) (size : Int) (s53 : (Int × Int × Int)) : Int := shape_Reach_r8_q k_ stride pad size s53 (fun y => y)
theorem shape_Reach_r8_n {β : Type} (k_ : Int) (stride : Int) (pad : Int) (size : Int) (s53 : (Int × Int × Int)) (K : Int → β) : shape_Reach_r8_q k_ stride pad size s53 K = K (shape_Reach_r8_p k_ stride pad size s53) := rfl
theorem shape_Reach_r8 {α : Type} (first : Int) (rows : Int) (k_ : Int) (stride : Int) (pad : Int) (size : Int) (s53 : (Int × Int × Int)) (k : St → Option α) : P3 1 (bodyOf (bodyOf (bodyOf C3.r.r.r.r.l.r)).r.l) ⟨[(0, ri first), (1, ri rows), (2, ri k_), (3, ri stride), (4, ri pad), (5, ri size), (12, ri s53.1), (13, ri s53.2.1), (15, ri s53.2.2)], [], [], 78⟩ k = k ⟨[(0, ri first), (1, ri rows), (2, ri k_), (3, ri stride), (4, ri pad), (5, ri size), (12, ri s53.1), (13, ri s53.2.1), (15, ri s53.2.2), (16, ri (max (0 : Int) (IntKind.wrap .i64 ((IntKind.wrap .i64 (s53.2.2 * stride)) - pad)))), (17, ri (shape_Reach_r8_p k_ stride pad size s53))], [], [], 78⟩ := Eq.trans (by kernel_rfl) (shape_Reach_r8_n k_ stride pad size s53 (fun y54 : Int => k ⟨[(0, ri first), (1, ri rows), (2, ri k_), (3, ri stride), (4, ri pad), (5, ri size), (12, ri s53.1), (13, ri s53.2.1), (15, ri s53.2.2), (16, ri (max (0 : Int) (IntKind.wrap .i64 ((IntKind.wrap .i64 (s53.2.2 * stride)) - pad)))), (17, ri y54)], [], [], 78⟩))
def shape_Reach_r9_q {β : Type} (k_ : Int) (stride : Int) (pad : Int) (size : Int) (s53 : (Int × Int × Int)) (K : Bool → β) : β := (K (decide ((max (0 : Int) (IntKind.wrap .i64 ((IntKind.wrap .i64 (s53.2.2 * stride)) - pad))) < (shape_Reach_r8_p k_ stride pad size s53))))
def shape_Reach_r9_p (k_ : Int) (stride : Int) (pad : Int) (size : Int) (s53 : (Int × Int × Int)) : Bool := shape_Reach_r9_q k_ stride pad size s53 (fun y => y)
theorem shape_Reach_r9_n {β : Type} (k_ : Int) (stride : Int) (pad : Int) (size : Int) (s53 : (Int × Int × Int)) (K : Bool → β) : shape_Reach_r9_q k_ stride pad size s53 K = K (shape_Reach_r9_p k_ stride pad size s53) := rfl
theorem shape_Reach_r9 {α : Type} (first : Int) (rows : Int) (k_ : Int) (stride : Int) (pad : Int) (size : Int) (s53 : (Int × Int × Int)) (k : St → Option α) : P3 1 (bodyOf (bodyOf (bodyOf C3.r.r.r.r.l.r)).r.l).r ⟨[(0, ri first), (1, ri rows), (2, ri k_), (3, ri stride), (4, ri pad), (5, ri size), (12, ri s53.1), (13, ri s53.2.1), (15, ri s53.2.2), (16, ri (max (0 : Int) (IntKind.wrap .i64 ((IntKind.wrap .i64 (s53.2.2 * stride)) - pad)))), (17, ri (shape_Reach_r8_p k_ stride pad size s53))], [], [], 78⟩ k = k ⟨[(0, ri first), (1, ri rows), (2, ri k_), (3, ri stride), (4, ri pad), (5, ri size), (12, ri s53.1), (13, ri s53.2.1), (15, ri s53.2.2), (16, ri (max (0 : Int) (IntKind.wrap .i64 ((IntKind.wrap .i64 (s53.2.2 * stride)) - pad)))), (17, ri (shape_Reach_r8_p k_ stride pad size s53)), (67, rb (shape_Reach_r9_p k_ stride pad size s53))], [], [], 78⟩ := Eq.trans (by kernel_rfl) (shape_Reach_r9_n k_ stride pad size s53 (fun y55 : Bool => k ⟨[(0, ri first), (1, ri rows), (2, ri k_), (3, ri stride), (4, ri pad), (5, ri size), (12, ri s53.1), (13, ri s53.2.1), (15, ri s53.2.2), (16, ri (max (0 : Int) (IntKind.wrap .i64 ((IntKind.wrap .i64 (s53.2.2 * stride)) - pad)))), (17, ri (shape_Reach_r8_p k_ stride pad size s53)), (67, rb y55)], [], [], 78⟩))
def shape_Reach_r10_q {β : Type} (stride : Int) (pad : Int) (s53 : (Int × Int × Int)) (K : Int → β) : β := (K (min s53.1 (max (0 : Int) (IntKind.wrap .i64 ((IntKind.wrap .i64 (s53.2.2 * stride)) - pad)))))
def shape_Reach_r10_p (stride : Int) (pad : Int) (s53 : (Int × Int × Int)) : Int := shape_Reach_r10_q stride pad s53 (fun y => y)
theorem shape_Reach_r10_n {β : Type} (stride : Int) (pad : Int) (s53 : (Int × Int × Int)) (K : Int → β) : shape_Reach_r10_q stride pad s53 K = K (shape_Reach_r10_p stride pad s53) := rfl
theorem shape_Reach_r10 {α : Type} (first : Int) (rows : Int) (k_ : Int) (stride : Int) (pad : Int) (size : Int) (s53 : (Int × Int × Int)) (k : Kont α) : R3 (bodyOf (bodyOf (bodyOf C3.r.r.r.r.l.r)).r.l).r.r.t ⟨[(0, ri first), (1, ri rows), (2, ri k_), (3, ri stride), (4, ri pad), (5, ri size), (12, ri s53.1), (13, ri s53.2.1), (15, ri s53.2.2), (16, ri (max (0 : Int) (IntKind.wrap .i64 ((IntKind.wrap .i64 (s53.2.2 * stride)) - pad)))), (17, ri (shape_Reach_r8_p k_ stride pad size s53))], [], [], 78⟩ k = k .normal ⟨[(0, ri first), (1, ri rows), (2, ri k_), (3, ri stride), (4, ri pad), (5, ri size), (12, ri (shape_Reach_r10_p stride pad s53)), (13, ri (max s53.2.1 (shape_Reach_r8_p k_ stride pad size s53))), (15, ri s53.2.2)], [], [], 78⟩ := Eq.trans (by kernel_rfl) (shape_Reach_r10_n stride pad s53 (fun y56 : Int => k .normal ⟨[(0, ri first), (1, ri rows), (2, ri k_), (3, ri stride), (4, ri pad), (5, ri size), (12, ri y56), (13, ri (max s53.2.1 (shape_Reach_r8_p k_ stride pad size s53))), (15, ri s53.2.2)], [], [], 78⟩))
def shape_Reach_j8_q {β : Type} (k_ : Int) (stride : Int) (pad : Int) (size : Int) (s53 : (Int × Int × Int)) (K : (Int × Int) → β) : β := (bif (shape_Reach_r9_p k_ stride pad size s53) then (K ((shape_Reach_r10_p stride pad s53), (max s53.2.1 (shape_Reach_r8_p k_ stride pad size s53)))) else (K (s53.1, s53.2.1)))
def shape_Reach_j8_p (k_ : Int) (stride : Int) (pad : Int) (size : Int) (s53 : (Int × Int × Int)) : (Int × Int) := shape_Reach_j8_q k_ stride pad size s53 (fun y => y)
theorem shape_Reach_j8_n {β : Type} (k_ : Int) (stride : Int) (pad : Int) (size : Int) (s53 : (Int × Int × Int)) (K : (Int × Int) → β) : shape_Reach_j8_q k_ stride pad size s53 K = K (shape_Reach_j8_p k_ stride pad size s53) := (bif_k K rfl rfl)
theorem shape_Reach_j8 {α : Type} (first : Int) (rows : Int) (k_ : Int) (stride : Int) (pad : Int) (size : Int) (s53 : (Int × Int × Int)) (k : Kont α) : R3 (bodyOf (bodyOf C3.r.r.r.r.l.r)).r.l ⟨[(0, ri first), (1, ri rows), (2, ri k_), (3, ri stride), (4, ri pad), (5, ri size), (12, ri s53.1), (13, ri s53.2.1), (15, ri s53.2.2)], [], [], 78⟩ (Q3 (bodyOf (bodyOf C3.r.r.r.r.l.r)).r.r k) = R3 (bodyOf (bodyOf C3.r.r.r.r.l.r)).r.r ⟨[(0, ri first), (1, ri rows), (2, ri k_), (3, ri stride), (4, ri pad), (5, ri size), (12, ri ((shape_Reach_j8_p k_ stride pad size s53).1)), (13, ri ((shape_Reach_j8_p k_ stride pad size s53).2)), (15, ri s53.2.2)], [], [], 78⟩ k := by
  refine Eq.trans ?_ (shape_Reach_j8_n k_ stride pad size s53 (fun y57 : (Int × Int) => R3 (bodyOf (bodyOf C3.r.r.r.r.l.r)).r.r ⟨[(0, ri first), (1, ri rows), (2, ri k_), (3, ri stride), (4, ri pad), (5, ri size), (12, ri y57.1), (13, ri y57.2), (15, ri s53.2.2)], [], [], 78⟩ k))
  unfold shape_Reach_j8_q
  refine (block_push (id := 1) (by kernel_rfl)).trans ?_
  refine (pre (n := 1) (c' := (bodyOf (bodyOf (bodyOf C3.r.r.r.r.l.r)).r.l).r) (by kernel_rfl) (by kernel_rfl) (shape_Reach_r8 first rows k_ stride pad size s53 _)).trans ?_
  refine (pre (n := 1) (c' := (bodyOf (bodyOf (bodyOf C3.r.r.r.r.l.r)).r.l).r.r) (by kernel_rfl) (by kernel_rfl) (shape_Reach_r9 first rows k_ stride pad size s53 _)).trans ?_
  refine (cond_eq (b := (shape_Reach_r9_p k_ stride pad size s53)) (st' := ⟨[(0, ri first), (1, ri rows), (2, ri k_), (3, ri stride), (4, ri pad), (5, ri size), (12, ri s53.1), (13, ri s53.2.1), (15, ri s53.2.2), (16, ri (max (0 : Int) (IntKind.wrap .i64 ((IntKind.wrap .i64 (s53.2.2 * stride)) - pad)))), (17, ri (shape_Reach_r8_p k_ stride pad size s53))], [], [], 78⟩) (by kernel_rfl) (by kernel_rfl) (by kernel_rfl)).trans (bif_g ?_ ?_)
  · refine (shape_Reach_r10 first rows k_ stride pad size s53 _).trans ?_
    refine block_normal.trans ?_
    refine (seqC_normal (st' := ⟨[(0, ri first), (1, ri rows), (2, ri k_), (3, ri stride), (4, ri pad), (5, ri size), (12, ri (shape_Reach_r10_p stride pad s53)), (13, ri (max s53.2.1 (shape_Reach_r8_p k_ stride pad size s53))), (15, ri s53.2.2)], [], [], 78⟩) (by kernel_rfl)).trans ?_
    kernel_rfl
  · refine (skip_eq (by kernel_rfl)).trans ?_
    refine block_normal.trans ?_
    refine (seqC_normal (st' := ⟨[(0, ri first), (1, ri rows), (2, ri k_), (3, ri stride), (4, ri pad), (5, ri size), (12, ri s53.1), (13, ri s53.2.1), (15, ri s53.2.2)], [], [], 78⟩) (by kernel_rfl)).trans ?_
    kernel_rfl
theorem shape_Reach_r7 {α : Type} (first : Int) (rows : Int) (k_ : Int) (stride : Int) (pad : Int) (size : Int) (s53 : (Int × Int × Int)) (k : Kont α) : R3 (bodyOf (bodyOf C3.r.r.r.r.l.r)).r.r ⟨[(0, ri first), (1, ri rows), (2, ri k_), (3, ri stride), (4, ri pad), (5, ri size), (12, ri ((shape_Reach_j8_p k_ stride pad size s53).1)), (13, ri ((shape_Reach_j8_p k_ stride pad size s53).2)), (15, ri s53.2.2)], [], [], 78⟩ k = k .normal ⟨[(0, ri first), (1, ri rows), (2, ri k_), (3, ri stride), (4, ri pad), (5, ri size), (12, ri ((shape_Reach_j8_p k_ stride pad size s53).1)), (13, ri ((shape_Reach_j8_p k_ stride pad size s53).2)), (15, ri (IntKind.wrap .i64 (s53.2.2 + (1 : Int))))], [], [], 78⟩ := by kernel_rfl
def shape_Reach_l6_q {β : Type} (first : Int) (rows : Int) (k_ : Int) (stride : Int) (pad : Int) (size : Int) (s53 : (Int × Int × Int)) (K0 : (Int × Int × Int) → Option β) (K1 : (Int × Int × Int) → Option β) : Option β := (bif (decide (s53.2.2 < (IntKind.wrap .i64 (first + rows)))) then (K0 ((shape_Reach_j8_p k_ stride pad size s53).1, (shape_Reach_j8_p k_ stride pad size s53).2, (IntKind.wrap .i64 (s53.2.2 + (1 : Int))))) else (K1 s53))
def shape_Reach_l6_p (first : Int) (rows : Int) (k_ : Int) (stride : Int) (pad : Int) (size : Int) (s53 : (Int × Int × Int)) : Option ((Int × Int × Int) ⊕ ((Int × Int × Int))) := shape_Reach_l6_q first rows k_ stride pad size s53 (fun y => some (Sum.inl y)) (fun y => some (Sum.inr y))
theorem shape_Reach_l6_n {β : Type} (first : Int) (rows : Int) (k_ : Int) (stride : Int) (pad : Int) (size : Int) (s53 : (Int × Int × Int)) (K0 : (Int × Int × Int) → Option β) (K1 : (Int × Int × Int) → Option β) : shape_Reach_l6_q first rows k_ stride pad size s53 K0 K1 = (shape_Reach_l6_p first rows k_ stride pad size s53).bind (either K0 K1) := (bif_b e2_0 e2_1)
theorem shape_Reach_l6_b {α : Type} (first : Int) (rows : Int) (k_ : Int) (stride : Int) (pad : Int) (size : Int) (s53 : (Int × Int × Int)) (k : Kont α) : R3 (bodyOf (bodyOf C3.r.r.r.r.l.r)) ⟨[(0, ri first), (1, ri rows), (2, ri k_), (3, ri stride), (4, ri pad), (5, ri size), (12, ri s53.1), (13, ri s53.2.1), (15, ri s53.2.2)], [], [], 78⟩ (loopKont 0 k) = Option.bind (shape_Reach_l6_p first rows k_ stride pad size s53) (either (fun y : (Int × Int × Int) => k .normal ⟨[(0, ri first), (1, ri rows), (2, ri k_), (3, ri stride), (4, ri pad), (5, ri size), (12, ri y.1), (13, ri y.2.1), (15, ri y.2.2)], [], [], 78⟩) (fun y58 : (Int × Int × Int) => k (.exit 0) ⟨[(0, ri first), (1, ri rows), (2, ri k_), (3, ri stride), (4, ri pad), (5, ri size), (12, ri y58.1), (13, ri y58.2.1), (15, ri y58.2.2)], [], [], 78⟩)) := by
  refine Eq.trans ?_ (shape_Reach_l6_n first rows k_ stride pad size s53 _ _)
  unfold shape_Reach_l6_q
  refine (seq_push (by kernel_rfl)).trans ?_
  refine (pre (n := 1) (c' := (bodyOf (bodyOf C3.r.r.r.r.l.r)).l.r) (by kernel_rfl) (by kernel_rfl) (shape_Reach_fzx1 first rows k_ stride pad size s53 _)).trans ?_
  refine (cond_eq (b := (decide (s53.2.2 < (IntKind.wrap .i64 (first + rows))))) (st' := ⟨[(0, ri first), (1, ri rows), (2, ri k_), (3, ri stride), (4, ri pad), (5, ri size), (12, ri s53.1), (13, ri s53.2.1), (15, ri s53.2.2)], [], [], 78⟩) (by kernel_rfl) (by kernel_rfl) (by kernel_rfl)).trans (bif_g ?_ ?_)
  · refine (skip_eq (by kernel_rfl)).trans ?_
    refine (seqC_normal (st' := ⟨[(0, ri first), (1, ri rows), (2, ri k_), (3, ri stride), (4, ri pad), (5, ri size), (12, ri s53.1), (13, ri s53.2.1), (15, ri s53.2.2)], [], [], 78⟩) (by kernel_rfl)).trans ?_
    refine (seq_push (by kernel_rfl)).trans ?_
    refine (shape_Reach_j8 first rows k_ stride pad size s53 _).trans ?_
    refine (shape_Reach_r7 first rows k_ stride pad size s53 _).trans ?_
    kernel_rfl
  · refine (exit_eq (j := 0) (by kernel_rfl)).trans ?_
    refine seqC_exit.trans ?_
    kernel_rfl
theorem shape_Reach_l6 {α : Type} (first : Int) (rows : Int) (k_ : Int) (stride : Int) (pad : Int) (size : Int) (k : Kont α) : R3 (bodyOf C3.r.r.r.r.l.r) ⟨[(0, ri first), (1, ri rows), (2, ri k_), (3, ri stride), (4, ri pad), (5, ri size), (12, ri size), (13, ri (0 : Int)), (15, ri first)], [], [], 78⟩ k = Option.bind (iterN (shape_Reach_l6_p first rows k_ stride pad size) LL (size, (0 : Int), first)) (fun y58 : (Int × Int × Int) => k (.exit 0) ⟨[(0, ri first), (1, ri rows), (2, ri k_), (3, ri stride), (4, ri pad), (5, ri size), (12, ri y58.1), (13, ri y58.2.1), (15, ri y58.2.2)], [], [], 78⟩) :=
  Eq.trans (by kernel_rfl) (loop_iter1 (S := fun s53 : (Int × Int × Int) => ⟨[(0, ri first), (1, ri rows), (2, ri k_), (3, ri stride), (4, ri pad), (5, ri size), (12, ri s53.1), (13, ri s53.2.1), (15, ri s53.2.2)], [], [], 78⟩) (Y1 := fun y58 : (Int × Int × Int) => ((.exit 0), ⟨[(0, ri first), (1, ri rows), (2, ri k_), (3, ri stride), (4, ri pad), (5, ri size), (12, ri y58.1), (13, ri y58.2.1), (15, ri y58.2.2)], [], [], 78⟩)) (fun s k => shape_Reach_l6_b first rows k_ stride pad size s k) (fun z => rfl) LL (size, (0 : Int), first))
theorem shape_Reach_f1000012 {α : Type} (y58 : (Int × Int × Int)) (k : St → Option α) : P3 1 C3.r.r.r.r.r.l ⟨[(12, ri y58.1), (13, ri y58.2.1)], [], [], 78⟩ k = k ⟨[(12, ri y58.1), (13, ri y58.2.1), (75, rb (y58.2.1 == (0 : Int)))], [], [], 78⟩ := by kernel_rfl
theorem shape_Reach_fzx2 {α : Type} (y58 : (Int × Int × Int)) (k : St → Option α) : P3 1 C3.r.r.r.r.r.l.r.t ⟨[(12, ri y58.1), (13, ri y58.2.1)], [], [], 78⟩ k = k ⟨[(12, ri (0 : Int)), (13, ri (0 : Int))], [], [], 78⟩ := by kernel_rfl
theorem shape_Reach_fzx3 {α : Type} (y58 : (Int × Int × Int)) (k : St → Option α) : P3 1 C3.r.r.r.r.r.r ⟨[(12, ri y58.1), (13, ri y58.2.1)], [], [], 78⟩ k = k ⟨[(12, ri y58.1), (13, ri y58.2.1)], [], [], 78⟩ := by kernel_rfl
/-- quilt/shape.Reach -/
def shape_Reach_q {β : Type} (first : Int) (rows : Int) (k_ : Int) (stride : Int) (pad : Int) (size : Int) (K : (Int × Int) → Option β) : Option β := (Option.bind (shape_Out size k_ stride pad) (fun y34 : Int => (bif (shape_Reach_r2_p first rows y34) then (K ((0 : Int), (0 : Int))) else (Option.bind (iterN (shape_Reach_l6_p first rows k_ stride pad size) LL (size, (0 : Int), first)) (fun y58 : (Int × Int × Int) => (bif (y58.2.1 == (0 : Int)) then (K ((0 : Int), (0 : Int))) else (K (y58.1, y58.2.1))))))))
def shape_Reach (first : Int) (rows : Int) (k_ : Int) (stride : Int) (pad : Int) (size : Int) : Option (Int × Int) := shape_Reach_q first rows k_ stride pad size some
theorem shape_Reach_n {β : Type} (first : Int) (rows : Int) (k_ : Int) (stride : Int) (pad : Int) (size : Int) (K : (Int × Int) → Option β) : shape_Reach_q first rows k_ stride pad size K = (shape_Reach first rows k_ stride pad size).bind K := (bind_b fun y34 => (bif_b some_b (bind_b fun y58 => (bif_b some_b some_b))))
theorem shape_Reach_is (first : Int) (rows : Int) (k_ : Int) (stride : Int) (pad : Int) (size : Int) : stepS E cp3 noE 9 [ri first, ri rows, ri k_, ri stride, ri pad, ri size] = Option.bind (shape_Reach first rows k_ stride pad size) (fun y : (Int × Int) => some (.tup [ri y.1, ri y.2] : R)) := by
  refine Eq.trans ?_ (shape_Reach_n first rows k_ stride pad size (fun y : (Int × Int) => some (.tup [ri y.1, ri y.2] : R)))
  refine (stepG_is (nt := 78) (regs := [(0, ri first), (1, ri rows), (2, ri k_), (3, ri stride), (4, ri pad), (5, ri size)]) (by kernel_rfl) (by kernel_rfl)).trans ?_
  unfold shape_Reach_q
  refine (pre (n := 2) (c' := C3.r.r) (by kernel_rfl) (by kernel_rfl) (shape_Reach_r1 first rows k_ stride pad size _)).trans (bind_g fun y34 => ?_)
  refine (seq_push (by kernel_rfl)).trans ?_
  refine (pre (n := 1) (c' := C3.r.r.l.r) (by kernel_rfl) (by kernel_rfl) (shape_Reach_r2 first rows k_ stride pad size y34 _)).trans ?_
  refine (cond_eq (b := (shape_Reach_r2_p first rows y34)) (st' := ⟨[(0, ri first), (1, ri rows), (2, ri k_), (3, ri stride), (4, ri pad), (5, ri size)], [], [], 78⟩) (by kernel_rfl) (by kernel_rfl) (by kernel_rfl)).trans (bif_g ?_ ?_)
  · refine (pre (n := 1) (c' := C3.r.r.l.r.t.r) (by kernel_rfl) (by kernel_rfl) (shape_Reach_fz first rows k_ stride pad size _)).trans ?_
    refine (ret_eq (by kernel_rfl)).trans ?_
    refine seqC_ret.trans ?_
    kernel_rfl
  · refine (skip_eq (by kernel_rfl)).trans ?_
    refine (seqC_normal (st' := ⟨[(0, ri first), (1, ri rows), (2, ri k_), (3, ri stride), (4, ri pad), (5, ri size)], [], [], 78⟩) (by kernel_rfl)).trans ?_
    refine (pre (n := 1) (c' := C3.r.r.r.r) (by kernel_rfl) (by kernel_rfl) (shape_Reach_f5 first rows k_ stride pad size _)).trans ?_
    refine (seq_push (by kernel_rfl)).trans ?_
    refine (pre (n := 1) (c' := C3.r.r.r.r.l.r) (by kernel_rfl) (by kernel_rfl) (shape_Reach_f6 first rows k_ stride pad size _)).trans ?_
    refine (block_push (id := 0) (by kernel_rfl)).trans ?_
    refine (shape_Reach_l6 first rows k_ stride pad size _).trans (bind_g fun y58 => ?_)
    refine block_same.trans ?_
    refine (seqC_normal (st' := ⟨[(12, ri y58.1), (13, ri y58.2.1)], [], [], 78⟩) (by kernel_rfl)).trans ?_
    refine (seq_push (by kernel_rfl)).trans ?_
    refine (pre (n := 1) (c' := C3.r.r.r.r.r.l.r) (by kernel_rfl) (by kernel_rfl) (shape_Reach_f1000012 y58 _)).trans ?_
    refine (cond_eq (b := (y58.2.1 == (0 : Int))) (st' := ⟨[(12, ri y58.1), (13, ri y58.2.1)], [], [], 78⟩) (by kernel_rfl) (by kernel_rfl) (by kernel_rfl)).trans (bif_g ?_ ?_)
    · refine (pre (n := 1) (c' := C3.r.r.r.r.r.l.r.t.r) (by kernel_rfl) (by kernel_rfl) (shape_Reach_fzx2 y58 _)).trans ?_
      refine (ret_eq (by kernel_rfl)).trans ?_
      refine seqC_ret.trans ?_
      kernel_rfl
    · refine (skip_eq (by kernel_rfl)).trans ?_
      refine (seqC_normal (st' := ⟨[(12, ri y58.1), (13, ri y58.2.1)], [], [], 78⟩) (by kernel_rfl)).trans ?_
      refine (pre (n := 1) (c' := C3.r.r.r.r.r.r.r) (by kernel_rfl) (by kernel_rfl) (shape_Reach_fzx3 y58 _)).trans ?_
      refine (ret_eq (by kernel_rfl)).trans ?_
      kernel_rfl
theorem shape_Reach_c (x : denL [(.one (.g (.int .i64))), (.one (.g (.int .i64))), (.one (.g (.int .i64))), (.one (.g (.int .i64))), (.one (.g (.int .i64))), (.one (.g (.int .i64)))]) : stepS E cp3 noE 9 (encL [(.one (.g (.int .i64))), (.one (.g (.int .i64))), (.one (.g (.int .i64))), (.one (.g (.int .i64))), (.one (.g (.int .i64))), (.one (.g (.int .i64)))] x) = ((fun x => shape_Reach x.1 x.2.1 x.2.2.1 x.2.2.2.1 x.2.2.2.2.1 x.2.2.2.2.2.1) x).bind fun y => some (Po.enc (.tup [(.one (.g (.int .i64))), (.one (.g (.int .i64)))]) ((fun y : (Int × Int) => (y.1, y.2, ())) y)) := Eq.mp (by kernel_rfl) (shape_Reach_is x.1 x.2.1 x.2.2.1 x.2.2.2.1 x.2.2.2.2.1 x.2.2.2.2.2.1)
noncomputable def cp4 : CallP := withC cp3 9 [(.one (.g (.int .i64))), (.one (.g (.int .i64))), (.one (.g (.int .i64))), (.one (.g (.int .i64))), (.one (.g (.int .i64))), (.one (.g (.int .i64)))] (.tup [(.one (.g (.int .i64))), (.one (.g (.int .i64)))]) (fun y : (Int × Int) => (y.1, y.2, ())) (fun x => shape_Reach x.1 x.2.1 x.2.2.1 x.2.2.2.1 x.2.2.2.2.1 x.2.2.2.2.2.1)
theorem cp4_ok : PureOK E cp4 := withC_ok cp3_ok (stepS_ok eok cp3_ok noE_ok) fun x => con_of (enc := fun y => Po.enc (.tup [(.one (.g (.int .i64))), (.one (.g (.int .i64)))]) ((fun y : (Int × Int) => (y.1, y.2, ())) y)) (shape_Reach_c x)
noncomputable abbrev C4 : Code := codeOf E.P 11
noncomputable abbrev P4 {α : Type} (n : Nat) (c : Code) (st : St) (k : St → Option α) : Option α := preK E 11 cp4 noE n c st k
noncomputable abbrev R4 {α : Type} (c : Code) (st : St) (k : Kont α) : Option α := runCode E 11 cp4 noE c st k
noncomputable abbrev Q4 {α : Type} (c : Code) (k : Kont α) : Kont α := seqC E 11 cp4 noE c k
def shape_may_r1_q {β : Type} (s_ : I3) (K : Bool → Option β) : Option β := (Option.bind (shape_within_1 [s_.1, s_.2.1] (((shape_within (1 : Int) (16 : Int)).1).1) (((shape_within (1 : Int) (16 : Int)).2.1).1)) (fun y61 : Bool => (bif y61 then (Option.bind (shape_within_1 [s_.2.2] (((shape_within (1 : Int) (8 : Int)).1).1) (((shape_within (1 : Int) (8 : Int)).2.1).1)) (fun y62 : Bool => (K y62))) else (K false))))
def shape_may_r1_p (s_ : I3) : Option (Bool) := shape_may_r1_q s_ some
theorem shape_may_r1_n {β : Type} (s_ : I3) (K : Bool → Option β) : shape_may_r1_q s_ K = (shape_may_r1_p s_).bind K := (bind_b fun y61 => (bif_b (bind_b fun y62 => some_b) some_b))
theorem shape_may_r1 {α : Type} (s_ : I3) (k : St → Option α) : P4 2 C4 ⟨[(0, .agg (tsI3.leaves s_))], [], [], 17⟩ k = Option.bind (shape_may_r1_p s_) (fun y63 : Bool => k ⟨[(2, rb y63)], [], [], 17⟩) := Eq.trans (by kernel_rfl) (shape_may_r1_n s_ _)
/-- quilt/shape.may -/
def shape_may_q {β : Type} (s_ : I3) (K : Bool → Option β) : Option β := (Option.bind (shape_may_r1_p s_) (fun y63 : Bool => (K y63)))
def shape_may (s_ : I3) : Option Bool := shape_may_q s_ some
theorem shape_may_n {β : Type} (s_ : I3) (K : Bool → Option β) : shape_may_q s_ K = (shape_may s_).bind K := (bind_b fun y63 => some_b)
theorem shape_may_is (s_ : I3) : stepS E cp4 noE 11 [.agg (tsI3.leaves s_)] = Option.bind (shape_may s_) (fun y : Bool => some (rb y : R)) := by
  refine Eq.trans ?_ (shape_may_n s_ (fun y : Bool => some (rb y : R)))
  refine (stepG_is (nt := 17) (regs := [(0, .agg (tsI3.leaves s_))]) (by kernel_rfl) (by kernel_rfl)).trans ?_
  unfold shape_may_q
  refine (pre (n := 2) (c' := C4.r.r) (by kernel_rfl) (by kernel_rfl) (shape_may_r1 s_ _)).trans (bind_g fun y63 => ?_)
  refine (ret_eq (by kernel_rfl)).trans ?_
  kernel_rfl
theorem shape_may_c (x : denL [(.agg tsI3)]) : stepS E cp4 noE 11 (encL [(.agg tsI3)] x) = ((fun x => shape_may x.1) x).bind fun y => some (Po.enc (.one (.one (.g .bool))) ((fun y : Bool => y) y)) := Eq.mp (by kernel_rfl) (shape_may_is x.1)
noncomputable def cp5 : CallP := withC cp4 11 [(.agg tsI3)] (.one (.one (.g .bool))) (fun y : Bool => y) (fun x => shape_may x.1)
theorem cp5_ok : PureOK E cp5 := withC_ok cp4_ok (stepS_ok eok cp4_ok noE_ok) fun x => con_of (enc := fun y => Po.enc (.one (.one (.g .bool))) ((fun y : Bool => y) y)) (shape_may_c x)
noncomputable abbrev C5 : Code := codeOf E.P 8
noncomputable abbrev P5 {α : Type} (n : Nat) (c : Code) (st : St) (k : St → Option α) : Option α := preK E 8 cp5 noE n c st k
noncomputable abbrev R5 {α : Type} (c : Code) (st : St) (k : Kont α) : Option α := runCode E 8 cp5 noE c st k
noncomputable abbrev Q5 {α : Type} (c : Code) (k : Kont α) : Kont α := seqC E 8 cp5 noE c k
theorem shape_Row_f1 {α : Type} (s_ : I3) (k : St → Option α) : P5 1 C5 ⟨[(0, .agg (tsI3.leaves s_))], [], [], 11⟩ k = k ⟨[(1, .one (.cell (tsI3.leaves s_)))], [], [], 11⟩ := by kernel_rfl
theorem shape_Row_r1 {α : Type} (s_ : I3) (k : St → Option α) : P5 1 C5.r.l ⟨[(1, .one (.cell (tsI3.leaves s_)))], [], [], 11⟩ k = Option.bind (shape_may s_) fun y65 : Bool => k ⟨[(1, .one (.cell (tsI3.leaves s_))), (5, rb (!y65))], [], [], 11⟩ := by kernel_rfl
theorem shape_Row_fz {α : Type} (s_ : I3) (k : St → Option α) : P5 1 C5.r.l.r.t ⟨[(1, .one (.cell (tsI3.leaves s_)))], [], [], 11⟩ k = k ⟨[(2, ri (0 : Int))], [], [], 11⟩ := by kernel_rfl
theorem shape_Row_fzx1 {α : Type} (s_ : I3) (k : St → Option α) : P5 1 C5.r.r ⟨[(1, .one (.cell (tsI3.leaves s_)))], [], [], 11⟩ k = k ⟨[(2, ri (IntKind.wrap .i64 (s_.2.1 * s_.2.2)))], [], [], 11⟩ := by kernel_rfl
/-- quilt/shape.Row -/
def shape_Row_q {β : Type} (s_ : I3) (K : Int → Option β) : Option β := (Option.bind (shape_may s_) (fun y65 : Bool => (bif (!y65) then (K (0 : Int)) else (K (IntKind.wrap .i64 (s_.2.1 * s_.2.2))))))
def shape_Row (s_ : I3) : Option Int := shape_Row_q s_ some
theorem shape_Row_n {β : Type} (s_ : I3) (K : Int → Option β) : shape_Row_q s_ K = (shape_Row s_).bind K := (bind_b fun y65 => (bif_b some_b some_b))
theorem shape_Row_is (s_ : I3) : stepS E cp5 noE 8 [.agg (tsI3.leaves s_)] = Option.bind (shape_Row s_) (fun y : Int => some (ri y : R)) := by
  refine Eq.trans ?_ (shape_Row_n s_ (fun y : Int => some (ri y : R)))
  refine (stepG_is (nt := 11) (regs := [(0, .agg (tsI3.leaves s_))]) (by kernel_rfl) (by kernel_rfl)).trans ?_
  unfold shape_Row_q
  refine (pre (n := 1) (c' := C5.r) (by kernel_rfl) (by kernel_rfl) (shape_Row_f1 s_ _)).trans ?_
  refine (seq_push (by kernel_rfl)).trans ?_
  refine (pre (n := 1) (c' := C5.r.l.r) (by kernel_rfl) (by kernel_rfl) (shape_Row_r1 s_ _)).trans (bind_g fun y65 => ?_)
  refine (cond_eq (b := (!y65)) (st' := ⟨[(1, .one (.cell (tsI3.leaves s_)))], [], [], 11⟩) (by kernel_rfl) (by kernel_rfl) (by kernel_rfl)).trans (bif_g ?_ ?_)
  · refine (pre (n := 1) (c' := C5.r.l.r.t.r) (by kernel_rfl) (by kernel_rfl) (shape_Row_fz s_ _)).trans ?_
    refine (ret_eq (by kernel_rfl)).trans ?_
    refine seqC_ret.trans ?_
    kernel_rfl
  · refine (skip_eq (by kernel_rfl)).trans ?_
    refine (seqC_normal (st' := ⟨[(1, .one (.cell (tsI3.leaves s_)))], [], [], 11⟩) (by kernel_rfl)).trans ?_
    refine (pre (n := 1) (c' := C5.r.r.r) (by kernel_rfl) (by kernel_rfl) (shape_Row_fzx1 s_ _)).trans ?_
    refine (ret_eq (by kernel_rfl)).trans ?_
    kernel_rfl
theorem shape_Row_c (x : denL [(.agg tsI3)]) : stepS E cp5 noE 8 (encL [(.agg tsI3)] x) = ((fun x => shape_Row x.1) x).bind fun y => some (Po.enc (.one (.one (.g (.int .i64)))) ((fun y : Int => y) y)) := Eq.mp (by kernel_rfl) (shape_Row_is x.1)
noncomputable def cp6 : CallP := withC cp5 8 [(.agg tsI3)] (.one (.one (.g (.int .i64)))) (fun y : Int => y) (fun x => shape_Row x.1)
theorem cp6_ok : PureOK E cp6 := withC_ok cp5_ok (stepS_ok eok cp5_ok noE_ok) fun x => con_of (enc := fun y => Po.enc (.one (.one (.g (.int .i64)))) ((fun y : Int => y) y)) (shape_Row_c x)
noncomputable abbrev C6 : Code := codeOf E.P 7
noncomputable abbrev P6 {α : Type} (n : Nat) (c : Code) (st : St) (k : St → Option α) : Option α := preK E 7 cp6 noE n c st k
noncomputable abbrev R6 {α : Type} (c : Code) (st : St) (k : Kont α) : Option α := runCode E 7 cp6 noE c st k
noncomputable abbrev Q6 {α : Type} (c : Code) (k : Kont α) : Kont α := seqC E 7 cp6 noE c k
theorem shape_Size_r1 {α : Type} (s_ : I3) (k : St → Option α) : P6 2 C6 ⟨[(0, .agg (tsI3.leaves s_))], [], [], 8⟩ k = Option.bind (shape_Row s_) fun y66 : Int => k ⟨[(2, ri (IntKind.wrap .i64 (y66 * s_.1)))], [], [], 8⟩ := by kernel_rfl
/-- quilt/shape.Size -/
def shape_Size_q {β : Type} (s_ : I3) (K : Int → Option β) : Option β := (Option.bind (shape_Row s_) (fun y66 : Int => (K (IntKind.wrap .i64 (y66 * s_.1)))))
def shape_Size (s_ : I3) : Option Int := shape_Size_q s_ some
theorem shape_Size_n {β : Type} (s_ : I3) (K : Int → Option β) : shape_Size_q s_ K = (shape_Size s_).bind K := (bind_b fun y66 => some_b)
theorem shape_Size_is (s_ : I3) : stepS E cp6 noE 7 [.agg (tsI3.leaves s_)] = Option.bind (shape_Size s_) (fun y : Int => some (ri y : R)) := by
  refine Eq.trans ?_ (shape_Size_n s_ (fun y : Int => some (ri y : R)))
  refine (stepG_is (nt := 8) (regs := [(0, .agg (tsI3.leaves s_))]) (by kernel_rfl) (by kernel_rfl)).trans ?_
  unfold shape_Size_q
  refine (pre (n := 2) (c' := C6.r.r) (by kernel_rfl) (by kernel_rfl) (shape_Size_r1 s_ _)).trans (bind_g fun y66 => ?_)
  refine (ret_eq (by kernel_rfl)).trans ?_
  kernel_rfl
theorem shape_Size_c (x : denL [(.agg tsI3)]) : stepS E cp6 noE 7 (encL [(.agg tsI3)] x) = ((fun x => shape_Size x.1) x).bind fun y => some (Po.enc (.one (.one (.g (.int .i64)))) ((fun y : Int => y) y)) := Eq.mp (by kernel_rfl) (shape_Size_is x.1)
noncomputable def cp7 : CallP := withC cp6 7 [(.agg tsI3)] (.one (.one (.g (.int .i64)))) (fun y : Int => y) (fun x => shape_Size x.1)
theorem cp7_ok : PureOK E cp7 := withC_ok cp6_ok (stepS_ok eok cp6_ok noE_ok) fun x => con_of (enc := fun y => Po.enc (.one (.one (.g (.int .i64)))) ((fun y : Int => y) y)) (shape_Size_c x)
noncomputable abbrev C7 : Code := codeOf E.P 4
noncomputable abbrev P7 {α : Type} (n : Nat) (c : Code) (st : St) (k : St → Option α) : Option α := preK E 4 cp7 noE n c st k
noncomputable abbrev R7 {α : Type} (c : Code) (st : St) (k : Kont α) : Option α := runCode E 4 cp7 noE c st k
noncomputable abbrev Q7 {α : Type} (c : Code) (k : Kont α) : Kont α := seqC E 4 cp7 noE c k
theorem law02_shown_r1 {α : Type} (k : St → Option α) : P7 2 C7 ⟨[], [], [], 22⟩ k = Option.bind (shape_Reach (1 : Int) (2 : Int) (3 : Int) (2 : Int) (1 : Int) (5 : Int)) fun y59 : (Int × Int) => k ⟨[(1, ri y59.1), (2, ri y59.2)], [], [], 22⟩ := by kernel_rfl
def law02_shown_r2_q {β : Type} (y59 : (Int × Int)) (K : Bool → Option β) : Option β := (Option.bind (shape_Out (5 : Int) (3 : Int) (2 : Int) (1 : Int)) (fun y60 : Int => (bif (y60 == (3 : Int)) then (bif (y59.1 == (1 : Int)) then (bif (y59.2 == (5 : Int)) then (Option.bind (shape_Size ((2 : Int), (3 : Int), (4 : Int))) (fun y67 : Int => (K (y67 == (24 : Int))))) else (K false)) else (K false)) else (K false))))
def law02_shown_r2_p (y59 : (Int × Int)) : Option (Bool) := law02_shown_r2_q y59 some
theorem law02_shown_r2_n {β : Type} (y59 : (Int × Int)) (K : Bool → Option β) : law02_shown_r2_q y59 K = (law02_shown_r2_p y59).bind K := (bind_b fun y60 => (bif_b (bif_b (bif_b (bind_b fun y67 => some_b) some_b) some_b) some_b))
theorem law02_shown_r2 {α : Type} (y59 : (Int × Int)) (k : St → Option α) : P7 1 C7.r.r ⟨[(1, ri y59.1), (2, ri y59.2)], [], [], 22⟩ k = Option.bind (law02_shown_r2_p y59) (fun y68 : Bool => k ⟨[(0, rb y68)], [], [], 22⟩) := Eq.trans (by kernel_rfl) (law02_shown_r2_n y59 _)
/-- quilt/quiltlaw02.shown -/
def law02_shown_q {β : Type} (K : Bool → Option β) : Option β := (Option.bind (shape_Reach (1 : Int) (2 : Int) (3 : Int) (2 : Int) (1 : Int) (5 : Int)) (fun y59 : (Int × Int) => (Option.bind (law02_shown_r2_p y59) (fun y68 : Bool => (K y68)))))
def law02_shown : Option Bool := law02_shown_q some
theorem law02_shown_n {β : Type} (K : Bool → Option β) : law02_shown_q K = (law02_shown).bind K := (bind_b fun y59 => (bind_b fun y68 => some_b))
theorem law02_shown_is : stepS E cp7 noE 4 [] = Option.bind (law02_shown) (fun y : Bool => some (rb y : R)) := by
  refine Eq.trans ?_ (law02_shown_n (fun y : Bool => some (rb y : R)))
  refine (stepG_is (nt := 22) (regs := []) (by kernel_rfl) (by kernel_rfl)).trans ?_
  unfold law02_shown_q
  refine (pre (n := 2) (c' := C7.r.r) (by kernel_rfl) (by kernel_rfl) (law02_shown_r1 _)).trans (bind_g fun y59 => ?_)
  refine (pre (n := 1) (c' := C7.r.r.r) (by kernel_rfl) (by kernel_rfl) (law02_shown_r2 y59 _)).trans (bind_g fun y68 => ?_)
  refine (ret_eq (by kernel_rfl)).trans ?_
  kernel_rfl
theorem law02_shown_c (x : denL []) : stepS E cp7 noE 4 (encL [] x) = ((fun x => law02_shown) x).bind fun y => some (Po.enc (.one (.one (.g .bool))) ((fun y : Bool => y) y)) := Eq.mp (by kernel_rfl) (law02_shown_is)
noncomputable def cp8 : CallP := withC cp7 4 [] (.one (.one (.g .bool))) (fun y : Bool => y) (fun x => law02_shown)
theorem cp8_ok : PureOK E cp8 := withC_ok cp7_ok (stepS_ok eok cp7_ok noE_ok) fun x => con_of (enc := fun y => Po.enc (.one (.one (.g .bool))) ((fun y : Bool => y) y)) (law02_shown_c x)
noncomputable abbrev C8 : Code := codeOf E.P 5
noncomputable abbrev P8 {α : Type} (n : Nat) (c : Code) (st : St) (k : St → Option α) : Option α := preK E 5 cp8 noE n c st k
noncomputable abbrev R8 {α : Type} (c : Code) (st : St) (k : Kont α) : Option α := runCode E 5 cp8 noE c st k
noncomputable abbrev Q8 {α : Type} (c : Code) (k : Kont α) : Kont α := seqC E 5 cp8 noE c k
theorem shape_Index_f1 {α : Type} (s_ : I3) (y_ : Int) (x_ : Int) (c_ : Int) (k : St → Option α) : P8 1 C8 ⟨[(0, .agg (tsI3.leaves s_)), (1, ri y_), (2, ri x_), (3, ri c_)], [], [], 53⟩ k = k ⟨[(1, ri y_), (2, ri x_), (3, ri c_), (4, .one (.cell (tsI3.leaves s_)))], [], [], 53⟩ := by kernel_rfl
def shape_Index_r1_q {β : Type} (s_ : I3) (y_ : Int) (x_ : Int) (c_ : Int) (K : Bool → Option β) : Option β := (Option.bind (shape_may s_) (fun y76 : Bool => (bif (!y76) then (K true) else (Option.bind (shape_within_1 [y_] (((shape_within (0 : Int) (IntKind.wrap .i64 (s_.1 - (1 : Int)))).1).1) (((shape_within (0 : Int) (IntKind.wrap .i64 (s_.1 - (1 : Int)))).2.1).1)) (fun y77 : Bool => (bif (!y77) then (K true) else (Option.bind (shape_within_1 [x_] (((shape_within (0 : Int) (IntKind.wrap .i64 (s_.2.1 - (1 : Int)))).1).1) (((shape_within (0 : Int) (IntKind.wrap .i64 (s_.2.1 - (1 : Int)))).2.1).1)) (fun y78 : Bool => (bif (!y78) then (K true) else (Option.bind (shape_within_1 [c_] (((shape_within (0 : Int) (IntKind.wrap .i64 (s_.2.2 - (1 : Int)))).1).1) (((shape_within (0 : Int) (IntKind.wrap .i64 (s_.2.2 - (1 : Int)))).2.1).1)) (fun y79 : Bool => (K (!y79)))))))))))))
def shape_Index_r1_p (s_ : I3) (y_ : Int) (x_ : Int) (c_ : Int) : Option (Bool) := shape_Index_r1_q s_ y_ x_ c_ some
theorem shape_Index_r1_n {β : Type} (s_ : I3) (y_ : Int) (x_ : Int) (c_ : Int) (K : Bool → Option β) : shape_Index_r1_q s_ y_ x_ c_ K = (shape_Index_r1_p s_ y_ x_ c_).bind K := (bind_b fun y76 => (bif_b some_b (bind_b fun y77 => (bif_b some_b (bind_b fun y78 => (bif_b some_b (bind_b fun y79 => some_b)))))))
theorem shape_Index_r1 {α : Type} (s_ : I3) (y_ : Int) (x_ : Int) (c_ : Int) (k : St → Option α) : P8 1 C8.r.l ⟨[(1, ri y_), (2, ri x_), (3, ri c_), (4, .one (.cell (tsI3.leaves s_)))], [], [], 53⟩ k = Option.bind (shape_Index_r1_p s_ y_ x_ c_) (fun y80 : Bool => k ⟨[(1, ri y_), (2, ri x_), (3, ri c_), (4, .one (.cell (tsI3.leaves s_))), (41, rb y80)], [], [], 53⟩) := Eq.trans (by kernel_rfl) (shape_Index_r1_n s_ y_ x_ c_ _)
theorem shape_Index_fz {α : Type} (s_ : I3) (y_ : Int) (x_ : Int) (c_ : Int) (k : St → Option α) : P8 1 C8.r.l.r.t ⟨[(1, ri y_), (2, ri x_), (3, ri c_), (4, .one (.cell (tsI3.leaves s_)))], [], [], 53⟩ k = k ⟨[(8, ri (-1 : Int))], [], [], 53⟩ := by kernel_rfl
def shape_Index_r3_q {β : Type} (s_ : I3) (y_ : Int) (x_ : Int) (c_ : Int) (K : Int → β) : β := (K (IntKind.wrap .i64 ((IntKind.wrap .i64 ((IntKind.wrap .i64 ((IntKind.wrap .i64 (y_ * s_.2.1)) + x_)) * s_.2.2)) + c_)))
def shape_Index_r3_p (s_ : I3) (y_ : Int) (x_ : Int) (c_ : Int) : Int := shape_Index_r3_q s_ y_ x_ c_ (fun y => y)
theorem shape_Index_r3_n {β : Type} (s_ : I3) (y_ : Int) (x_ : Int) (c_ : Int) (K : Int → β) : shape_Index_r3_q s_ y_ x_ c_ K = K (shape_Index_r3_p s_ y_ x_ c_) := rfl
theorem shape_Index_r3 {α : Type} (s_ : I3) (y_ : Int) (x_ : Int) (c_ : Int) (k : St → Option α) : P8 1 C8.r.r ⟨[(1, ri y_), (2, ri x_), (3, ri c_), (4, .one (.cell (tsI3.leaves s_)))], [], [], 53⟩ k = k ⟨[(8, ri (shape_Index_r3_p s_ y_ x_ c_))], [], [], 53⟩ := Eq.trans (by kernel_rfl) (shape_Index_r3_n s_ y_ x_ c_ (fun y81 : Int => k ⟨[(8, ri y81)], [], [], 53⟩))
/-- quilt/shape.Index -/
def shape_Index_q {β : Type} (s_ : I3) (y_ : Int) (x_ : Int) (c_ : Int) (K : Int → Option β) : Option β := (Option.bind (shape_Index_r1_p s_ y_ x_ c_) (fun y80 : Bool => (bif y80 then (K (-1 : Int)) else (K (shape_Index_r3_p s_ y_ x_ c_)))))
def shape_Index (s_ : I3) (y_ : Int) (x_ : Int) (c_ : Int) : Option Int := shape_Index_q s_ y_ x_ c_ some
theorem shape_Index_n {β : Type} (s_ : I3) (y_ : Int) (x_ : Int) (c_ : Int) (K : Int → Option β) : shape_Index_q s_ y_ x_ c_ K = (shape_Index s_ y_ x_ c_).bind K := (bind_b fun y80 => (bif_b some_b some_b))
theorem shape_Index_is (s_ : I3) (y_ : Int) (x_ : Int) (c_ : Int) : stepS E cp8 noE 5 [.agg (tsI3.leaves s_), ri y_, ri x_, ri c_] = Option.bind (shape_Index s_ y_ x_ c_) (fun y : Int => some (ri y : R)) := by
  refine Eq.trans ?_ (shape_Index_n s_ y_ x_ c_ (fun y : Int => some (ri y : R)))
  refine (stepG_is (nt := 53) (regs := [(0, .agg (tsI3.leaves s_)), (1, ri y_), (2, ri x_), (3, ri c_)]) (by kernel_rfl) (by kernel_rfl)).trans ?_
  unfold shape_Index_q
  refine (pre (n := 1) (c' := C8.r) (by kernel_rfl) (by kernel_rfl) (shape_Index_f1 s_ y_ x_ c_ _)).trans ?_
  refine (seq_push (by kernel_rfl)).trans ?_
  refine (pre (n := 1) (c' := C8.r.l.r) (by kernel_rfl) (by kernel_rfl) (shape_Index_r1 s_ y_ x_ c_ _)).trans (bind_g fun y80 => ?_)
  refine (cond_eq (b := y80) (st' := ⟨[(1, ri y_), (2, ri x_), (3, ri c_), (4, .one (.cell (tsI3.leaves s_)))], [], [], 53⟩) (by kernel_rfl) (by kernel_rfl) (by kernel_rfl)).trans (bif_g ?_ ?_)
  · refine (pre (n := 1) (c' := C8.r.l.r.t.r) (by kernel_rfl) (by kernel_rfl) (shape_Index_fz s_ y_ x_ c_ _)).trans ?_
    refine (ret_eq (by kernel_rfl)).trans ?_
    refine seqC_ret.trans ?_
    kernel_rfl
  · refine (skip_eq (by kernel_rfl)).trans ?_
    refine (seqC_normal (st' := ⟨[(1, ri y_), (2, ri x_), (3, ri c_), (4, .one (.cell (tsI3.leaves s_)))], [], [], 53⟩) (by kernel_rfl)).trans ?_
    refine (pre (n := 1) (c' := C8.r.r.r) (by kernel_rfl) (by kernel_rfl) (shape_Index_r3 s_ y_ x_ c_ _)).trans ?_
    refine (ret_eq (by kernel_rfl)).trans ?_
    kernel_rfl
theorem shape_Index_c (x : denL [(.agg tsI3), (.one (.g (.int .i64))), (.one (.g (.int .i64))), (.one (.g (.int .i64)))]) : stepS E cp8 noE 5 (encL [(.agg tsI3), (.one (.g (.int .i64))), (.one (.g (.int .i64))), (.one (.g (.int .i64)))] x) = ((fun x => shape_Index x.1 x.2.1 x.2.2.1 x.2.2.2.1) x).bind fun y => some (Po.enc (.one (.one (.g (.int .i64)))) ((fun y : Int => y) y)) := Eq.mp (by kernel_rfl) (shape_Index_is x.1 x.2.1 x.2.2.1 x.2.2.2.1)
noncomputable def cp9 : CallP := withC cp8 5 [(.agg tsI3), (.one (.g (.int .i64))), (.one (.g (.int .i64))), (.one (.g (.int .i64)))] (.one (.one (.g (.int .i64)))) (fun y : Int => y) (fun x => shape_Index x.1 x.2.1 x.2.2.1 x.2.2.2.1)
theorem cp9_ok : PureOK E cp9 := withC_ok cp8_ok (stepS_ok eok cp8_ok noE_ok) fun x => con_of (enc := fun y => Po.enc (.one (.one (.g (.int .i64)))) ((fun y : Int => y) y)) (shape_Index_c x)
noncomputable abbrev C9 : Code := codeOf E.P 6
noncomputable abbrev P9 {α : Type} (n : Nat) (c : Code) (st : St) (k : St → Option α) : Option α := preK E 6 cp9 noE n c st k
noncomputable abbrev R9 {α : Type} (c : Code) (st : St) (k : Kont α) : Option α := runCode E 6 cp9 noE c st k
noncomputable abbrev Q9 {α : Type} (c : Code) (k : Kont α) : Kont α := seqC E 6 cp9 noE c k
theorem shape_May_f1 {α : Type} (s_ : I3) (k : St → Option α) : P9 1 C9 ⟨[(0, .agg (tsI3.leaves s_))], [], [], 6⟩ k = k ⟨[(1, .one (.cell (tsI3.leaves s_)))], [], [], 6⟩ := by kernel_rfl
theorem shape_May_r1 {α : Type} (s_ : I3) (k : St → Option α) : P9 1 C9.r.l ⟨[(1, .one (.cell (tsI3.leaves s_)))], [], [], 6⟩ k = Option.bind (shape_may s_) fun y84 : Bool => k ⟨[(5, rb (!y84))], [], [], 6⟩ := by kernel_rfl
theorem shape_May_fz {α : Type} (k : St → Option α) : P9 1 C9.r.l.r.t ⟨[], [], [], 6⟩ k = k ⟨[(2, ri (10 : Int))], [], [], 6⟩ := by kernel_rfl
theorem shape_May_fzx1 {α : Type} (k : St → Option α) : P9 1 C9.r.r ⟨[], [], [], 6⟩ k = k ⟨[(2, ri (0 : Int))], [], [], 6⟩ := by kernel_rfl
/-- quilt/shape.May -/
def shape_May_q {β : Type} (s_ : I3) (K : Int → Option β) : Option β := (Option.bind (shape_may s_) (fun y84 : Bool => (bif (!y84) then (K (10 : Int)) else (K (0 : Int)))))
def shape_May (s_ : I3) : Option Int := shape_May_q s_ some
theorem shape_May_n {β : Type} (s_ : I3) (K : Int → Option β) : shape_May_q s_ K = (shape_May s_).bind K := (bind_b fun y84 => (bif_b some_b some_b))
theorem shape_May_is (s_ : I3) : stepS E cp9 noE 6 [.agg (tsI3.leaves s_)] = Option.bind (shape_May s_) (fun y : Int => some (ri y : R)) := by
  refine Eq.trans ?_ (shape_May_n s_ (fun y : Int => some (ri y : R)))
  refine (stepG_is (nt := 6) (regs := [(0, .agg (tsI3.leaves s_))]) (by kernel_rfl) (by kernel_rfl)).trans ?_
  unfold shape_May_q
  refine (pre (n := 1) (c' := C9.r) (by kernel_rfl) (by kernel_rfl) (shape_May_f1 s_ _)).trans ?_
  refine (seq_push (by kernel_rfl)).trans ?_
  refine (pre (n := 1) (c' := C9.r.l.r) (by kernel_rfl) (by kernel_rfl) (shape_May_r1 s_ _)).trans (bind_g fun y84 => ?_)
  refine (cond_eq (b := (!y84)) (st' := ⟨[], [], [], 6⟩) (by kernel_rfl) (by kernel_rfl) (by kernel_rfl)).trans (bif_g ?_ ?_)
  · refine (pre (n := 1) (c' := C9.r.l.r.t.r) (by kernel_rfl) (by kernel_rfl) (shape_May_fz _)).trans ?_
    refine (ret_eq (by kernel_rfl)).trans ?_
    refine seqC_ret.trans ?_
    kernel_rfl
  · refine (skip_eq (by kernel_rfl)).trans ?_
    refine (seqC_normal (st' := ⟨[], [], [], 6⟩) (by kernel_rfl)).trans ?_
    refine (pre (n := 1) (c' := C9.r.r.r) (by kernel_rfl) (by kernel_rfl) (shape_May_fzx1 _)).trans ?_
    refine (ret_eq (by kernel_rfl)).trans ?_
    kernel_rfl
theorem shape_May_c (x : denL [(.agg tsI3)]) : stepS E cp9 noE 6 (encL [(.agg tsI3)] x) = ((fun x => shape_May x.1) x).bind fun y => some (Po.enc (.one (.one (.g (.int .i64)))) ((fun y : Int => y) y)) := Eq.mp (by kernel_rfl) (shape_May_is x.1)
noncomputable def cp10 : CallP := withC cp9 6 [(.agg tsI3)] (.one (.one (.g (.int .i64)))) (fun y : Int => y) (fun x => shape_May x.1)
theorem cp10_ok : PureOK E cp10 := withC_ok cp9_ok (stepS_ok eok cp9_ok noE_ok) fun x => con_of (enc := fun y => Po.enc (.one (.one (.g (.int .i64)))) ((fun y : Int => y) y)) (shape_May_c x)
noncomputable abbrev C10 : Code := codeOf E.P 3
noncomputable abbrev P10 {α : Type} (n : Nat) (c : Code) (st : St) (k : St → Option α) : Option α := preK E 3 cp10 noE n c st k
noncomputable abbrev R10 {α : Type} (c : Code) (st : St) (k : Kont α) : Option α := runCode E 3 cp10 noE c st k
noncomputable abbrev Q10 {α : Type} (c : Code) (k : Kont α) : Kont α := seqC E 3 cp10 noE c k
theorem law02_ShapeRefuses_r1 {α : Type} (s_ : I3) (at_ : I3) (k : St → Option α) : P10 2 C10 ⟨[(0, .agg (tsI3.leaves s_)), (1, .agg (tsI3.leaves at_))], [], [], 144⟩ k = Option.bind law02_shown fun y69 : Bool => k ⟨[(2, .one (.cell (tsI3.leaves s_))), (3, .one (.cell (tsI3.leaves at_))), (5, rb y69)], [], [], 144⟩ := by kernel_rfl
def law02_ShapeRefuses_r2_q {β : Type} (s_ : I3) (K : Bool → β) : β := (bif (decide (s_.1 ≥ (1 : Int))) then (bif (decide (s_.1 ≤ (16 : Int))) then (bif (decide (s_.2.1 ≥ (1 : Int))) then (bif (decide (s_.2.1 ≤ (16 : Int))) then (bif (decide (s_.2.2 ≥ (1 : Int))) then (K (decide (s_.2.2 ≤ (8 : Int)))) else (K false)) else (K false)) else (K false)) else (K false)) else (K false))
def law02_ShapeRefuses_r2_p (s_ : I3) : Bool := law02_ShapeRefuses_r2_q s_ (fun y => y)
theorem law02_ShapeRefuses_r2_n {β : Type} (s_ : I3) (K : Bool → β) : law02_ShapeRefuses_r2_q s_ K = K (law02_ShapeRefuses_r2_p s_) := (bif_k K (bif_k K (bif_k K (bif_k K (bif_k K rfl rfl) rfl) rfl) rfl) rfl)
theorem law02_ShapeRefuses_r2 {α : Type} (s_ : I3) (at_ : I3) (y69 : Bool) (k : St → Option α) : P10 1 C10.r.r ⟨[(2, .one (.cell (tsI3.leaves s_))), (3, .one (.cell (tsI3.leaves at_))), (5, rb y69)], [], [], 144⟩ k = k ⟨[(2, .one (.cell (tsI3.leaves s_))), (3, .one (.cell (tsI3.leaves at_))), (5, rb y69), (6, rb (law02_ShapeRefuses_r2_p s_))], [], [], 144⟩ := Eq.trans (by kernel_rfl) (law02_ShapeRefuses_r2_n s_ (fun y70 : Bool => k ⟨[(2, .one (.cell (tsI3.leaves s_))), (3, .one (.cell (tsI3.leaves at_))), (5, rb y69), (6, rb y70)], [], [], 144⟩))
theorem law02_ShapeRefuses_r3 {α : Type} (s_ : I3) (at_ : I3) (y69 : Bool) (k : St → Option α) : P10 1 C10.r.r.r ⟨[(2, .one (.cell (tsI3.leaves s_))), (3, .one (.cell (tsI3.leaves at_))), (5, rb y69), (6, rb (law02_ShapeRefuses_r2_p s_))], [], [], 144⟩ k = Option.bind (shape_Index s_ at_.1 at_.2.1 at_.2.2) fun y82 : Int => k ⟨[(2, .one (.cell (tsI3.leaves s_))), (3, .one (.cell (tsI3.leaves at_))), (5, rb y69), (6, rb (law02_ShapeRefuses_r2_p s_)), (7, ri y82)], [], [], 144⟩ := by kernel_rfl
theorem law02_ShapeRefuses_f1000005 {α : Type} (s_ : I3) (at_ : I3) (y69 : Bool) (y82 : Int) (k : St → Option α) : P10 1 C10.r.r.r.r.l ⟨[(2, .one (.cell (tsI3.leaves s_))), (3, .one (.cell (tsI3.leaves at_))), (5, rb y69), (6, rb (law02_ShapeRefuses_r2_p s_)), (7, ri y82)], [], [], 144⟩ k = k ⟨[(2, .one (.cell (tsI3.leaves s_))), (3, .one (.cell (tsI3.leaves at_))), (5, rb y69), (7, ri y82), (50, rb (!(law02_ShapeRefuses_r2_p s_)))], [], [], 144⟩ := by kernel_rfl
def law02_ShapeRefuses_r5_q {β : Type} (s_ : I3) (y69 : Bool) (y82 : Int) (K : Bool → Option β) : Option β := (bif y69 then (Option.bind (shape_May s_) (fun y89 : Int => (bif (y89 == (10 : Int)) then (Option.bind (shape_Size s_) (fun y90 : Int => (bif (y90 == (0 : Int)) then (Option.bind (shape_Row s_) (fun y91 : Int => (bif (y91 == (0 : Int)) then (K (y82 == (-1 : Int))) else (K false)))) else (K false)))) else (K false)))) else (K false))
def law02_ShapeRefuses_r5_p (s_ : I3) (y69 : Bool) (y82 : Int) : Option (Bool) := law02_ShapeRefuses_r5_q s_ y69 y82 some
theorem law02_ShapeRefuses_r5_n {β : Type} (s_ : I3) (y69 : Bool) (y82 : Int) (K : Bool → Option β) : law02_ShapeRefuses_r5_q s_ y69 y82 K = (law02_ShapeRefuses_r5_p s_ y69 y82).bind K := (bif_b (bind_b fun y89 => (bif_b (bind_b fun y90 => (bif_b (bind_b fun y91 => (bif_b some_b some_b)) some_b)) some_b)) some_b)
theorem law02_ShapeRefuses_r5 {α : Type} (s_ : I3) (at_ : I3) (y69 : Bool) (y82 : Int) (k : St → Option α) : P10 1 C10.r.r.r.r.l.r.t ⟨[(2, .one (.cell (tsI3.leaves s_))), (3, .one (.cell (tsI3.leaves at_))), (5, rb y69), (7, ri y82)], [], [], 144⟩ k = Option.bind (law02_ShapeRefuses_r5_p s_ y69 y82) (fun y92 : Bool => k ⟨[(4, rb y92)], [], [], 144⟩) := Eq.trans (by kernel_rfl) (law02_ShapeRefuses_r5_n s_ y69 y82 _)
def law02_ShapeRefuses_r6_q {β : Type} (s_ : I3) (K : Int → β) : β := (K (IntKind.wrap .i64 ((BitVec.ofInt (IntKind.bits .i64) s_.1 &&& BitVec.ofInt (IntKind.bits .i64) (31 : Int)).toNat : Int)))
def law02_ShapeRefuses_r6_p (s_ : I3) : Int := law02_ShapeRefuses_r6_q s_ (fun y => y)
theorem law02_ShapeRefuses_r6_n {β : Type} (s_ : I3) (K : Int → β) : law02_ShapeRefuses_r6_q s_ K = K (law02_ShapeRefuses_r6_p s_) := rfl
theorem law02_ShapeRefuses_r6 {α : Type} (s_ : I3) (at_ : I3) (y69 : Bool) (y82 : Int) (k : St → Option α) : P10 1 C10.r.r.r.r.r ⟨[(2, .one (.cell (tsI3.leaves s_))), (3, .one (.cell (tsI3.leaves at_))), (5, rb y69), (7, ri y82)], [], [], 144⟩ k = k ⟨[(2, .one (.cell (tsI3.leaves s_))), (3, .one (.cell (tsI3.leaves at_))), (5, rb y69), (7, ri y82), (8, ri (law02_ShapeRefuses_r6_p s_))], [], [], 144⟩ := Eq.trans (by kernel_rfl) (law02_ShapeRefuses_r6_n s_ (fun y93 : Int => k ⟨[(2, .one (.cell (tsI3.leaves s_))), (3, .one (.cell (tsI3.leaves at_))), (5, rb y69), (7, ri y82), (8, ri y93)], [], [], 144⟩))
def law02_ShapeRefuses_r7_q {β : Type} (s_ : I3) (K : Int → β) : β := (K (IntKind.wrap .i64 ((BitVec.ofInt (IntKind.bits .i64) s_.2.1 &&& BitVec.ofInt (IntKind.bits .i64) (31 : Int)).toNat : Int)))
def law02_ShapeRefuses_r7_p (s_ : I3) : Int := law02_ShapeRefuses_r7_q s_ (fun y => y)
theorem law02_ShapeRefuses_r7_n {β : Type} (s_ : I3) (K : Int → β) : law02_ShapeRefuses_r7_q s_ K = K (law02_ShapeRefuses_r7_p s_) := rfl
theorem law02_ShapeRefuses_r7 {α : Type} (s_ : I3) (at_ : I3) (y69 : Bool) (y82 : Int) (k : St → Option α) : P10 1 C10.r.r.r.r.r.r ⟨[(2, .one (.cell (tsI3.leaves s_))), (3, .one (.cell (tsI3.leaves at_))), (5, rb y69), (7, ri y82), (8, ri (law02_ShapeRefuses_r6_p s_))], [], [], 144⟩ k = k ⟨[(2, .one (.cell (tsI3.leaves s_))), (3, .one (.cell (tsI3.leaves at_))), (5, rb y69), (7, ri y82), (8, ri (law02_ShapeRefuses_r6_p s_)), (9, ri (law02_ShapeRefuses_r7_p s_))], [], [], 144⟩ := Eq.trans (by kernel_rfl) (law02_ShapeRefuses_r7_n s_ (fun y94 : Int => k ⟨[(2, .one (.cell (tsI3.leaves s_))), (3, .one (.cell (tsI3.leaves at_))), (5, rb y69), (7, ri y82), (8, ri (law02_ShapeRefuses_r6_p s_)), (9, ri y94)], [], [], 144⟩))
def law02_ShapeRefuses_r8_q {β : Type} (s_ : I3) (K : Int → β) : β := (K (IntKind.wrap .i64 ((BitVec.ofInt (IntKind.bits .i64) s_.2.2 &&& BitVec.ofInt (IntKind.bits .i64) (15 : Int)).toNat : Int)))
def law02_ShapeRefuses_r8_p (s_ : I3) : Int := law02_ShapeRefuses_r8_q s_ (fun y => y)
theorem law02_ShapeRefuses_r8_n {β : Type} (s_ : I3) (K : Int → β) : law02_ShapeRefuses_r8_q s_ K = K (law02_ShapeRefuses_r8_p s_) := rfl
theorem law02_ShapeRefuses_r8 {α : Type} (s_ : I3) (at_ : I3) (y69 : Bool) (y82 : Int) (k : St → Option α) : P10 1 C10.r.r.r.r.r.r.r ⟨[(2, .one (.cell (tsI3.leaves s_))), (3, .one (.cell (tsI3.leaves at_))), (5, rb y69), (7, ri y82), (8, ri (law02_ShapeRefuses_r6_p s_)), (9, ri (law02_ShapeRefuses_r7_p s_))], [], [], 144⟩ k = k ⟨[(2, .one (.cell (tsI3.leaves s_))), (3, .one (.cell (tsI3.leaves at_))), (5, rb y69), (7, ri y82), (8, ri (law02_ShapeRefuses_r6_p s_)), (9, ri (law02_ShapeRefuses_r7_p s_)), (10, ri (law02_ShapeRefuses_r8_p s_))], [], [], 144⟩ := Eq.trans (by kernel_rfl) (law02_ShapeRefuses_r8_n s_ (fun y95 : Int => k ⟨[(2, .one (.cell (tsI3.leaves s_))), (3, .one (.cell (tsI3.leaves at_))), (5, rb y69), (7, ri y82), (8, ri (law02_ShapeRefuses_r6_p s_)), (9, ri (law02_ShapeRefuses_r7_p s_)), (10, ri y95)], [], [], 144⟩))
def law02_ShapeRefuses_r9_q {β : Type} (s_ : I3) (at_ : I3) (K : Bool → β) : β := (bif (decide (at_.1 ≥ (0 : Int))) then (bif (decide (at_.1 < s_.1)) then (bif (decide (at_.2.1 ≥ (0 : Int))) then (bif (decide (at_.2.1 < s_.2.1)) then (bif (decide (at_.2.2 ≥ (0 : Int))) then (K (decide (at_.2.2 < s_.2.2))) else (K false)) else (K false)) else (K false)) else (K false)) else (K false))
def law02_ShapeRefuses_r9_p (s_ : I3) (at_ : I3) : Bool := law02_ShapeRefuses_r9_q s_ at_ (fun y => y)
theorem law02_ShapeRefuses_r9_n {β : Type} (s_ : I3) (at_ : I3) (K : Bool → β) : law02_ShapeRefuses_r9_q s_ at_ K = K (law02_ShapeRefuses_r9_p s_ at_) := (bif_k K (bif_k K (bif_k K (bif_k K (bif_k K rfl rfl) rfl) rfl) rfl) rfl)
theorem law02_ShapeRefuses_r9 {α : Type} (s_ : I3) (at_ : I3) (y69 : Bool) (y82 : Int) (k : St → Option α) : P10 1 C10.r.r.r.r.r.r.r.r ⟨[(2, .one (.cell (tsI3.leaves s_))), (3, .one (.cell (tsI3.leaves at_))), (5, rb y69), (7, ri y82), (8, ri (law02_ShapeRefuses_r6_p s_)), (9, ri (law02_ShapeRefuses_r7_p s_)), (10, ri (law02_ShapeRefuses_r8_p s_))], [], [], 144⟩ k = k ⟨[(2, .one (.cell (tsI3.leaves s_))), (5, rb y69), (7, ri y82), (8, ri (law02_ShapeRefuses_r6_p s_)), (9, ri (law02_ShapeRefuses_r7_p s_)), (10, ri (law02_ShapeRefuses_r8_p s_)), (11, rb (law02_ShapeRefuses_r9_p s_ at_))], [], [], 144⟩ := Eq.trans (by kernel_rfl) (law02_ShapeRefuses_r9_n s_ at_ (fun y96 : Bool => k ⟨[(2, .one (.cell (tsI3.leaves s_))), (5, rb y69), (7, ri y82), (8, ri (law02_ShapeRefuses_r6_p s_)), (9, ri (law02_ShapeRefuses_r7_p s_)), (10, ri (law02_ShapeRefuses_r8_p s_)), (11, rb y96)], [], [], 144⟩))
def law02_ShapeRefuses_r10_q {β : Type} (s_ : I3) (at_ : I3) (y69 : Bool) (y82 : Int) (K : Bool → Option β) : Option β := (bif y69 then (Option.bind (shape_May s_) (fun y97 : Int => (bif (y97 == (0 : Int)) then (Option.bind (shape_Size s_) (fun y98 : Int => (bif (y98 == (IntKind.wrap .i64 ((IntKind.wrap .i64 ((law02_ShapeRefuses_r6_p s_) * (law02_ShapeRefuses_r7_p s_))) * (law02_ShapeRefuses_r8_p s_)))) then (Option.bind (shape_Row s_) (fun y99 : Int => (bif (y99 == (IntKind.wrap .i64 ((law02_ShapeRefuses_r7_p s_) * (law02_ShapeRefuses_r8_p s_)))) then (K ((decide (y82 ≥ (0 : Int))) == (law02_ShapeRefuses_r9_p s_ at_))) else (K false)))) else (K false)))) else (K false)))) else (K false))
def law02_ShapeRefuses_r10_p (s_ : I3) (at_ : I3) (y69 : Bool) (y82 : Int) : Option (Bool) := law02_ShapeRefuses_r10_q s_ at_ y69 y82 some
theorem law02_ShapeRefuses_r10_n {β : Type} (s_ : I3) (at_ : I3) (y69 : Bool) (y82 : Int) (K : Bool → Option β) : law02_ShapeRefuses_r10_q s_ at_ y69 y82 K = (law02_ShapeRefuses_r10_p s_ at_ y69 y82).bind K := (bif_b (bind_b fun y97 => (bif_b (bind_b fun y98 => (bif_b (bind_b fun y99 => (bif_b some_b some_b)) some_b)) some_b)) some_b)
theorem law02_ShapeRefuses_r10 {α : Type} (s_ : I3) (at_ : I3) (y69 : Bool) (y82 : Int) (k : St → Option α) : P10 1 C10.r.r.r.r.r.r.r.r.r ⟨[(2, .one (.cell (tsI3.leaves s_))), (5, rb y69), (7, ri y82), (8, ri (law02_ShapeRefuses_r6_p s_)), (9, ri (law02_ShapeRefuses_r7_p s_)), (10, ri (law02_ShapeRefuses_r8_p s_)), (11, rb (law02_ShapeRefuses_r9_p s_ at_))], [], [], 144⟩ k = Option.bind (law02_ShapeRefuses_r10_p s_ at_ y69 y82) (fun y100 : Bool => k ⟨[(4, rb y100)], [], [], 144⟩) := Eq.trans (by kernel_rfl) (law02_ShapeRefuses_r10_n s_ at_ y69 y82 _)
/-- quilt/quiltlaw02.ShapeRefuses -/
def law02_ShapeRefuses_q {β : Type} (s_ : I3) (at_ : I3) (K : Bool → Option β) : Option β := (Option.bind law02_shown (fun y69 : Bool => (Option.bind (shape_Index s_ at_.1 at_.2.1 at_.2.2) (fun y82 : Int => (bif (!(law02_ShapeRefuses_r2_p s_)) then (Option.bind (law02_ShapeRefuses_r5_p s_ y69 y82) (fun y92 : Bool => (K y92))) else (Option.bind (law02_ShapeRefuses_r10_p s_ at_ y69 y82) (fun y100 : Bool => (K y100))))))))
def law02_ShapeRefuses (s_ : I3) (at_ : I3) : Option Bool := law02_ShapeRefuses_q s_ at_ some
theorem law02_ShapeRefuses_n {β : Type} (s_ : I3) (at_ : I3) (K : Bool → Option β) : law02_ShapeRefuses_q s_ at_ K = (law02_ShapeRefuses s_ at_).bind K := (bind_b fun y69 => (bind_b fun y82 => (bif_b (bind_b fun y92 => some_b) (bind_b fun y100 => some_b))))
theorem law02_ShapeRefuses_is (s_ : I3) (at_ : I3) : stepS E cp10 noE 3 [.agg (tsI3.leaves s_), .agg (tsI3.leaves at_)] = Option.bind (law02_ShapeRefuses s_ at_) (fun y : Bool => some (rb y : R)) := by
  refine Eq.trans ?_ (law02_ShapeRefuses_n s_ at_ (fun y : Bool => some (rb y : R)))
  refine (stepG_is (nt := 144) (regs := [(0, .agg (tsI3.leaves s_)), (1, .agg (tsI3.leaves at_))]) (by kernel_rfl) (by kernel_rfl)).trans ?_
  unfold law02_ShapeRefuses_q
  refine (pre (n := 2) (c' := C10.r.r) (by kernel_rfl) (by kernel_rfl) (law02_ShapeRefuses_r1 s_ at_ _)).trans (bind_g fun y69 => ?_)
  refine (pre (n := 1) (c' := C10.r.r.r) (by kernel_rfl) (by kernel_rfl) (law02_ShapeRefuses_r2 s_ at_ y69 _)).trans ?_
  refine (pre (n := 1) (c' := C10.r.r.r.r) (by kernel_rfl) (by kernel_rfl) (law02_ShapeRefuses_r3 s_ at_ y69 _)).trans (bind_g fun y82 => ?_)
  refine (seq_push (by kernel_rfl)).trans ?_
  refine (pre (n := 1) (c' := C10.r.r.r.r.l.r) (by kernel_rfl) (by kernel_rfl) (law02_ShapeRefuses_f1000005 s_ at_ y69 y82 _)).trans ?_
  refine (cond_eq (b := (!(law02_ShapeRefuses_r2_p s_))) (st' := ⟨[(2, .one (.cell (tsI3.leaves s_))), (3, .one (.cell (tsI3.leaves at_))), (5, rb y69), (7, ri y82)], [], [], 144⟩) (by kernel_rfl) (by kernel_rfl) (by kernel_rfl)).trans (bif_g ?_ ?_)
  · refine (pre (n := 1) (c' := C10.r.r.r.r.l.r.t.r) (by kernel_rfl) (by kernel_rfl) (law02_ShapeRefuses_r5 s_ at_ y69 y82 _)).trans (bind_g fun y92 => ?_)
    refine (ret_eq (by kernel_rfl)).trans ?_
    refine seqC_ret.trans ?_
    kernel_rfl
  · refine (skip_eq (by kernel_rfl)).trans ?_
    refine (seqC_normal (st' := ⟨[(2, .one (.cell (tsI3.leaves s_))), (3, .one (.cell (tsI3.leaves at_))), (5, rb y69), (7, ri y82)], [], [], 144⟩) (by kernel_rfl)).trans ?_
    refine (pre (n := 1) (c' := C10.r.r.r.r.r.r) (by kernel_rfl) (by kernel_rfl) (law02_ShapeRefuses_r6 s_ at_ y69 y82 _)).trans ?_
    refine (pre (n := 1) (c' := C10.r.r.r.r.r.r.r) (by kernel_rfl) (by kernel_rfl) (law02_ShapeRefuses_r7 s_ at_ y69 y82 _)).trans ?_
    refine (pre (n := 1) (c' := C10.r.r.r.r.r.r.r.r) (by kernel_rfl) (by kernel_rfl) (law02_ShapeRefuses_r8 s_ at_ y69 y82 _)).trans ?_
    refine (pre (n := 1) (c' := C10.r.r.r.r.r.r.r.r.r) (by kernel_rfl) (by kernel_rfl) (law02_ShapeRefuses_r9 s_ at_ y69 y82 _)).trans ?_
    refine (pre (n := 1) (c' := C10.r.r.r.r.r.r.r.r.r.r) (by kernel_rfl) (by kernel_rfl) (law02_ShapeRefuses_r10 s_ at_ y69 y82 _)).trans (bind_g fun y100 => ?_)
    refine (ret_eq (by kernel_rfl)).trans ?_
    kernel_rfl
theorem law02_ShapeRefuses_c (x : denL [(.agg tsI3), (.agg tsI3)]) : stepS E cp10 noE 3 (encL [(.agg tsI3), (.agg tsI3)] x) = ((fun x => law02_ShapeRefuses x.1 x.2.1) x).bind fun y => some (Po.enc (.one (.one (.g .bool))) ((fun y : Bool => y) y)) := Eq.mp (by kernel_rfl) (law02_ShapeRefuses_is x.1 x.2.1)
noncomputable def cp11 : CallP := withC cp10 3 [(.agg tsI3), (.agg tsI3)] (.one (.one (.g .bool))) (fun y : Bool => y) (fun x => law02_ShapeRefuses x.1 x.2.1)
theorem cp11_ok : PureOK E cp11 := withC_ok cp10_ok (stepS_ok eok cp10_ok noE_ok) fun x => con_of (enc := fun y => Po.enc (.one (.one (.g .bool))) ((fun y : Bool => y) y)) (law02_ShapeRefuses_c x)
theorem law02_ShapeRefuses_walk (s_ : I3) (at_ : I3) (ht : law02_ShapeRefuses s_ at_ = some true) (w : World) (vs : List Value) (hrd : ∀ γ : Gh, Free γ → rdRs w γ [argR true tsI3 s_, argR true tsI3 at_] vs) : Calls E.P 3 vs.toArray w fun e w' => e = .returned (.bool true) ∧ Below w.heap.size w w' :=
  walk_true (E := E) (stepS_ok eok cp10_ok noE_ok) (show stepS E cp10 noE 3 [.agg (tsI3.leaves s_), .agg (tsI3.leaves at_)] = some (.one (.g .bool true)) from by rw [law02_ShapeRefuses_is, ht]; rfl) w fun γ hγ => Eq.mp (by kernel_rfl) (hrd γ hγ)
end Go.V.P
