/- What functions compute. -/
import Derived.Test.YtllekbfjopcbpaaGaEnv
namespace Go.V.P
open Go.RowKit Go.V Go.Proofs
set_option linter.unusedVariables false
set_option maxRecDepth 100000
def fixed_Div_lv0 (x_ : Int) (by_ : Int) : Option Int := none
noncomputable def cp1 : CallP := withC cpA 12 [(.one (.g (.int .i64))), (.one (.g (.int .i64)))] (.one (.one (.g (.int .i64)))) (fun y : Int => y) (fun x => fixed_Div_lv0 x.1 x.2.1)
theorem cp1_ok : PureOK E cp1 := withC_ok cpA_ok (stepS_ok eok cpA_ok noE_ok) fun x y h => by cases h
theorem fixed_Div_lv1_r1 {α : Type} (x_ : Int) (by_ : Int) (k : Kont α) : runCode E 12 cp1 noE (codeOf E.P 12).l ⟨[(0, .one (di x_)), (1, .one (di by_))], [], [], 21⟩ k = k .normal ⟨[(0, .one (di x_)), (1, .one (di by_))], [], [], 21⟩ := by kernel_rfl
theorem fixed_Div_lv1_r2 {α : Type} (x_ : Int) (by_ : Int) (k : Kont α) : runCode E 12 cp1 noE (codeOf E.P 12).r.l ⟨[(0, .one (di x_)), (1, .one (di by_))], [], [], 21⟩ k = k .normal ⟨[(0, .one (di x_)), (1, .one (di (max by_ (1 : Int))))], [], [], 21⟩ := by kernel_rfl
theorem fixed_Div_lv1_r3 {α : Type} (x_ : Int) (by_ : Int) (k : Kont α) : runCode E 12 cp1 noE (codeOf E.P 12).r.r.l.l ⟨[(0, .one (di x_)), (1, .one (di (max by_ (1 : Int))))], [], [], 21⟩ k = k .normal ⟨[(0, .one (di x_)), (1, .one (di (max by_ (1 : Int)))), (8, .one (db (decide (x_ < (0 : Int)))))], [], [], 21⟩ := by kernel_rfl
theorem fixed_Div_lv1_r4 {α : Type} (x_ : Int) (by_ : Int) (k : Kont α) : runCode E 12 cp1 noE (codeOf E.P 12).r.r.l.r.t.l ⟨[(0, .one (di x_)), (1, .one (di (max by_ (1 : Int))))], [], [], 21⟩ k = Option.bind (fixed_Div_lv0 (max (IntKind.wrap .i64 (0 - x_)) (0 : Int)) (max by_ (1 : Int))) (fun y1 : Int => k .normal ⟨[(4, .one (di (IntKind.wrap .i64 (0 - y1))))], [], [], 21⟩) := by kernel_rfl
def fixed_Div_lv1_r5_q {β : Type} (x_ : Int) (by_ : Int) (K : Int → Option β) : Option β := (bif ((max by_ (1 : Int)) == (0:Int)) then none else (K (IntKind.wrap .i64 (Int.tdiv (IntKind.wrap .i64 (x_ + (IntKind.wrap .i64 (Int.tdiv (max by_ (1 : Int)) (2 : Int))))) (max by_ (1 : Int))))))
def fixed_Div_lv1_r5_p (x_ : Int) (by_ : Int) : Option (Int) := fixed_Div_lv1_r5_q x_ by_ some
theorem fixed_Div_lv1_r5_n {β : Type} (x_ : Int) (by_ : Int) (K : Int → Option β) : fixed_Div_lv1_r5_q x_ by_ K = (fixed_Div_lv1_r5_p x_ by_).bind K := (bif_b none_b some_b)
theorem fixed_Div_lv1_r5 {α : Type} (x_ : Int) (by_ : Int) (k : Kont α) : runCode E 12 cp1 noE (codeOf E.P 12).r.r.r.l ⟨[(0, .one (di x_)), (1, .one (di (max by_ (1 : Int))))], [], [], 21⟩ k = Option.bind (fixed_Div_lv1_r5_p x_ by_) (fun y2 : Int => k .normal ⟨[(4, .one (di y2))], [], [], 21⟩) := by
  have h : runCode E 12 cp1 noE (codeOf E.P 12).r.r.r.l ⟨[(0, .one (di x_)), (1, .one (di (max by_ (1 : Int))))], [], [], 21⟩ k = fixed_Div_lv1_r5_q x_ by_ (fun y2 : Int => k .normal ⟨[(4, .one (di y2))], [], [], 21⟩) := by kernel_rfl
  exact h.trans (fixed_Div_lv1_r5_n x_ by_ _)
/-- quilt/fixed.Div -/
def fixed_Div_lv1_q {β : Type} (x_ : Int) (by_ : Int) (K : Int → Option β) : Option β := (bif (decide (x_ < (0 : Int))) then (Option.bind (fixed_Div_lv0 (max (IntKind.wrap .i64 (0 - x_)) (0 : Int)) (max by_ (1 : Int))) (fun y1 : Int => (K (IntKind.wrap .i64 (0 - y1))))) else (Option.bind (fixed_Div_lv1_r5_p x_ by_) (fun y2 : Int => (K y2))))
def fixed_Div_lv1 (x_ : Int) (by_ : Int) : Option Int := fixed_Div_lv1_q x_ by_ some
theorem fixed_Div_lv1_n {β : Type} (x_ : Int) (by_ : Int) (K : Int → Option β) : fixed_Div_lv1_q x_ by_ K = (fixed_Div_lv1 x_ by_).bind K := (bif_b (bind_b fun y1 => some_b) (bind_b fun y2 => some_b))
theorem fixed_Div_lv1_is (x_ : Int) (by_ : Int) : stepS E cp1 noE 12 [.one (di x_), .one (di by_)] = Option.bind (fixed_Div_lv1 x_ by_) (fun y : Int => some (.one (di y))) := by
  have h : stepS E cp1 noE 12 [.one (di x_), .one (di by_)] = fixed_Div_lv1_q x_ by_ (fun y : Int => some (.one (di y))) := by
    refine (stepG_is (nt := 21) (regs := [(0, .one (di x_)), (1, .one (di by_))]) (by kernel_rfl) (by kernel_rfl)).trans ?_
    unfold fixed_Div_lv1_q
    refine (seq_push (by kernel_rfl)).trans ?_
    refine (fixed_Div_lv1_r1 x_ by_ _).trans ?_
    refine (seqC_normal (st' := ⟨[(0, .one (di x_)), (1, .one (di by_))], [], [], 21⟩) (by kernel_rfl)).trans ?_
    refine (seq_push (by kernel_rfl)).trans ?_
    refine (fixed_Div_lv1_r2 x_ by_ _).trans ?_
    refine (seqC_normal (st' := ⟨[(0, .one (di x_)), (1, .one (di (max by_ (1 : Int))))], [], [], 21⟩) (by kernel_rfl)).trans ?_
    refine (seq_push (by kernel_rfl)).trans ?_
    refine (seq_push (by kernel_rfl)).trans ?_
    refine (fixed_Div_lv1_r3 x_ by_ _).trans ?_
    refine (seqC_normal (st' := ⟨[(0, .one (di x_)), (1, .one (di (max by_ (1 : Int)))), (8, .one (db (decide (x_ < (0 : Int)))))], [], [], 21⟩) (by kernel_rfl)).trans ?_
    refine (cond_eq (b := (decide (x_ < (0 : Int)))) (st' := ⟨[(0, .one (di x_)), (1, .one (di (max by_ (1 : Int))))], [], [], 21⟩) (by kernel_rfl) (by kernel_rfl) (by kernel_rfl)).trans (bif_g ?_ ?_)
    · refine (seq_push (by kernel_rfl)).trans ?_
      refine (fixed_Div_lv1_r4 x_ by_ _).trans (bind_g fun y1 => ?_)
      refine (seqC_normal (st' := ⟨[(4, .one (di (IntKind.wrap .i64 (0 - y1))))], [], [], 21⟩) (by kernel_rfl)).trans ?_
      refine (ret_eq (by kernel_rfl)).trans ?_
      refine seqC_ret.trans ?_
      kernel_rfl
    · refine (skip_eq (by kernel_rfl)).trans ?_
      refine (seqC_normal (st' := ⟨[(0, .one (di x_)), (1, .one (di (max by_ (1 : Int))))], [], [], 21⟩) (by kernel_rfl)).trans ?_
      refine (seq_push (by kernel_rfl)).trans ?_
      refine (fixed_Div_lv1_r5 x_ by_ _).trans (bind_g fun y2 => ?_)
      refine (seqC_normal (st' := ⟨[(4, .one (di y2))], [], [], 21⟩) (by kernel_rfl)).trans ?_
      refine (ret_eq (by kernel_rfl)).trans ?_
      kernel_rfl
  exact h.trans (fixed_Div_lv1_n x_ by_ _)
theorem fixed_Div_lv1_c (x : denL [(.one (.g (.int .i64))), (.one (.g (.int .i64)))]) : stepS E cp1 noE 12 (encL [(.one (.g (.int .i64))), (.one (.g (.int .i64)))] x) = ((fun x => fixed_Div_lv1 x.1 x.2.1) x).bind fun y => some (Po.enc (.one (.one (.g (.int .i64)))) ((fun y : Int => y) y)) := Eq.mp (by kernel_rfl) (fixed_Div_lv1_is x.1 x.2.1)
noncomputable def cp2 : CallP := withC cp1 12 [(.one (.g (.int .i64))), (.one (.g (.int .i64)))] (.one (.one (.g (.int .i64)))) (fun y : Int => y) (fun x => fixed_Div_lv1 x.1 x.2.1)
theorem cp2_ok : PureOK E cp2 := withC_ok cp1_ok (stepS_ok eok cp1_ok noE_ok) fun x => con_of (enc := fun y => Po.enc (.one (.one (.g (.int .i64)))) ((fun y : Int => y) y)) (fixed_Div_lv1_c x)
theorem fixed_Div_r1 {α : Type} (x_ : Int) (by_ : Int) (k : Kont α) : runCode E 12 cp2 noE (codeOf E.P 12).l ⟨[(0, .one (di x_)), (1, .one (di by_))], [], [], 21⟩ k = k .normal ⟨[(0, .one (di x_)), (1, .one (di by_))], [], [], 21⟩ := by kernel_rfl
theorem fixed_Div_r2 {α : Type} (x_ : Int) (by_ : Int) (k : Kont α) : runCode E 12 cp2 noE (codeOf E.P 12).r.l ⟨[(0, .one (di x_)), (1, .one (di by_))], [], [], 21⟩ k = k .normal ⟨[(0, .one (di x_)), (1, .one (di (max by_ (1 : Int))))], [], [], 21⟩ := by kernel_rfl
theorem fixed_Div_r3 {α : Type} (x_ : Int) (by_ : Int) (k : Kont α) : runCode E 12 cp2 noE (codeOf E.P 12).r.r.l.l ⟨[(0, .one (di x_)), (1, .one (di (max by_ (1 : Int))))], [], [], 21⟩ k = k .normal ⟨[(0, .one (di x_)), (1, .one (di (max by_ (1 : Int)))), (8, .one (db (decide (x_ < (0 : Int)))))], [], [], 21⟩ := by kernel_rfl
theorem fixed_Div_r4 {α : Type} (x_ : Int) (by_ : Int) (k : Kont α) : runCode E 12 cp2 noE (codeOf E.P 12).r.r.l.r.t.l ⟨[(0, .one (di x_)), (1, .one (di (max by_ (1 : Int))))], [], [], 21⟩ k = Option.bind (fixed_Div_lv1 (max (IntKind.wrap .i64 (0 - x_)) (0 : Int)) (max by_ (1 : Int))) (fun y3 : Int => k .normal ⟨[(4, .one (di (IntKind.wrap .i64 (0 - y3))))], [], [], 21⟩) := by kernel_rfl
def fixed_Div_r5_q {β : Type} (x_ : Int) (by_ : Int) (K : Int → Option β) : Option β := (bif ((max by_ (1 : Int)) == (0:Int)) then none else (K (IntKind.wrap .i64 (Int.tdiv (IntKind.wrap .i64 (x_ + (IntKind.wrap .i64 (Int.tdiv (max by_ (1 : Int)) (2 : Int))))) (max by_ (1 : Int))))))
def fixed_Div_r5_p (x_ : Int) (by_ : Int) : Option (Int) := fixed_Div_r5_q x_ by_ some
theorem fixed_Div_r5_n {β : Type} (x_ : Int) (by_ : Int) (K : Int → Option β) : fixed_Div_r5_q x_ by_ K = (fixed_Div_r5_p x_ by_).bind K := (bif_b none_b some_b)
theorem fixed_Div_r5 {α : Type} (x_ : Int) (by_ : Int) (k : Kont α) : runCode E 12 cp2 noE (codeOf E.P 12).r.r.r.l ⟨[(0, .one (di x_)), (1, .one (di (max by_ (1 : Int))))], [], [], 21⟩ k = Option.bind (fixed_Div_r5_p x_ by_) (fun y4 : Int => k .normal ⟨[(4, .one (di y4))], [], [], 21⟩) := by
  have h : runCode E 12 cp2 noE (codeOf E.P 12).r.r.r.l ⟨[(0, .one (di x_)), (1, .one (di (max by_ (1 : Int))))], [], [], 21⟩ k = fixed_Div_r5_q x_ by_ (fun y4 : Int => k .normal ⟨[(4, .one (di y4))], [], [], 21⟩) := by kernel_rfl
  exact h.trans (fixed_Div_r5_n x_ by_ _)
/-- quilt/fixed.Div -/
def fixed_Div_q {β : Type} (x_ : Int) (by_ : Int) (K : Int → Option β) : Option β := (bif (decide (x_ < (0 : Int))) then (Option.bind (fixed_Div_lv1 (max (IntKind.wrap .i64 (0 - x_)) (0 : Int)) (max by_ (1 : Int))) (fun y3 : Int => (K (IntKind.wrap .i64 (0 - y3))))) else (Option.bind (fixed_Div_r5_p x_ by_) (fun y4 : Int => (K y4))))
def fixed_Div (x_ : Int) (by_ : Int) : Option Int := fixed_Div_q x_ by_ some
theorem fixed_Div_n {β : Type} (x_ : Int) (by_ : Int) (K : Int → Option β) : fixed_Div_q x_ by_ K = (fixed_Div x_ by_).bind K := (bif_b (bind_b fun y3 => some_b) (bind_b fun y4 => some_b))
theorem fixed_Div_is (x_ : Int) (by_ : Int) : stepS E cp2 noE 12 [.one (di x_), .one (di by_)] = Option.bind (fixed_Div x_ by_) (fun y : Int => some (.one (di y))) := by
  have h : stepS E cp2 noE 12 [.one (di x_), .one (di by_)] = fixed_Div_q x_ by_ (fun y : Int => some (.one (di y))) := by
    refine (stepG_is (nt := 21) (regs := [(0, .one (di x_)), (1, .one (di by_))]) (by kernel_rfl) (by kernel_rfl)).trans ?_
    unfold fixed_Div_q
    refine (seq_push (by kernel_rfl)).trans ?_
    refine (fixed_Div_r1 x_ by_ _).trans ?_
    refine (seqC_normal (st' := ⟨[(0, .one (di x_)), (1, .one (di by_))], [], [], 21⟩) (by kernel_rfl)).trans ?_
    refine (seq_push (by kernel_rfl)).trans ?_
    refine (fixed_Div_r2 x_ by_ _).trans ?_
    refine (seqC_normal (st' := ⟨[(0, .one (di x_)), (1, .one (di (max by_ (1 : Int))))], [], [], 21⟩) (by kernel_rfl)).trans ?_
    refine (seq_push (by kernel_rfl)).trans ?_
    refine (seq_push (by kernel_rfl)).trans ?_
    refine (fixed_Div_r3 x_ by_ _).trans ?_
    refine (seqC_normal (st' := ⟨[(0, .one (di x_)), (1, .one (di (max by_ (1 : Int)))), (8, .one (db (decide (x_ < (0 : Int)))))], [], [], 21⟩) (by kernel_rfl)).trans ?_
    refine (cond_eq (b := (decide (x_ < (0 : Int)))) (st' := ⟨[(0, .one (di x_)), (1, .one (di (max by_ (1 : Int))))], [], [], 21⟩) (by kernel_rfl) (by kernel_rfl) (by kernel_rfl)).trans (bif_g ?_ ?_)
    · refine (seq_push (by kernel_rfl)).trans ?_
      refine (fixed_Div_r4 x_ by_ _).trans (bind_g fun y3 => ?_)
      refine (seqC_normal (st' := ⟨[(4, .one (di (IntKind.wrap .i64 (0 - y3))))], [], [], 21⟩) (by kernel_rfl)).trans ?_
      refine (ret_eq (by kernel_rfl)).trans ?_
      refine seqC_ret.trans ?_
      kernel_rfl
    · refine (skip_eq (by kernel_rfl)).trans ?_
      refine (seqC_normal (st' := ⟨[(0, .one (di x_)), (1, .one (di (max by_ (1 : Int))))], [], [], 21⟩) (by kernel_rfl)).trans ?_
      refine (seq_push (by kernel_rfl)).trans ?_
      refine (fixed_Div_r5 x_ by_ _).trans (bind_g fun y4 => ?_)
      refine (seqC_normal (st' := ⟨[(4, .one (di y4))], [], [], 21⟩) (by kernel_rfl)).trans ?_
      refine (ret_eq (by kernel_rfl)).trans ?_
      kernel_rfl
  exact h.trans (fixed_Div_n x_ by_ _)
theorem fixed_Div_c (x : denL [(.one (.g (.int .i64))), (.one (.g (.int .i64)))]) : stepS E cp2 noE 12 (encL [(.one (.g (.int .i64))), (.one (.g (.int .i64)))] x) = ((fun x => fixed_Div x.1 x.2.1) x).bind fun y => some (Po.enc (.one (.one (.g (.int .i64)))) ((fun y : Int => y) y)) := Eq.mp (by kernel_rfl) (fixed_Div_is x.1 x.2.1)
noncomputable def cp3 : CallP := withC cp2 12 [(.one (.g (.int .i64))), (.one (.g (.int .i64)))] (.one (.one (.g (.int .i64)))) (fun y : Int => y) (fun x => fixed_Div x.1 x.2.1)
theorem cp3_ok : PureOK E cp3 := withC_ok cp2_ok (stepS_ok eok cp2_ok noE_ok) fun x => con_of (enc := fun y => Po.enc (.one (.one (.g (.int .i64)))) ((fun y : Int => y) y)) (fixed_Div_c x)
theorem fixed_held_r1 {α : Type} (low : Int) (high : Int) (k : Kont α) : runCode E 23 cp3 noE (codeOf E.P 23).l ⟨[(0, .one (di low)), (1, .one (di high))], [], [], 6⟩ k = k .normal ⟨[(2, .one (.cell [di low])), (3, .one (.cell [di high]))], [], [], 6⟩ := by kernel_rfl
theorem fixed_held_r2 {α : Type} (low : Int) (high : Int) (k : Kont α) : runCode E 23 cp3 noE (codeOf E.P 23).r.l ⟨[(2, .one (.cell [di low])), (3, .one (.cell [di high]))], [], [], 6⟩ k = k .normal ⟨[(4, .one (.fn 25 [.cell [di low], .cell [di high]]))], [], [], 6⟩ := by kernel_rfl
/-- quilt/fixed.held -/
def fixed_held_q {β : Type} (low : Int) (high : Int) (K : ((Int × Unit) × (Int × Unit) × Unit) → β) : β := (K ((low, ()), (high, ()), ()))
def fixed_held (low : Int) (high : Int) : ((Int × Unit) × (Int × Unit) × Unit) := fixed_held_q low high (fun y => y)
theorem fixed_held_n {β : Type} (low : Int) (high : Int) (K : ((Int × Unit) × (Int × Unit) × Unit) → β) : fixed_held_q low high K = K (fixed_held low high) := rfl
theorem fixed_held_is (low : Int) (high : Int) : stepS E cp3 noE 23 [.one (di low), .one (di high)] = (fun y : ((Int × Unit) × (Int × Unit) × Unit) => some (.one (.fn 25 [.cell [di y.1.1], .cell [di y.2.1.1]]))) (fixed_held low high) := by
  have h : stepS E cp3 noE 23 [.one (di low), .one (di high)] = fixed_held_q low high (fun y : ((Int × Unit) × (Int × Unit) × Unit) => some (.one (.fn 25 [.cell [di y.1.1], .cell [di y.2.1.1]]))) := by
    refine (stepG_is (nt := 6) (regs := [(0, .one (di low)), (1, .one (di high))]) (by kernel_rfl) (by kernel_rfl)).trans ?_
    unfold fixed_held_q
    refine (seq_push (by kernel_rfl)).trans ?_
    refine (fixed_held_r1 low high _).trans ?_
    refine (seqC_normal (st' := ⟨[(2, .one (.cell [di low])), (3, .one (.cell [di high]))], [], [], 6⟩) (by kernel_rfl)).trans ?_
    refine (seq_push (by kernel_rfl)).trans ?_
    refine (fixed_held_r2 low high _).trans ?_
    refine (seqC_normal (st' := ⟨[(4, .one (.fn 25 [.cell [di low], .cell [di high]]))], [], [], 6⟩) (by kernel_rfl)).trans ?_
    refine (ret_eq (by kernel_rfl)).trans ?_
    kernel_rfl
  exact h.trans (fixed_held_n low high _)
theorem fixed_held_c (x : denL [(.one (.g (.int .i64))), (.one (.g (.int .i64)))]) : stepS E cp3 noE 23 (encL [(.one (.g (.int .i64))), (.one (.g (.int .i64)))] x) = ((fun x => some (fixed_held x.1 x.2.1)) x).bind fun y => some (Po.enc (.one (.one (.fn 25 (.cons (.cell (.cons (.g (.int .i64)) .nil)) (.cons (.cell (.cons (.g (.int .i64)) .nil)) .nil))))) ((fun y : ((Int × Unit) × (Int × Unit) × Unit) => y) y)) := Eq.mp (by kernel_rfl) (fixed_held_is x.1 x.2.1)
noncomputable def cp4 : CallP := withC cp3 23 [(.one (.g (.int .i64))), (.one (.g (.int .i64)))] (.one (.one (.fn 25 (.cons (.cell (.cons (.g (.int .i64)) .nil)) (.cons (.cell (.cons (.g (.int .i64)) .nil)) .nil))))) (fun y : ((Int × Unit) × (Int × Unit) × Unit) => y) (fun x => some (fixed_held x.1 x.2.1))
theorem cp4_ok : PureOK E cp4 := withC_ok cp3_ok (stepS_ok eok cp3_ok noE_ok) fun x => con_of (enc := fun y => Po.enc (.one (.one (.fn 25 (.cons (.cell (.cons (.g (.int .i64)) .nil)) (.cons (.cell (.cons (.g (.int .i64)) .nil)) .nil))))) ((fun y : ((Int × Unit) × (Int × Unit) × Unit) => y) y)) (fixed_held_c x)
theorem fixed_held_1_r1 {α : Type} (x_ : Int) (c1_ : Int) (c2_ : Int) (k : Kont α) : runCode E 25 cp4 noE (codeOf E.P 25).l ⟨[(0, .one (di x_)), (1, .one (.cell [di c1_])), (2, .one (.cell [di c2_]))], [], [], 10⟩ k = k .normal ⟨[(0, .one (di x_)), (1, .one (.cell [di c1_])), (2, .one (.cell [di c2_]))], [], [], 10⟩ := by kernel_rfl
theorem fixed_held_1_r2 {α : Type} (x_ : Int) (c1_ : Int) (c2_ : Int) (k : Kont α) : runCode E 25 cp4 noE (codeOf E.P 25).r.l ⟨[(0, .one (di x_)), (1, .one (.cell [di c1_])), (2, .one (.cell [di c2_]))], [], [], 10⟩ k = k .normal ⟨[(4, .one (di (min (max x_ c1_) c2_)))], [], [], 10⟩ := by kernel_rfl
/-- quilt/fixed.held$1 -/
def fixed_held_1_q {β : Type} (x_ : Int) (c1_ : Int) (c2_ : Int) (K : Int → β) : β := (K (min (max x_ c1_) c2_))
def fixed_held_1 (x_ : Int) (c1_ : Int) (c2_ : Int) : Int := fixed_held_1_q x_ c1_ c2_ (fun y => y)
theorem fixed_held_1_n {β : Type} (x_ : Int) (c1_ : Int) (c2_ : Int) (K : Int → β) : fixed_held_1_q x_ c1_ c2_ K = K (fixed_held_1 x_ c1_ c2_) := rfl
theorem fixed_held_1_is (x_ : Int) (c1_ : Int) (c2_ : Int) : stepS E cp4 noE 25 [.one (di x_), .one (.cell [di c1_]), .one (.cell [di c2_])] = (fun y : Int => some (.one (di y))) (fixed_held_1 x_ c1_ c2_) := by
  have h : stepS E cp4 noE 25 [.one (di x_), .one (.cell [di c1_]), .one (.cell [di c2_])] = fixed_held_1_q x_ c1_ c2_ (fun y : Int => some (.one (di y))) := by
    refine (stepG_is (nt := 10) (regs := [(0, .one (di x_)), (1, .one (.cell [di c1_])), (2, .one (.cell [di c2_]))]) (by kernel_rfl) (by kernel_rfl)).trans ?_
    unfold fixed_held_1_q
    refine (seq_push (by kernel_rfl)).trans ?_
    refine (fixed_held_1_r1 x_ c1_ c2_ _).trans ?_
    refine (seqC_normal (st' := ⟨[(0, .one (di x_)), (1, .one (.cell [di c1_])), (2, .one (.cell [di c2_]))], [], [], 10⟩) (by kernel_rfl)).trans ?_
    refine (seq_push (by kernel_rfl)).trans ?_
    refine (fixed_held_1_r2 x_ c1_ c2_ _).trans ?_
    refine (seqC_normal (st' := ⟨[(4, .one (di (min (max x_ c1_) c2_)))], [], [], 10⟩) (by kernel_rfl)).trans ?_
    refine (ret_eq (by kernel_rfl)).trans ?_
    kernel_rfl
  exact h.trans (fixed_held_1_n x_ c1_ c2_ _)
theorem fixed_held_1_c (x : denL [(.one (.g (.int .i64))), (.one (.cell (.cons (.g (.int .i64)) .nil))), (.one (.cell (.cons (.g (.int .i64)) .nil)))]) : stepS E cp4 noE 25 (encL [(.one (.g (.int .i64))), (.one (.cell (.cons (.g (.int .i64)) .nil))), (.one (.cell (.cons (.g (.int .i64)) .nil)))] x) = ((fun x => some (fixed_held_1 x.1 x.2.1.1 x.2.2.1.1)) x).bind fun y => some (Po.enc (.one (.one (.g (.int .i64)))) ((fun y : Int => y) y)) := Eq.mp (by kernel_rfl) (fixed_held_1_is x.1 x.2.1.1 x.2.2.1.1)
noncomputable def cp5 : CallP := withC cp4 25 [(.one (.g (.int .i64))), (.one (.cell (.cons (.g (.int .i64)) .nil))), (.one (.cell (.cons (.g (.int .i64)) .nil)))] (.one (.one (.g (.int .i64)))) (fun y : Int => y) (fun x => some (fixed_held_1 x.1 x.2.1.1 x.2.2.1.1))
theorem cp5_ok : PureOK E cp5 := withC_ok cp4_ok (stepS_ok eok cp4_ok noE_ok) fun x => con_of (enc := fun y => Po.enc (.one (.one (.g (.int .i64)))) ((fun y : Int => y) y)) (fixed_held_1_c x)
theorem fixed_Shift_r1 {α : Type} (x_ : Int) (shift : Int) (k : Kont α) : runCode E 17 cp5 noE (codeOf E.P 17).l ⟨[(0, .one (di x_)), (1, .one (di shift))], [], [], 11⟩ k = k .normal ⟨[(0, .one (di x_)), (1, .one (di shift))], [], [], 11⟩ := by kernel_rfl
def fixed_Shift_r2_q {β : Type} (x_ : Int) (shift : Int) (K : Int → Option β) : Option β := (bif (decide ((0:Int) ≤ (fixed_held_1 shift (((fixed_held (0 : Int) (31 : Int)).1).1) (((fixed_held (0 : Int) (31 : Int)).2.1).1)))) then (Option.bind (fixed_Div x_ (IntKind.wrap .i64 ((1 : Int) * 2 ^ min (Int.toNat (fixed_held_1 shift (((fixed_held (0 : Int) (31 : Int)).1).1) (((fixed_held (0 : Int) (31 : Int)).2.1).1))) (IntKind.bits .i64)))) (fun y7 : Int => (K y7))) else none)
def fixed_Shift_r2_p (x_ : Int) (shift : Int) : Option (Int) := fixed_Shift_r2_q x_ shift some
theorem fixed_Shift_r2_n {β : Type} (x_ : Int) (shift : Int) (K : Int → Option β) : fixed_Shift_r2_q x_ shift K = (fixed_Shift_r2_p x_ shift).bind K := (bif_b (bind_b fun y7 => some_b) none_b)
theorem fixed_Shift_r2 {α : Type} (x_ : Int) (shift : Int) (k : Kont α) : runCode E 17 cp5 noE (codeOf E.P 17).r.l ⟨[(0, .one (di x_)), (1, .one (di shift))], [], [], 11⟩ k = Option.bind (fixed_Shift_r2_p x_ shift) (fun y8 : Int => k .normal ⟨[(4, .one (di y8))], [], [], 11⟩) := by
  have h : runCode E 17 cp5 noE (codeOf E.P 17).r.l ⟨[(0, .one (di x_)), (1, .one (di shift))], [], [], 11⟩ k = fixed_Shift_r2_q x_ shift (fun y8 : Int => k .normal ⟨[(4, .one (di y8))], [], [], 11⟩) := by kernel_rfl
  exact h.trans (fixed_Shift_r2_n x_ shift _)
/-- quilt/fixed.Shift -/
def fixed_Shift_q {β : Type} (x_ : Int) (shift : Int) (K : Int → Option β) : Option β := (Option.bind (fixed_Shift_r2_p x_ shift) (fun y8 : Int => (K y8)))
def fixed_Shift (x_ : Int) (shift : Int) : Option Int := fixed_Shift_q x_ shift some
theorem fixed_Shift_n {β : Type} (x_ : Int) (shift : Int) (K : Int → Option β) : fixed_Shift_q x_ shift K = (fixed_Shift x_ shift).bind K := (bind_b fun y8 => some_b)
theorem fixed_Shift_is (x_ : Int) (shift : Int) : stepS E cp5 noE 17 [.one (di x_), .one (di shift)] = Option.bind (fixed_Shift x_ shift) (fun y : Int => some (.one (di y))) := by
  have h : stepS E cp5 noE 17 [.one (di x_), .one (di shift)] = fixed_Shift_q x_ shift (fun y : Int => some (.one (di y))) := by
    refine (stepG_is (nt := 11) (regs := [(0, .one (di x_)), (1, .one (di shift))]) (by kernel_rfl) (by kernel_rfl)).trans ?_
    unfold fixed_Shift_q
    refine (seq_push (by kernel_rfl)).trans ?_
    refine (fixed_Shift_r1 x_ shift _).trans ?_
    refine (seqC_normal (st' := ⟨[(0, .one (di x_)), (1, .one (di shift))], [], [], 11⟩) (by kernel_rfl)).trans ?_
    refine (seq_push (by kernel_rfl)).trans ?_
    refine (fixed_Shift_r2 x_ shift _).trans (bind_g fun y8 => ?_)
    refine (seqC_normal (st' := ⟨[(4, .one (di y8))], [], [], 11⟩) (by kernel_rfl)).trans ?_
    refine (ret_eq (by kernel_rfl)).trans ?_
    kernel_rfl
  exact h.trans (fixed_Shift_n x_ shift _)
theorem fixed_Shift_c (x : denL [(.one (.g (.int .i64))), (.one (.g (.int .i64)))]) : stepS E cp5 noE 17 (encL [(.one (.g (.int .i64))), (.one (.g (.int .i64)))] x) = ((fun x => fixed_Shift x.1 x.2.1) x).bind fun y => some (Po.enc (.one (.one (.g (.int .i64)))) ((fun y : Int => y) y)) := Eq.mp (by kernel_rfl) (fixed_Shift_is x.1 x.2.1)
noncomputable def cp6 : CallP := withC cp5 17 [(.one (.g (.int .i64))), (.one (.g (.int .i64)))] (.one (.one (.g (.int .i64)))) (fun y : Int => y) (fun x => fixed_Shift x.1 x.2.1)
theorem cp6_ok : PureOK E cp6 := withC_ok cp5_ok (stepS_ok eok cp5_ok noE_ok) fun x => con_of (enc := fun y => Po.enc (.one (.one (.g (.int .i64)))) ((fun y : Int => y) y)) (fixed_Shift_c x)
theorem fixed_Clamp_r1 {α : Type} (x_ : Int) (k : Kont α) : runCode E 14 cp6 noE (codeOf E.P 14).l ⟨[(0, .one (di x_))], [], [], 6⟩ k = k .normal ⟨[(0, .one (di x_))], [], [], 6⟩ := by kernel_rfl
def fixed_Clamp_r2_q {β : Type} (x_ : Int) (K : Int → β) : β := (K (fixed_held_1 x_ (((fixed_held (-128 : Int) (127 : Int)).1).1) (((fixed_held (-128 : Int) (127 : Int)).2.1).1)))
def fixed_Clamp_r2_p (x_ : Int) : Int := fixed_Clamp_r2_q x_ (fun y => y)
theorem fixed_Clamp_r2_n {β : Type} (x_ : Int) (K : Int → β) : fixed_Clamp_r2_q x_ K = K (fixed_Clamp_r2_p x_) := rfl
theorem fixed_Clamp_r2 {α : Type} (x_ : Int) (k : Kont α) : runCode E 14 cp6 noE (codeOf E.P 14).r.l ⟨[(0, .one (di x_))], [], [], 6⟩ k = k .normal ⟨[(2, .one (di (fixed_Clamp_r2_p x_)))], [], [], 6⟩ := by
  have h : runCode E 14 cp6 noE (codeOf E.P 14).r.l ⟨[(0, .one (di x_))], [], [], 6⟩ k = fixed_Clamp_r2_q x_ (fun y10 : Int => k .normal ⟨[(2, .one (di y10))], [], [], 6⟩) := by kernel_rfl
  exact h.trans (fixed_Clamp_r2_n x_ _)
/-- quilt/fixed.Clamp -/
def fixed_Clamp_q {β : Type} (x_ : Int) (K : Int → β) : β := (K (fixed_Clamp_r2_p x_))
def fixed_Clamp (x_ : Int) : Int := fixed_Clamp_q x_ (fun y => y)
theorem fixed_Clamp_n {β : Type} (x_ : Int) (K : Int → β) : fixed_Clamp_q x_ K = K (fixed_Clamp x_) := rfl
theorem fixed_Clamp_is (x_ : Int) : stepS E cp6 noE 14 [.one (di x_)] = (fun y : Int => some (.one (di y))) (fixed_Clamp x_) := by
  have h : stepS E cp6 noE 14 [.one (di x_)] = fixed_Clamp_q x_ (fun y : Int => some (.one (di y))) := by
    refine (stepG_is (nt := 6) (regs := [(0, .one (di x_))]) (by kernel_rfl) (by kernel_rfl)).trans ?_
    unfold fixed_Clamp_q
    refine (seq_push (by kernel_rfl)).trans ?_
    refine (fixed_Clamp_r1 x_ _).trans ?_
    refine (seqC_normal (st' := ⟨[(0, .one (di x_))], [], [], 6⟩) (by kernel_rfl)).trans ?_
    refine (seq_push (by kernel_rfl)).trans ?_
    refine (fixed_Clamp_r2 x_ _).trans ?_
    refine (seqC_normal (st' := ⟨[(2, .one (di (fixed_Clamp_r2_p x_)))], [], [], 6⟩) (by kernel_rfl)).trans ?_
    refine (ret_eq (by kernel_rfl)).trans ?_
    kernel_rfl
  exact h.trans (fixed_Clamp_n x_ _)
theorem fixed_Clamp_c (x : denL [(.one (.g (.int .i64)))]) : stepS E cp6 noE 14 (encL [(.one (.g (.int .i64)))] x) = ((fun x => some (fixed_Clamp x.1)) x).bind fun y => some (Po.enc (.one (.one (.g (.int .i64)))) ((fun y : Int => y) y)) := Eq.mp (by kernel_rfl) (fixed_Clamp_is x.1)
noncomputable def cp7 : CallP := withC cp6 14 [(.one (.g (.int .i64)))] (.one (.one (.g (.int .i64)))) (fun y : Int => y) (fun x => some (fixed_Clamp x.1))
theorem cp7_ok : PureOK E cp7 := withC_ok cp6_ok (stepS_ok eok cp6_ok noE_ok) fun x => con_of (enc := fun y => Po.enc (.one (.one (.g (.int .i64)))) ((fun y : Int => y) y)) (fixed_Clamp_c x)
theorem fixed_Sat_r1 {α : Type} (x_ : Int) (k : Kont α) : runCode E 15 cp7 noE (codeOf E.P 15).l ⟨[(0, .one (di x_))], [], [], 6⟩ k = k .normal ⟨[(0, .one (di x_))], [], [], 6⟩ := by kernel_rfl
def fixed_Sat_r2_q {β : Type} (x_ : Int) (K : Int → β) : β := (K (fixed_held_1 x_ (((fixed_held (-2147483648 : Int) (2147483647 : Int)).1).1) (((fixed_held (-2147483648 : Int) (2147483647 : Int)).2.1).1)))
def fixed_Sat_r2_p (x_ : Int) : Int := fixed_Sat_r2_q x_ (fun y => y)
theorem fixed_Sat_r2_n {β : Type} (x_ : Int) (K : Int → β) : fixed_Sat_r2_q x_ K = K (fixed_Sat_r2_p x_) := rfl
theorem fixed_Sat_r2 {α : Type} (x_ : Int) (k : Kont α) : runCode E 15 cp7 noE (codeOf E.P 15).r.l ⟨[(0, .one (di x_))], [], [], 6⟩ k = k .normal ⟨[(2, .one (di (fixed_Sat_r2_p x_)))], [], [], 6⟩ := by
  have h : runCode E 15 cp7 noE (codeOf E.P 15).r.l ⟨[(0, .one (di x_))], [], [], 6⟩ k = fixed_Sat_r2_q x_ (fun y11 : Int => k .normal ⟨[(2, .one (di y11))], [], [], 6⟩) := by kernel_rfl
  exact h.trans (fixed_Sat_r2_n x_ _)
/-- quilt/fixed.Sat -/
def fixed_Sat_q {β : Type} (x_ : Int) (K : Int → β) : β := (K (fixed_Sat_r2_p x_))
def fixed_Sat (x_ : Int) : Int := fixed_Sat_q x_ (fun y => y)
theorem fixed_Sat_n {β : Type} (x_ : Int) (K : Int → β) : fixed_Sat_q x_ K = K (fixed_Sat x_) := rfl
theorem fixed_Sat_is (x_ : Int) : stepS E cp7 noE 15 [.one (di x_)] = (fun y : Int => some (.one (di y))) (fixed_Sat x_) := by
  have h : stepS E cp7 noE 15 [.one (di x_)] = fixed_Sat_q x_ (fun y : Int => some (.one (di y))) := by
    refine (stepG_is (nt := 6) (regs := [(0, .one (di x_))]) (by kernel_rfl) (by kernel_rfl)).trans ?_
    unfold fixed_Sat_q
    refine (seq_push (by kernel_rfl)).trans ?_
    refine (fixed_Sat_r1 x_ _).trans ?_
    refine (seqC_normal (st' := ⟨[(0, .one (di x_))], [], [], 6⟩) (by kernel_rfl)).trans ?_
    refine (seq_push (by kernel_rfl)).trans ?_
    refine (fixed_Sat_r2 x_ _).trans ?_
    refine (seqC_normal (st' := ⟨[(2, .one (di (fixed_Sat_r2_p x_)))], [], [], 6⟩) (by kernel_rfl)).trans ?_
    refine (ret_eq (by kernel_rfl)).trans ?_
    kernel_rfl
  exact h.trans (fixed_Sat_n x_ _)
theorem fixed_Sat_c (x : denL [(.one (.g (.int .i64)))]) : stepS E cp7 noE 15 (encL [(.one (.g (.int .i64)))] x) = ((fun x => some (fixed_Sat x.1)) x).bind fun y => some (Po.enc (.one (.one (.g (.int .i64)))) ((fun y : Int => y) y)) := Eq.mp (by kernel_rfl) (fixed_Sat_is x.1)
noncomputable def cp8 : CallP := withC cp7 15 [(.one (.g (.int .i64)))] (.one (.one (.g (.int .i64)))) (fun y : Int => y) (fun x => some (fixed_Sat x.1))
theorem cp8_ok : PureOK E cp8 := withC_ok cp7_ok (stepS_ok eok cp7_ok noE_ok) fun x => con_of (enc := fun y => Po.enc (.one (.one (.g (.int .i64)))) ((fun y : Int => y) y)) (fixed_Sat_c x)
theorem fixed_Scale_r1 {α : Type} (acc : Int) (mul : Int) (shift : Int) (zero : Int) (k : Kont α) : runCode E 13 cp8 noE (codeOf E.P 13).l ⟨[(0, .one (di acc)), (1, .one (di mul)), (2, .one (di shift)), (3, .one (di zero))], [], [], 21⟩ k = k .normal ⟨[(0, .one (di acc)), (1, .one (di mul)), (2, .one (di shift)), (3, .one (di zero))], [], [], 21⟩ := by kernel_rfl
theorem fixed_Scale_r2 {α : Type} (acc : Int) (mul : Int) (shift : Int) (zero : Int) (k : Kont α) : runCode E 13 cp8 noE (codeOf E.P 13).r.l ⟨[(0, .one (di acc)), (1, .one (di mul)), (2, .one (di shift)), (3, .one (di zero))], [], [], 21⟩ k = Option.bind (fixed_Shift (IntKind.wrap .i64 ((fixed_Sat acc) * (fixed_held_1 mul (((fixed_held (1 : Int) (32767 : Int)).1).1) (((fixed_held (1 : Int) (32767 : Int)).2.1).1)))) shift) (fun y12 : Int => k .normal ⟨[(8, .one (di (fixed_Clamp (IntKind.wrap .i64 ((fixed_Clamp zero) + y12)))))], [], [], 21⟩) := by kernel_rfl
/-- quilt/fixed.Scale -/
def fixed_Scale_q {β : Type} (acc : Int) (mul : Int) (shift : Int) (zero : Int) (K : Int → Option β) : Option β := (Option.bind (fixed_Shift (IntKind.wrap .i64 ((fixed_Sat acc) * (fixed_held_1 mul (((fixed_held (1 : Int) (32767 : Int)).1).1) (((fixed_held (1 : Int) (32767 : Int)).2.1).1)))) shift) (fun y12 : Int => (K (fixed_Clamp (IntKind.wrap .i64 ((fixed_Clamp zero) + y12))))))
def fixed_Scale (acc : Int) (mul : Int) (shift : Int) (zero : Int) : Option Int := fixed_Scale_q acc mul shift zero some
theorem fixed_Scale_n {β : Type} (acc : Int) (mul : Int) (shift : Int) (zero : Int) (K : Int → Option β) : fixed_Scale_q acc mul shift zero K = (fixed_Scale acc mul shift zero).bind K := (bind_b fun y12 => some_b)
theorem fixed_Scale_is (acc : Int) (mul : Int) (shift : Int) (zero : Int) : stepS E cp8 noE 13 [.one (di acc), .one (di mul), .one (di shift), .one (di zero)] = Option.bind (fixed_Scale acc mul shift zero) (fun y : Int => some (.one (di y))) := by
  have h : stepS E cp8 noE 13 [.one (di acc), .one (di mul), .one (di shift), .one (di zero)] = fixed_Scale_q acc mul shift zero (fun y : Int => some (.one (di y))) := by
    refine (stepG_is (nt := 21) (regs := [(0, .one (di acc)), (1, .one (di mul)), (2, .one (di shift)), (3, .one (di zero))]) (by kernel_rfl) (by kernel_rfl)).trans ?_
    unfold fixed_Scale_q
    refine (seq_push (by kernel_rfl)).trans ?_
    refine (fixed_Scale_r1 acc mul shift zero _).trans ?_
    refine (seqC_normal (st' := ⟨[(0, .one (di acc)), (1, .one (di mul)), (2, .one (di shift)), (3, .one (di zero))], [], [], 21⟩) (by kernel_rfl)).trans ?_
    refine (seq_push (by kernel_rfl)).trans ?_
    refine (fixed_Scale_r2 acc mul shift zero _).trans (bind_g fun y12 => ?_)
    refine (seqC_normal (st' := ⟨[(8, .one (di (fixed_Clamp (IntKind.wrap .i64 ((fixed_Clamp zero) + y12)))))], [], [], 21⟩) (by kernel_rfl)).trans ?_
    refine (ret_eq (by kernel_rfl)).trans ?_
    kernel_rfl
  exact h.trans (fixed_Scale_n acc mul shift zero _)
theorem fixed_Scale_c (x : denL [(.one (.g (.int .i64))), (.one (.g (.int .i64))), (.one (.g (.int .i64))), (.one (.g (.int .i64)))]) : stepS E cp8 noE 13 (encL [(.one (.g (.int .i64))), (.one (.g (.int .i64))), (.one (.g (.int .i64))), (.one (.g (.int .i64)))] x) = ((fun x => fixed_Scale x.1 x.2.1 x.2.2.1 x.2.2.2.1) x).bind fun y => some (Po.enc (.one (.one (.g (.int .i64)))) ((fun y : Int => y) y)) := Eq.mp (by kernel_rfl) (fixed_Scale_is x.1 x.2.1 x.2.2.1 x.2.2.2.1)
noncomputable def cp9 : CallP := withC cp8 13 [(.one (.g (.int .i64))), (.one (.g (.int .i64))), (.one (.g (.int .i64))), (.one (.g (.int .i64)))] (.one (.one (.g (.int .i64)))) (fun y : Int => y) (fun x => fixed_Scale x.1 x.2.1 x.2.2.1 x.2.2.2.1)
theorem cp9_ok : PureOK E cp9 := withC_ok cp8_ok (stepS_ok eok cp8_ok noE_ok) fun x => con_of (enc := fun y => Po.enc (.one (.one (.g (.int .i64)))) ((fun y : Int => y) y)) (fixed_Scale_c x)
theorem law01_shown_r1 {α : Type} (k : Kont α) : runCode E 11 cp9 noE (codeOf E.P 11).l ⟨[], [], [], 15⟩ k = k .normal ⟨[], [], [], 15⟩ := by kernel_rfl
def law01_shown_r2_q {β : Type} (K : Bool → Option β) : Option β := (Option.bind (fixed_Div (5 : Int) (2 : Int)) (fun y5 : Int => (bif (y5 == (3 : Int)) then (Option.bind (fixed_Div (-5 : Int) (2 : Int)) (fun y6 : Int => (bif (y6 == (-3 : Int)) then (Option.bind (fixed_Shift (-3 : Int) (1 : Int)) (fun y9 : Int => (bif (y9 == (-2 : Int)) then (Option.bind (fixed_Scale (100 : Int) (3 : Int) (2 : Int) (-5 : Int)) (fun y13 : Int => (K (y13 == (70 : Int))))) else (K false)))) else (K false)))) else (K false))))
def law01_shown_r2_p : Option (Bool) := law01_shown_r2_q some
theorem law01_shown_r2_n {β : Type} (K : Bool → Option β) : law01_shown_r2_q K = (law01_shown_r2_p).bind K := (bind_b fun y5 => (bif_b (bind_b fun y6 => (bif_b (bind_b fun y9 => (bif_b (bind_b fun y13 => some_b) some_b)) some_b)) some_b))
theorem law01_shown_r2 {α : Type} (k : Kont α) : runCode E 11 cp9 noE (codeOf E.P 11).r.l ⟨[], [], [], 15⟩ k = Option.bind (law01_shown_r2_p) (fun y14 : Bool => k .normal ⟨[(0, .one (db y14))], [], [], 15⟩) := by
  have h : runCode E 11 cp9 noE (codeOf E.P 11).r.l ⟨[], [], [], 15⟩ k = law01_shown_r2_q (fun y14 : Bool => k .normal ⟨[(0, .one (db y14))], [], [], 15⟩) := by kernel_rfl
  exact h.trans (law01_shown_r2_n _)
/-- quilt/quiltlaw01.shown -/
def law01_shown_q {β : Type} (K : Bool → Option β) : Option β := (Option.bind law01_shown_r2_p (fun y14 : Bool => (K y14)))
def law01_shown : Option Bool := law01_shown_q some
theorem law01_shown_n {β : Type} (K : Bool → Option β) : law01_shown_q K = (law01_shown).bind K := (bind_b fun y14 => some_b)
theorem law01_shown_is : stepS E cp9 noE 11 [] = Option.bind (law01_shown) (fun y : Bool => some (.one (db y))) := by
  have h : stepS E cp9 noE 11 [] = law01_shown_q (fun y : Bool => some (.one (db y))) := by
    refine (stepG_is (nt := 15) (regs := []) (by kernel_rfl) (by kernel_rfl)).trans ?_
    unfold law01_shown_q
    refine (seq_push (by kernel_rfl)).trans ?_
    refine (law01_shown_r1 _).trans ?_
    refine (seqC_normal (st' := ⟨[], [], [], 15⟩) (by kernel_rfl)).trans ?_
    refine (seq_push (by kernel_rfl)).trans ?_
    refine (law01_shown_r2 _).trans (bind_g fun y14 => ?_)
    refine (seqC_normal (st' := ⟨[(0, .one (db y14))], [], [], 15⟩) (by kernel_rfl)).trans ?_
    refine (ret_eq (by kernel_rfl)).trans ?_
    kernel_rfl
  exact h.trans (law01_shown_n _)
theorem law01_shown_c (x : denL []) : stepS E cp9 noE 11 (encL [] x) = ((fun x => law01_shown) x).bind fun y => some (Po.enc (.one (.one (.g .bool))) ((fun y : Bool => y) y)) := Eq.mp (by kernel_rfl) (law01_shown_is)
noncomputable def cp10 : CallP := withC cp9 11 [] (.one (.one (.g .bool))) (fun y : Bool => y) (fun x => law01_shown)
theorem cp10_ok : PureOK E cp10 := withC_ok cp9_ok (stepS_ok eok cp9_ok noE_ok) fun x => con_of (enc := fun y => Po.enc (.one (.one (.g .bool))) ((fun y : Bool => y) y)) (law01_shown_c x)
theorem law01_near_r1 {α : Type} (x_ : Int) (k : Kont α) : runCode E 16 cp10 noE (codeOf E.P 16).l ⟨[(0, .one (di x_))], [], [], 5⟩ k = k .normal ⟨[(0, .one (di x_))], [], [], 5⟩ := by kernel_rfl
theorem law01_near_r2 {α : Type} (x_ : Int) (k : Kont α) : runCode E 16 cp10 noE (codeOf E.P 16).r.l ⟨[(0, .one (di x_))], [], [], 5⟩ k = k .normal ⟨[(2, .one (di (Int.tmod x_ (1152921504606846977 : Int))))], [], [], 5⟩ := by kernel_rfl
/-- quilt/quiltlaw01.near -/
def law01_near_q {β : Type} (x_ : Int) (K : Int → β) : β := (K (Int.tmod x_ (1152921504606846977 : Int)))
def law01_near (x_ : Int) : Int := law01_near_q x_ (fun y => y)
theorem law01_near_n {β : Type} (x_ : Int) (K : Int → β) : law01_near_q x_ K = K (law01_near x_) := rfl
theorem law01_near_is (x_ : Int) : stepS E cp10 noE 16 [.one (di x_)] = (fun y : Int => some (.one (di y))) (law01_near x_) := by
  have h : stepS E cp10 noE 16 [.one (di x_)] = law01_near_q x_ (fun y : Int => some (.one (di y))) := by
    refine (stepG_is (nt := 5) (regs := [(0, .one (di x_))]) (by kernel_rfl) (by kernel_rfl)).trans ?_
    unfold law01_near_q
    refine (seq_push (by kernel_rfl)).trans ?_
    refine (law01_near_r1 x_ _).trans ?_
    refine (seqC_normal (st' := ⟨[(0, .one (di x_))], [], [], 5⟩) (by kernel_rfl)).trans ?_
    refine (seq_push (by kernel_rfl)).trans ?_
    refine (law01_near_r2 x_ _).trans ?_
    refine (seqC_normal (st' := ⟨[(2, .one (di (Int.tmod x_ (1152921504606846977 : Int))))], [], [], 5⟩) (by kernel_rfl)).trans ?_
    refine (ret_eq (by kernel_rfl)).trans ?_
    kernel_rfl
  exact h.trans (law01_near_n x_ _)
theorem law01_near_c (x : denL [(.one (.g (.int .i64)))]) : stepS E cp10 noE 16 (encL [(.one (.g (.int .i64)))] x) = ((fun x => some (law01_near x.1)) x).bind fun y => some (Po.enc (.one (.one (.g (.int .i64)))) ((fun y : Int => y) y)) := Eq.mp (by kernel_rfl) (law01_near_is x.1)
noncomputable def cp11 : CallP := withC cp10 16 [(.one (.g (.int .i64)))] (.one (.one (.g (.int .i64)))) (fun y : Int => y) (fun x => some (law01_near x.1))
theorem cp11_ok : PureOK E cp11 := withC_ok cp10_ok (stepS_ok eok cp10_ok noE_ok) fun x => con_of (enc := fun y => Po.enc (.one (.one (.g (.int .i64)))) ((fun y : Int => y) y)) (law01_near_c x)
theorem law01_FixedShifts_r1 {α : Type} (x_ : Int) (shift : Int) (k : Kont α) : runCode E 6 cp11 noE (codeOf E.P 6).l ⟨[(0, .one (di x_)), (1, .one (di shift))], [], [], 48⟩ k = k .normal ⟨[(0, .one (di x_)), (1, .one (di shift))], [], [], 48⟩ := by kernel_rfl
theorem law01_FixedShifts_r2 {α : Type} (x_ : Int) (shift : Int) (k : Kont α) : runCode E 6 cp11 noE (codeOf E.P 6).r.l ⟨[(0, .one (di x_)), (1, .one (di shift))], [], [], 48⟩ k = Option.bind law01_shown (fun y15 : Bool => k .normal ⟨[(0, .one (di x_)), (1, .one (di shift)), (5, .one (db y15))], [], [], 48⟩) := by kernel_rfl
theorem law01_FixedShifts_r3 {α : Type} (x_ : Int) (shift : Int) (y15 : Bool) (k : Kont α) : runCode E 6 cp11 noE (codeOf E.P 6).r.r.l ⟨[(0, .one (di x_)), (1, .one (di shift)), (5, .one (db y15))], [], [], 48⟩ k = k .normal ⟨[(1, .one (di shift)), (5, .one (db y15)), (6, .one (di (law01_near x_)))], [], [], 48⟩ := by kernel_rfl
theorem law01_FixedShifts_r4 {α : Type} (x_ : Int) (shift : Int) (y15 : Bool) (k : Kont α) : runCode E 6 cp11 noE (codeOf E.P 6).r.r.r.l ⟨[(1, .one (di shift)), (5, .one (db y15)), (6, .one (di (law01_near x_)))], [], [], 48⟩ k = k .normal ⟨[(1, .one (di shift)), (5, .one (db y15)), (6, .one (di (law01_near x_))), (7, .one (di (min (max shift (0 : Int)) (31 : Int))))], [], [], 48⟩ := by kernel_rfl
theorem law01_FixedShifts_r5 {α : Type} (x_ : Int) (shift : Int) (y15 : Bool) (k : Kont α) : runCode E 6 cp11 noE (codeOf E.P 6).r.r.r.r.l ⟨[(1, .one (di shift)), (5, .one (db y15)), (6, .one (di (law01_near x_))), (7, .one (di (min (max shift (0 : Int)) (31 : Int))))], [], [], 48⟩ k = k .normal ⟨[(1, .one (di shift)), (5, .one (db y15)), (6, .one (di (law01_near x_))), (7, .one (di (min (max shift (0 : Int)) (31 : Int)))), (8, .one (di (1 : Int)))], [], [], 48⟩ := by kernel_rfl
theorem law01_FixedShifts_r6 {α : Type} (x_ : Int) (shift : Int) (y15 : Bool) (k : Kont α) : runCode E 6 cp11 noE (codeOf E.P 6).r.r.r.r.r.l.l ⟨[(1, .one (di shift)), (5, .one (db y15)), (6, .one (di (law01_near x_))), (7, .one (di (min (max shift (0 : Int)) (31 : Int)))), (8, .one (di (1 : Int)))], [], [], 48⟩ k = k .normal ⟨[(1, .one (di shift)), (5, .one (db y15)), (6, .one (di (law01_near x_))), (7, .one (di (min (max shift (0 : Int)) (31 : Int)))), (8, .one (di (1 : Int))), (9, .one (di (0 : Int)))], [], [], 48⟩ := by kernel_rfl
theorem law01_FixedShifts_r7 {α : Type} (x_ : Int) (shift : Int) (y15 : Bool) (s17 : (Int × Int)) (k : Kont α) : runCode E 6 cp11 noE (bodyOf (bodyOf (codeOf E.P 6).r.r.r.r.r.l.r)).l.l ⟨[(1, .one (di shift)), (5, .one (db y15)), (6, .one (di (law01_near x_))), (7, .one (di (min (max shift (0 : Int)) (31 : Int)))), (8, .one (di s17.1)), (9, .one (di s17.2))], [], [], 48⟩ k = k .normal ⟨[(1, .one (di shift)), (5, .one (db y15)), (6, .one (di (law01_near x_))), (7, .one (di (min (max shift (0 : Int)) (31 : Int)))), (8, .one (di s17.1)), (9, .one (di s17.2)), (18, .one (db (decide (s17.2 < (min (max shift (0 : Int)) (31 : Int))))))], [], [], 48⟩ := by kernel_rfl
theorem law01_FixedShifts_r8 {α : Type} (x_ : Int) (shift : Int) (y15 : Bool) (s17 : (Int × Int)) (k : Kont α) : runCode E 6 cp11 noE (bodyOf (bodyOf (bodyOf (codeOf E.P 6).r.r.r.r.r.l.r)).r.l) ⟨[(1, .one (di shift)), (5, .one (db y15)), (6, .one (di (law01_near x_))), (7, .one (di (min (max shift (0 : Int)) (31 : Int)))), (8, .one (di s17.1)), (9, .one (di s17.2))], [], [], 48⟩ k = k .normal ⟨[(1, .one (di shift)), (5, .one (db y15)), (6, .one (di (law01_near x_))), (7, .one (di (min (max shift (0 : Int)) (31 : Int)))), (8, .one (di (IntKind.wrap .i64 (s17.1 * (2 : Int))))), (9, .one (di s17.2))], [], [], 48⟩ := by kernel_rfl
theorem law01_FixedShifts_r9 {α : Type} (x_ : Int) (shift : Int) (y15 : Bool) (s17 : (Int × Int)) (k : Kont α) : runCode E 6 cp11 noE (bodyOf (bodyOf (codeOf E.P 6).r.r.r.r.r.l.r)).r.r ⟨[(1, .one (di shift)), (5, .one (db y15)), (6, .one (di (law01_near x_))), (7, .one (di (min (max shift (0 : Int)) (31 : Int)))), (8, .one (di (IntKind.wrap .i64 (s17.1 * (2 : Int))))), (9, .one (di s17.2))], [], [], 48⟩ k = k .normal ⟨[(1, .one (di shift)), (5, .one (db y15)), (6, .one (di (law01_near x_))), (7, .one (di (min (max shift (0 : Int)) (31 : Int)))), (8, .one (di (IntKind.wrap .i64 (s17.1 * (2 : Int))))), (9, .one (di (IntKind.wrap .i64 (s17.2 + (1 : Int)))))], [], [], 48⟩ := by kernel_rfl
def law01_FixedShifts_l10_q {β : Type} (shift : Int) (s17 : (Int × Int)) (K0 : (Int × Int) → Option β) (K1 : (Int × Int) → Option β) : Option β := (bif (decide (s17.2 < (min (max shift (0 : Int)) (31 : Int)))) then (K0 ((IntKind.wrap .i64 (s17.1 * (2 : Int))), (IntKind.wrap .i64 (s17.2 + (1 : Int))))) else (K1 s17))
def law01_FixedShifts_l10_p (shift : Int) (s17 : (Int × Int)) : Option ((Int × Int) ⊕ ((Int × Int))) := law01_FixedShifts_l10_q shift s17 (fun y => some (Sum.inl y)) (fun y => some (Sum.inr y))
theorem law01_FixedShifts_l10_n {β : Type} (shift : Int) (s17 : (Int × Int)) (K0 : (Int × Int) → Option β) (K1 : (Int × Int) → Option β) : law01_FixedShifts_l10_q shift s17 K0 K1 = (law01_FixedShifts_l10_p shift s17).bind (either K0 K1) := (bif_b e2_0 e2_1)
theorem law01_FixedShifts_l10_b {α : Type} (x_ : Int) (shift : Int) (y15 : Bool) (s17 : (Int × Int)) (k : Kont α) : runCode E 6 cp11 noE (bodyOf (bodyOf (codeOf E.P 6).r.r.r.r.r.l.r)) ⟨[(1, .one (di shift)), (5, .one (db y15)), (6, .one (di (law01_near x_))), (7, .one (di (min (max shift (0 : Int)) (31 : Int)))), (8, .one (di s17.1)), (9, .one (di s17.2))], [], [], 48⟩ (loopKont 0 k) = Option.bind (law01_FixedShifts_l10_p shift s17) (either (fun y : (Int × Int) => k .normal ⟨[(1, .one (di shift)), (5, .one (db y15)), (6, .one (di (law01_near x_))), (7, .one (di (min (max shift (0 : Int)) (31 : Int)))), (8, .one (di y.1)), (9, .one (di y.2))], [], [], 48⟩) (fun y18 : (Int × Int) => k (.exit 0) ⟨[(1, .one (di shift)), (5, .one (db y15)), (6, .one (di (law01_near x_))), (7, .one (di (min (max shift (0 : Int)) (31 : Int)))), (8, .one (di y18.1)), (9, .one (di y18.2))], [], [], 48⟩)) := by
  have h : runCode E 6 cp11 noE (bodyOf (bodyOf (codeOf E.P 6).r.r.r.r.r.l.r)) ⟨[(1, .one (di shift)), (5, .one (db y15)), (6, .one (di (law01_near x_))), (7, .one (di (min (max shift (0 : Int)) (31 : Int)))), (8, .one (di s17.1)), (9, .one (di s17.2))], [], [], 48⟩ (loopKont 0 k) = law01_FixedShifts_l10_q shift s17 (fun y : (Int × Int) => k .normal ⟨[(1, .one (di shift)), (5, .one (db y15)), (6, .one (di (law01_near x_))), (7, .one (di (min (max shift (0 : Int)) (31 : Int)))), (8, .one (di y.1)), (9, .one (di y.2))], [], [], 48⟩) (fun y18 : (Int × Int) => k (.exit 0) ⟨[(1, .one (di shift)), (5, .one (db y15)), (6, .one (di (law01_near x_))), (7, .one (di (min (max shift (0 : Int)) (31 : Int)))), (8, .one (di y18.1)), (9, .one (di y18.2))], [], [], 48⟩) := by
    unfold law01_FixedShifts_l10_q
    refine (seq_push (by kernel_rfl)).trans ?_
    refine (seq_push (by kernel_rfl)).trans ?_
    refine (law01_FixedShifts_r7 x_ shift y15 s17 _).trans ?_
    refine (seqC_normal (st' := ⟨[(1, .one (di shift)), (5, .one (db y15)), (6, .one (di (law01_near x_))), (7, .one (di (min (max shift (0 : Int)) (31 : Int)))), (8, .one (di s17.1)), (9, .one (di s17.2)), (18, .one (db (decide (s17.2 < (min (max shift (0 : Int)) (31 : Int))))))], [], [], 48⟩) (by kernel_rfl)).trans ?_
    refine (cond_eq (b := (decide (s17.2 < (min (max shift (0 : Int)) (31 : Int))))) (st' := ⟨[(1, .one (di shift)), (5, .one (db y15)), (6, .one (di (law01_near x_))), (7, .one (di (min (max shift (0 : Int)) (31 : Int)))), (8, .one (di s17.1)), (9, .one (di s17.2))], [], [], 48⟩) (by kernel_rfl) (by kernel_rfl) (by kernel_rfl)).trans (bif_g ?_ ?_)
    · refine (skip_eq (by kernel_rfl)).trans ?_
      refine (seqC_normal (st' := ⟨[(1, .one (di shift)), (5, .one (db y15)), (6, .one (di (law01_near x_))), (7, .one (di (min (max shift (0 : Int)) (31 : Int)))), (8, .one (di s17.1)), (9, .one (di s17.2))], [], [], 48⟩) (by kernel_rfl)).trans ?_
      refine (seq_push (by kernel_rfl)).trans ?_
      refine (block_push (id := 1) (by kernel_rfl)).trans ?_
      refine (law01_FixedShifts_r8 x_ shift y15 s17 _).trans ?_
      refine block_normal.trans ?_
      refine (seqC_normal (st' := ⟨[(1, .one (di shift)), (5, .one (db y15)), (6, .one (di (law01_near x_))), (7, .one (di (min (max shift (0 : Int)) (31 : Int)))), (8, .one (di (IntKind.wrap .i64 (s17.1 * (2 : Int))))), (9, .one (di s17.2))], [], [], 48⟩) (by kernel_rfl)).trans ?_
      refine (law01_FixedShifts_r9 x_ shift y15 s17 _).trans ?_
      kernel_rfl
    · refine (exit_eq (j := 0) (by kernel_rfl)).trans ?_
      refine seqC_exit.trans ?_
      kernel_rfl
  exact h.trans (law01_FixedShifts_l10_n shift s17 _ _)
theorem law01_FixedShifts_l10 {α : Type} (x_ : Int) (shift : Int) (y15 : Bool) (k : Kont α) : runCode E 6 cp11 noE (bodyOf (codeOf E.P 6).r.r.r.r.r.l.r) ⟨[(1, .one (di shift)), (5, .one (db y15)), (6, .one (di (law01_near x_))), (7, .one (di (min (max shift (0 : Int)) (31 : Int)))), (8, .one (di (1 : Int))), (9, .one (di (0 : Int)))], [], [], 48⟩ k = Option.bind (iterN (law01_FixedShifts_l10_p shift) LL ((1 : Int), (0 : Int))) (fun y18 : (Int × Int) => k (.exit 0) ⟨[(1, .one (di shift)), (5, .one (db y15)), (6, .one (di (law01_near x_))), (7, .one (di (min (max shift (0 : Int)) (31 : Int)))), (8, .one (di y18.1)), (9, .one (di y18.2))], [], [], 48⟩) := by
  have h : runCode E 6 cp11 noE (bodyOf (codeOf E.P 6).r.r.r.r.r.l.r) ⟨[(1, .one (di shift)), (5, .one (db y15)), (6, .one (di (law01_near x_))), (7, .one (di (min (max shift (0 : Int)) (31 : Int)))), (8, .one (di (1 : Int))), (9, .one (di (0 : Int)))], [], [], 48⟩ k = loopK (fun st k => runCode E 6 cp11 noE (bodyOf (bodyOf (codeOf E.P 6).r.r.r.r.r.l.r)) st k) 0 LL ((fun s17 : (Int × Int) => ⟨[(1, .one (di shift)), (5, .one (db y15)), (6, .one (di (law01_near x_))), (7, .one (di (min (max shift (0 : Int)) (31 : Int)))), (8, .one (di s17.1)), (9, .one (di s17.2))], [], [], 48⟩) ((1 : Int), (0 : Int))) k := by kernel_rfl
  exact h.trans (loop_iter1 (S := fun s17 : (Int × Int) => ⟨[(1, .one (di shift)), (5, .one (db y15)), (6, .one (di (law01_near x_))), (7, .one (di (min (max shift (0 : Int)) (31 : Int)))), (8, .one (di s17.1)), (9, .one (di s17.2))], [], [], 48⟩) (Y1 := fun y18 : (Int × Int) => ((.exit 0), ⟨[(1, .one (di shift)), (5, .one (db y15)), (6, .one (di (law01_near x_))), (7, .one (di (min (max shift (0 : Int)) (31 : Int)))), (8, .one (di y18.1)), (9, .one (di y18.2))], [], [], 48⟩)) (fun s k => law01_FixedShifts_l10_b x_ shift y15 s k) (fun z => rfl) LL ((1 : Int), (0 : Int)))
def law01_FixedShifts_r11_q {β : Type} (x_ : Int) (shift : Int) (y15 : Bool) (y18 : (Int × Int)) (K : Bool → Option β) : Option β := (bif y15 then (Option.bind (fixed_Shift (law01_near x_) shift) (fun y19 : Int => (Option.bind (fixed_Div (law01_near x_) y18.1) (fun y20 : Int => (bif (y19 == y20) then (Option.bind (fixed_Shift (law01_near x_) (0 : Int)) (fun y21 : Int => (bif (y21 == (law01_near x_)) then (Option.bind (fixed_Shift (law01_near x_) shift) (fun y22 : Int => (Option.bind (fixed_Shift (law01_near x_) (min (max shift (0 : Int)) (31 : Int))) (fun y23 : Int => (K (y22 == y23)))))) else (K false)))) else (K false)))))) else (K false))
def law01_FixedShifts_r11_p (x_ : Int) (shift : Int) (y15 : Bool) (y18 : (Int × Int)) : Option (Bool) := law01_FixedShifts_r11_q x_ shift y15 y18 some
theorem law01_FixedShifts_r11_n {β : Type} (x_ : Int) (shift : Int) (y15 : Bool) (y18 : (Int × Int)) (K : Bool → Option β) : law01_FixedShifts_r11_q x_ shift y15 y18 K = (law01_FixedShifts_r11_p x_ shift y15 y18).bind K := (bif_b (bind_b fun y19 => (bind_b fun y20 => (bif_b (bind_b fun y21 => (bif_b (bind_b fun y22 => (bind_b fun y23 => some_b)) some_b)) some_b))) some_b)
theorem law01_FixedShifts_r11 {α : Type} (x_ : Int) (shift : Int) (y15 : Bool) (y18 : (Int × Int)) (k : Kont α) : runCode E 6 cp11 noE (codeOf E.P 6).r.r.r.r.r.r.l ⟨[(1, .one (di shift)), (5, .one (db y15)), (6, .one (di (law01_near x_))), (7, .one (di (min (max shift (0 : Int)) (31 : Int)))), (8, .one (di y18.1))], [], [], 48⟩ k = Option.bind (law01_FixedShifts_r11_p x_ shift y15 y18) (fun y24 : Bool => k .normal ⟨[(4, .one (db y24))], [], [], 48⟩) := by
  have h : runCode E 6 cp11 noE (codeOf E.P 6).r.r.r.r.r.r.l ⟨[(1, .one (di shift)), (5, .one (db y15)), (6, .one (di (law01_near x_))), (7, .one (di (min (max shift (0 : Int)) (31 : Int)))), (8, .one (di y18.1))], [], [], 48⟩ k = law01_FixedShifts_r11_q x_ shift y15 y18 (fun y24 : Bool => k .normal ⟨[(4, .one (db y24))], [], [], 48⟩) := by kernel_rfl
  exact h.trans (law01_FixedShifts_r11_n x_ shift y15 y18 _)
/-- quilt/quiltlaw01.FixedShifts -/
def law01_FixedShifts_q {β : Type} (x_ : Int) (shift : Int) (K : Bool → Option β) : Option β := (Option.bind law01_shown (fun y15 : Bool => (Option.bind (iterN (law01_FixedShifts_l10_p shift) LL ((1 : Int), (0 : Int))) (fun y18 : (Int × Int) => (Option.bind (law01_FixedShifts_r11_p x_ shift y15 y18) (fun y24 : Bool => (K y24)))))))
def law01_FixedShifts (x_ : Int) (shift : Int) : Option Bool := law01_FixedShifts_q x_ shift some
theorem law01_FixedShifts_n {β : Type} (x_ : Int) (shift : Int) (K : Bool → Option β) : law01_FixedShifts_q x_ shift K = (law01_FixedShifts x_ shift).bind K := (bind_b fun y15 => (bind_b fun y18 => (bind_b fun y24 => some_b)))
theorem law01_FixedShifts_is (x_ : Int) (shift : Int) : stepS E cp11 noE 6 [.one (di x_), .one (di shift)] = Option.bind (law01_FixedShifts x_ shift) (fun y : Bool => some (.one (db y))) := by
  have h : stepS E cp11 noE 6 [.one (di x_), .one (di shift)] = law01_FixedShifts_q x_ shift (fun y : Bool => some (.one (db y))) := by
    refine (stepG_is (nt := 48) (regs := [(0, .one (di x_)), (1, .one (di shift))]) (by kernel_rfl) (by kernel_rfl)).trans ?_
    unfold law01_FixedShifts_q
    refine (seq_push (by kernel_rfl)).trans ?_
    refine (law01_FixedShifts_r1 x_ shift _).trans ?_
    refine (seqC_normal (st' := ⟨[(0, .one (di x_)), (1, .one (di shift))], [], [], 48⟩) (by kernel_rfl)).trans ?_
    refine (seq_push (by kernel_rfl)).trans ?_
    refine (law01_FixedShifts_r2 x_ shift _).trans (bind_g fun y15 => ?_)
    refine (seqC_normal (st' := ⟨[(0, .one (di x_)), (1, .one (di shift)), (5, .one (db y15))], [], [], 48⟩) (by kernel_rfl)).trans ?_
    refine (seq_push (by kernel_rfl)).trans ?_
    refine (law01_FixedShifts_r3 x_ shift y15 _).trans ?_
    refine (seqC_normal (st' := ⟨[(1, .one (di shift)), (5, .one (db y15)), (6, .one (di (law01_near x_)))], [], [], 48⟩) (by kernel_rfl)).trans ?_
    refine (seq_push (by kernel_rfl)).trans ?_
    refine (law01_FixedShifts_r4 x_ shift y15 _).trans ?_
    refine (seqC_normal (st' := ⟨[(1, .one (di shift)), (5, .one (db y15)), (6, .one (di (law01_near x_))), (7, .one (di (min (max shift (0 : Int)) (31 : Int))))], [], [], 48⟩) (by kernel_rfl)).trans ?_
    refine (seq_push (by kernel_rfl)).trans ?_
    refine (law01_FixedShifts_r5 x_ shift y15 _).trans ?_
    refine (seqC_normal (st' := ⟨[(1, .one (di shift)), (5, .one (db y15)), (6, .one (di (law01_near x_))), (7, .one (di (min (max shift (0 : Int)) (31 : Int)))), (8, .one (di (1 : Int)))], [], [], 48⟩) (by kernel_rfl)).trans ?_
    refine (seq_push (by kernel_rfl)).trans ?_
    refine (seq_push (by kernel_rfl)).trans ?_
    refine (law01_FixedShifts_r6 x_ shift y15 _).trans ?_
    refine (seqC_normal (st' := ⟨[(1, .one (di shift)), (5, .one (db y15)), (6, .one (di (law01_near x_))), (7, .one (di (min (max shift (0 : Int)) (31 : Int)))), (8, .one (di (1 : Int))), (9, .one (di (0 : Int)))], [], [], 48⟩) (by kernel_rfl)).trans ?_
    refine (block_push (id := 0) (by kernel_rfl)).trans ?_
    refine (law01_FixedShifts_l10 x_ shift y15 _).trans (bind_g fun y18 => ?_)
    refine block_same.trans ?_
    refine (seqC_normal (st' := ⟨[(1, .one (di shift)), (5, .one (db y15)), (6, .one (di (law01_near x_))), (7, .one (di (min (max shift (0 : Int)) (31 : Int)))), (8, .one (di y18.1))], [], [], 48⟩) (by kernel_rfl)).trans ?_
    refine (seq_push (by kernel_rfl)).trans ?_
    refine (law01_FixedShifts_r11 x_ shift y15 y18 _).trans (bind_g fun y24 => ?_)
    refine (seqC_normal (st' := ⟨[(4, .one (db y24))], [], [], 48⟩) (by kernel_rfl)).trans ?_
    refine (ret_eq (by kernel_rfl)).trans ?_
    kernel_rfl
  exact h.trans (law01_FixedShifts_n x_ shift _)
theorem law01_FixedShifts_c (x : denL [(.one (.g (.int .i64))), (.one (.g (.int .i64)))]) : stepS E cp11 noE 6 (encL [(.one (.g (.int .i64))), (.one (.g (.int .i64)))] x) = ((fun x => law01_FixedShifts x.1 x.2.1) x).bind fun y => some (Po.enc (.one (.one (.g .bool))) ((fun y : Bool => y) y)) := Eq.mp (by kernel_rfl) (law01_FixedShifts_is x.1 x.2.1)
noncomputable def cp12 : CallP := withC cp11 6 [(.one (.g (.int .i64))), (.one (.g (.int .i64)))] (.one (.one (.g .bool))) (fun y : Bool => y) (fun x => law01_FixedShifts x.1 x.2.1)
theorem cp12_ok : PureOK E cp12 := withC_ok cp11_ok (stepS_ok eok cp11_ok noE_ok) fun x => con_of (enc := fun y => Po.enc (.one (.one (.g .bool))) ((fun y : Bool => y) y)) (law01_FixedShifts_c x)
theorem law01_FixedShifts_walk (x_ : Int) (shift : Int) (ht : law01_FixedShifts x_ shift = some true) (w : World) (vs : List Value) (hrd : ∀ γ : Gh, Free γ → rdRs w γ [argR false (.one (.int .i64)) x_, argR false (.one (.int .i64)) shift] vs) : Calls E.P 6 vs.toArray w fun e w' => e = .returned (.bool true) ∧ Below w.heap.size w w' :=
  walk_true (E := E) (stepS_ok eok cp11_ok noE_ok) (show stepS E cp11 noE 6 [.one (di x_), .one (di shift)] = some (.one (.g .bool true)) from by rw [law01_FixedShifts_is, ht]; rfl) w fun γ hγ => Eq.mp (by kernel_rfl) (hrd γ hγ)
theorem halo_Tiles_r1 {α : Type} (h_ : Int) (rows : Int) (k : Kont α) : runCode E 19 cp12 noE (codeOf E.P 19).l ⟨[(0, .one (di h_)), (1, .one (di rows))], [], [], 34⟩ k = k .normal ⟨[(0, .one (di h_)), (1, .one (di rows))], [], [], 34⟩ := by kernel_rfl
def halo_Tiles_r2_q {β : Type} (h_ : Int) (rows : Int) (K : Bool → β) : β := (bif (decide ((min h_ rows) < (1 : Int))) then (K true) else (K (decide ((max h_ rows) > (16 : Int)))))
def halo_Tiles_r2_p (h_ : Int) (rows : Int) : Bool := halo_Tiles_r2_q h_ rows (fun y => y)
theorem halo_Tiles_r2_n {β : Type} (h_ : Int) (rows : Int) (K : Bool → β) : halo_Tiles_r2_q h_ rows K = K (halo_Tiles_r2_p h_ rows) := (bif_k K rfl rfl)
theorem halo_Tiles_r2 {α : Type} (h_ : Int) (rows : Int) (k : Kont α) : runCode E 19 cp12 noE (codeOf E.P 19).r.l.l ⟨[(0, .one (di h_)), (1, .one (di rows))], [], [], 34⟩ k = k .normal ⟨[(0, .one (di h_)), (1, .one (di rows)), (16, .one (db (halo_Tiles_r2_p h_ rows)))], [], [], 34⟩ := by
  have h : runCode E 19 cp12 noE (codeOf E.P 19).r.l.l ⟨[(0, .one (di h_)), (1, .one (di rows))], [], [], 34⟩ k = halo_Tiles_r2_q h_ rows (fun y25 : Bool => k .normal ⟨[(0, .one (di h_)), (1, .one (di rows)), (16, .one (db y25))], [], [], 34⟩) := by kernel_rfl
  exact h.trans (halo_Tiles_r2_n h_ rows _)
theorem halo_Tiles_r3 {α : Type} (h_ : Int) (rows : Int) (k : Kont α) : runCode E 19 cp12 noE (codeOf E.P 19).r.l.r.t.l ⟨[(0, .one (di h_)), (1, .one (di rows))], [], [], 34⟩ k = k .normal ⟨[(4, .one (.ow tsI2 [] (.v 4)))], [], [], 34⟩ := by kernel_rfl
theorem halo_Tiles_r4 {α : Type} (h_ : Int) (rows : Int) (k : Kont α) : runCode E 19 cp12 noE (codeOf E.P 19).r.r.l ⟨[(0, .one (di h_)), (1, .one (di rows))], [], [], 34⟩ k = k .normal ⟨[(0, .one (di h_)), (1, .one (di rows)), (5, .one (.ow tsI2 [] (.v 5)))], [], [], 34⟩ := by kernel_rfl
theorem halo_Tiles_r5 {α : Type} (h_ : Int) (rows : Int) (k : Kont α) : runCode E 19 cp12 noE (codeOf E.P 19).r.r.r.l.l ⟨[(0, .one (di h_)), (1, .one (di rows)), (5, .one (.ow tsI2 [] (.v 5)))], [], [], 34⟩ k = k .normal ⟨[(0, .one (di h_)), (1, .one (di rows)), (5, .one (.ow tsI2 [] (.v 5))), (6, .one (di (0 : Int)))], [], [], 34⟩ := by kernel_rfl
theorem halo_Tiles_r6 {α : Type} (h_ : Int) (rows : Int) (s27 : ((List I2) × Int)) (k : Kont α) : runCode E 19 cp12 noE (bodyOf (bodyOf (codeOf E.P 19).r.r.r.l.r)).l.l ⟨[(0, .one (di h_)), (1, .one (di rows)), (5, .one (.ow tsI2 s27.1 (.v 5))), (6, .one (di s27.2))], [], [], 34⟩ k = k .normal ⟨[(0, .one (di h_)), (1, .one (di rows)), (5, .one (.ow tsI2 s27.1 (.v 5))), (6, .one (di s27.2)), (19, .one (db (decide (s27.2 < h_))))], [], [], 34⟩ := by kernel_rfl
def halo_Tiles_r7_q {β : Type} (h_ : Int) (rows : Int) (s27 : ((List I2) × Int)) (K : Unit → Option β) : Option β := (bif (decide (s27.1.length + ([(s27.2, (min rows (IntKind.wrap .i64 (h_ - s27.2))))] : List I2).length ≤ maxL)) then (K ()) else none)
def halo_Tiles_r7_p (h_ : Int) (rows : Int) (s27 : ((List I2) × Int)) : Option (Unit) := halo_Tiles_r7_q h_ rows s27 some
theorem halo_Tiles_r7_n {β : Type} (h_ : Int) (rows : Int) (s27 : ((List I2) × Int)) (K : Unit → Option β) : halo_Tiles_r7_q h_ rows s27 K = (halo_Tiles_r7_p h_ rows s27).bind K := (bif_b some_b none_b)
theorem halo_Tiles_r7 {α : Type} (h_ : Int) (rows : Int) (s27 : ((List I2) × Int)) (k : Kont α) : runCode E 19 cp12 noE (bodyOf (bodyOf (bodyOf (codeOf E.P 19).r.r.r.l.r)).r.l) ⟨[(0, .one (di h_)), (1, .one (di rows)), (5, .one (.ow tsI2 s27.1 (.v 5))), (6, .one (di s27.2))], [], [], 34⟩ k = Option.bind (halo_Tiles_r7_p h_ rows s27) (fun y29 : Unit => k .normal ⟨[(0, .one (di h_)), (1, .one (di rows)), (5, .one (.ow tsI2 (s27.1 ++ [(s27.2, (min rows (IntKind.wrap .i64 (h_ - s27.2))))]) (.v 5))), (6, .one (di s27.2))], [], [], 34⟩) := by
  have h : runCode E 19 cp12 noE (bodyOf (bodyOf (bodyOf (codeOf E.P 19).r.r.r.l.r)).r.l) ⟨[(0, .one (di h_)), (1, .one (di rows)), (5, .one (.ow tsI2 s27.1 (.v 5))), (6, .one (di s27.2))], [], [], 34⟩ k = halo_Tiles_r7_q h_ rows s27 (fun y29 : Unit => k .normal ⟨[(0, .one (di h_)), (1, .one (di rows)), (5, .one (.ow tsI2 (s27.1 ++ [(s27.2, (min rows (IntKind.wrap .i64 (h_ - s27.2))))]) (.v 5))), (6, .one (di s27.2))], [], [], 34⟩) := by kernel_rfl
  exact h.trans (halo_Tiles_r7_n h_ rows s27 _)
theorem halo_Tiles_r8 {α : Type} (h_ : Int) (rows : Int) (s27 : ((List I2) × Int)) (k : Kont α) : runCode E 19 cp12 noE (bodyOf (bodyOf (codeOf E.P 19).r.r.r.l.r)).r.r ⟨[(0, .one (di h_)), (1, .one (di rows)), (5, .one (.ow tsI2 (s27.1 ++ [(s27.2, (min rows (IntKind.wrap .i64 (h_ - s27.2))))]) (.v 5))), (6, .one (di s27.2))], [], [], 34⟩ k = k .normal ⟨[(0, .one (di h_)), (1, .one (di rows)), (5, .one (.ow tsI2 (s27.1 ++ [(s27.2, (min rows (IntKind.wrap .i64 (h_ - s27.2))))]) (.v 5))), (6, .one (di (IntKind.wrap .i64 (s27.2 + rows))))], [], [], 34⟩ := by kernel_rfl
def halo_Tiles_l9_q {β : Type} (h_ : Int) (rows : Int) (s27 : ((List I2) × Int)) (K0 : ((List I2) × Int) → Option β) (K1 : ((List I2) × Int) → Option β) : Option β := (bif (decide (s27.2 < h_)) then (Option.bind (halo_Tiles_r7_p h_ rows s27) (fun y29 : Unit => (K0 ((s27.1 ++ [(s27.2, (min rows (IntKind.wrap .i64 (h_ - s27.2))))]), (IntKind.wrap .i64 (s27.2 + rows)))))) else (K1 s27))
def halo_Tiles_l9_p (h_ : Int) (rows : Int) (s27 : ((List I2) × Int)) : Option (((List I2) × Int) ⊕ (((List I2) × Int))) := halo_Tiles_l9_q h_ rows s27 (fun y => some (Sum.inl y)) (fun y => some (Sum.inr y))
theorem halo_Tiles_l9_n {β : Type} (h_ : Int) (rows : Int) (s27 : ((List I2) × Int)) (K0 : ((List I2) × Int) → Option β) (K1 : ((List I2) × Int) → Option β) : halo_Tiles_l9_q h_ rows s27 K0 K1 = (halo_Tiles_l9_p h_ rows s27).bind (either K0 K1) := (bif_b (bind_b fun y29 => e2_0) e2_1)
theorem halo_Tiles_l9_b {α : Type} (h_ : Int) (rows : Int) (s27 : ((List I2) × Int)) (k : Kont α) : runCode E 19 cp12 noE (bodyOf (bodyOf (codeOf E.P 19).r.r.r.l.r)) ⟨[(0, .one (di h_)), (1, .one (di rows)), (5, .one (.ow tsI2 s27.1 (.v 5))), (6, .one (di s27.2))], [], [], 34⟩ (loopKont 0 k) = Option.bind (halo_Tiles_l9_p h_ rows s27) (either (fun y : ((List I2) × Int) => k .normal ⟨[(0, .one (di h_)), (1, .one (di rows)), (5, .one (.ow tsI2 y.1 (.v 5))), (6, .one (di y.2))], [], [], 34⟩) (fun y30 : ((List I2) × Int) => k (.exit 0) ⟨[(0, .one (di h_)), (1, .one (di rows)), (5, .one (.ow tsI2 y30.1 (.v 5))), (6, .one (di y30.2))], [], [], 34⟩)) := by
  have h : runCode E 19 cp12 noE (bodyOf (bodyOf (codeOf E.P 19).r.r.r.l.r)) ⟨[(0, .one (di h_)), (1, .one (di rows)), (5, .one (.ow tsI2 s27.1 (.v 5))), (6, .one (di s27.2))], [], [], 34⟩ (loopKont 0 k) = halo_Tiles_l9_q h_ rows s27 (fun y : ((List I2) × Int) => k .normal ⟨[(0, .one (di h_)), (1, .one (di rows)), (5, .one (.ow tsI2 y.1 (.v 5))), (6, .one (di y.2))], [], [], 34⟩) (fun y30 : ((List I2) × Int) => k (.exit 0) ⟨[(0, .one (di h_)), (1, .one (di rows)), (5, .one (.ow tsI2 y30.1 (.v 5))), (6, .one (di y30.2))], [], [], 34⟩) := by
    unfold halo_Tiles_l9_q
    refine (seq_push (by kernel_rfl)).trans ?_
    refine (seq_push (by kernel_rfl)).trans ?_
    refine (halo_Tiles_r6 h_ rows s27 _).trans ?_
    refine (seqC_normal (st' := ⟨[(0, .one (di h_)), (1, .one (di rows)), (5, .one (.ow tsI2 s27.1 (.v 5))), (6, .one (di s27.2)), (19, .one (db (decide (s27.2 < h_))))], [], [], 34⟩) (by kernel_rfl)).trans ?_
    refine (cond_eq (b := (decide (s27.2 < h_))) (st' := ⟨[(0, .one (di h_)), (1, .one (di rows)), (5, .one (.ow tsI2 s27.1 (.v 5))), (6, .one (di s27.2))], [], [], 34⟩) (by kernel_rfl) (by kernel_rfl) (by kernel_rfl)).trans (bif_g ?_ ?_)
    · refine (skip_eq (by kernel_rfl)).trans ?_
      refine (seqC_normal (st' := ⟨[(0, .one (di h_)), (1, .one (di rows)), (5, .one (.ow tsI2 s27.1 (.v 5))), (6, .one (di s27.2))], [], [], 34⟩) (by kernel_rfl)).trans ?_
      refine (seq_push (by kernel_rfl)).trans ?_
      refine (block_push (id := 1) (by kernel_rfl)).trans ?_
      refine (halo_Tiles_r7 h_ rows s27 _).trans (bind_g fun y29 => ?_)
      refine block_normal.trans ?_
      refine (seqC_normal (st' := ⟨[(0, .one (di h_)), (1, .one (di rows)), (5, .one (.ow tsI2 (s27.1 ++ [(s27.2, (min rows (IntKind.wrap .i64 (h_ - s27.2))))]) (.v 5))), (6, .one (di s27.2))], [], [], 34⟩) (by kernel_rfl)).trans ?_
      refine (halo_Tiles_r8 h_ rows s27 _).trans ?_
      kernel_rfl
    · refine (exit_eq (j := 0) (by kernel_rfl)).trans ?_
      refine seqC_exit.trans ?_
      kernel_rfl
  exact h.trans (halo_Tiles_l9_n h_ rows s27 _ _)
theorem halo_Tiles_l9 {α : Type} (h_ : Int) (rows : Int) (k : Kont α) : runCode E 19 cp12 noE (bodyOf (codeOf E.P 19).r.r.r.l.r) ⟨[(0, .one (di h_)), (1, .one (di rows)), (5, .one (.ow tsI2 [] (.v 5))), (6, .one (di (0 : Int)))], [], [], 34⟩ k = Option.bind (iterN (halo_Tiles_l9_p h_ rows) LL ([], (0 : Int))) (fun y30 : ((List I2) × Int) => k (.exit 0) ⟨[(0, .one (di h_)), (1, .one (di rows)), (5, .one (.ow tsI2 y30.1 (.v 5))), (6, .one (di y30.2))], [], [], 34⟩) := by
  have h : runCode E 19 cp12 noE (bodyOf (codeOf E.P 19).r.r.r.l.r) ⟨[(0, .one (di h_)), (1, .one (di rows)), (5, .one (.ow tsI2 [] (.v 5))), (6, .one (di (0 : Int)))], [], [], 34⟩ k = loopK (fun st k => runCode E 19 cp12 noE (bodyOf (bodyOf (codeOf E.P 19).r.r.r.l.r)) st k) 0 LL ((fun s27 : ((List I2) × Int) => ⟨[(0, .one (di h_)), (1, .one (di rows)), (5, .one (.ow tsI2 s27.1 (.v 5))), (6, .one (di s27.2))], [], [], 34⟩) ([], (0 : Int))) k := by kernel_rfl
  exact h.trans (loop_iter1 (S := fun s27 : ((List I2) × Int) => ⟨[(0, .one (di h_)), (1, .one (di rows)), (5, .one (.ow tsI2 s27.1 (.v 5))), (6, .one (di s27.2))], [], [], 34⟩) (Y1 := fun y30 : ((List I2) × Int) => ((.exit 0), ⟨[(0, .one (di h_)), (1, .one (di rows)), (5, .one (.ow tsI2 y30.1 (.v 5))), (6, .one (di y30.2))], [], [], 34⟩)) (fun s k => halo_Tiles_l9_b h_ rows s k) (fun z => rfl) LL ([], (0 : Int)))
theorem halo_Tiles_r10 {α : Type} (y30 : ((List I2) × Int)) (k : Kont α) : runCode E 19 cp12 noE (codeOf E.P 19).r.r.r.r.l ⟨[(5, .one (.ow tsI2 y30.1 (.v 5)))], [], [], 34⟩ k = k .normal ⟨[(4, .one (.ow tsI2 y30.1 (.v 5)))], [], [], 34⟩ := by kernel_rfl
/-- quilt/halo.Tiles -/
def halo_Tiles_q {β : Type} (h_ : Int) (rows : Int) (K : (List I2) → Option β) : Option β := (bif (halo_Tiles_r2_p h_ rows) then (K []) else (Option.bind (iterN (halo_Tiles_l9_p h_ rows) LL ([], (0 : Int))) (fun y30 : ((List I2) × Int) => (K y30.1))))
def halo_Tiles (h_ : Int) (rows : Int) : Option (List I2) := halo_Tiles_q h_ rows some
theorem halo_Tiles_n {β : Type} (h_ : Int) (rows : Int) (K : (List I2) → Option β) : halo_Tiles_q h_ rows K = (halo_Tiles h_ rows).bind K := (bif_b some_b (bind_b fun y30 => some_b))
theorem halo_Tiles_is (h_ : Int) (rows : Int) : stepO E cp12 noE 19 [.one (di h_), .one (di rows)] = Option.bind (halo_Tiles h_ rows) (fun y : (List I2) => some (.one (.ow tsI2 y (.s 0)))) := by
  have h : stepO E cp12 noE 19 [.one (di h_), .one (di rows)] = halo_Tiles_q h_ rows (fun y : (List I2) => some (.one (.ow tsI2 y (.s 0)))) := by
    refine (stepG_is (nt := 34) (regs := [(0, .one (di h_)), (1, .one (di rows))]) (by kernel_rfl) (by kernel_rfl)).trans ?_
    unfold halo_Tiles_q
    refine (seq_push (by kernel_rfl)).trans ?_
    refine (halo_Tiles_r1 h_ rows _).trans ?_
    refine (seqC_normal (st' := ⟨[(0, .one (di h_)), (1, .one (di rows))], [], [], 34⟩) (by kernel_rfl)).trans ?_
    refine (seq_push (by kernel_rfl)).trans ?_
    refine (seq_push (by kernel_rfl)).trans ?_
    refine (halo_Tiles_r2 h_ rows _).trans ?_
    refine (seqC_normal (st' := ⟨[(0, .one (di h_)), (1, .one (di rows)), (16, .one (db (halo_Tiles_r2_p h_ rows)))], [], [], 34⟩) (by kernel_rfl)).trans ?_
    refine (cond_eq (b := (halo_Tiles_r2_p h_ rows)) (st' := ⟨[(0, .one (di h_)), (1, .one (di rows))], [], [], 34⟩) (by kernel_rfl) (by kernel_rfl) (by kernel_rfl)).trans (bif_g ?_ ?_)
    · refine (seq_push (by kernel_rfl)).trans ?_
      refine (halo_Tiles_r3 h_ rows _).trans ?_
      refine (seqC_normal (st' := ⟨[(4, .one (.ow tsI2 [] (.v 4)))], [], [], 34⟩) (by kernel_rfl)).trans ?_
      refine (ret_eq (by kernel_rfl)).trans ?_
      refine seqC_ret.trans ?_
      kernel_rfl
    · refine (skip_eq (by kernel_rfl)).trans ?_
      refine (seqC_normal (st' := ⟨[(0, .one (di h_)), (1, .one (di rows))], [], [], 34⟩) (by kernel_rfl)).trans ?_
      refine (seq_push (by kernel_rfl)).trans ?_
      refine (halo_Tiles_r4 h_ rows _).trans ?_
      refine (seqC_normal (st' := ⟨[(0, .one (di h_)), (1, .one (di rows)), (5, .one (.ow tsI2 [] (.v 5)))], [], [], 34⟩) (by kernel_rfl)).trans ?_
      refine (seq_push (by kernel_rfl)).trans ?_
      refine (seq_push (by kernel_rfl)).trans ?_
      refine (halo_Tiles_r5 h_ rows _).trans ?_
      refine (seqC_normal (st' := ⟨[(0, .one (di h_)), (1, .one (di rows)), (5, .one (.ow tsI2 [] (.v 5))), (6, .one (di (0 : Int)))], [], [], 34⟩) (by kernel_rfl)).trans ?_
      refine (block_push (id := 0) (by kernel_rfl)).trans ?_
      refine (halo_Tiles_l9 h_ rows _).trans (bind_g fun y30 => ?_)
      refine block_same.trans ?_
      refine (seqC_normal (st' := ⟨[(5, .one (.ow tsI2 y30.1 (.v 5)))], [], [], 34⟩) (by kernel_rfl)).trans ?_
      refine (seq_push (by kernel_rfl)).trans ?_
      refine (halo_Tiles_r10 y30 _).trans ?_
      refine (seqC_normal (st' := ⟨[(4, .one (.ow tsI2 y30.1 (.v 5)))], [], [], 34⟩) (by kernel_rfl)).trans ?_
      refine (ret_eq (by kernel_rfl)).trans ?_
      kernel_rfl
  exact h.trans (halo_Tiles_n h_ rows _)
theorem halo_Tiles_c (x : denL [(.one (.g (.int .i64))), (.one (.g (.int .i64)))]) : stepO E cp12 noE 19 (encL [(.one (.g (.int .i64))), (.one (.g (.int .i64)))] x) = ((fun x => halo_Tiles x.1 x.2.1) x).bind fun y => some (Po.enc (.one (.one (.ow tsI2))) ((fun y : (List I2) => y) y)) := Eq.mp (by kernel_rfl) (halo_Tiles_is x.1 x.2.1)
noncomputable def cp13 : CallP := withC cp12 19 [(.one (.g (.int .i64))), (.one (.g (.int .i64)))] (.one (.one (.ow tsI2))) (fun y : (List I2) => y) (fun x => halo_Tiles x.1 x.2.1)
theorem cp13_ok : PureOK E cp13 := withC_ok cp12_ok (stepO_ok eok cp12_ok noE_ok) fun x => con_of (enc := fun y => Po.enc (.one (.one (.ow tsI2))) ((fun y : (List I2) => y) y)) (halo_Tiles_c x)
theorem slices_Indexint_int_r1 {α : Type} (s_ : (List Int)) (v_ : Int) (k : Kont α) : runCode E 26 cp13 noE (codeOf E.P 26).l ⟨[(0, .one (dl (.one (.int .i64)) s_)), (1, .one (di v_))], [], [], 19⟩ k = k .normal ⟨[(0, .one (dl (.one (.int .i64)) s_)), (1, .one (di v_))], [], [], 19⟩ := by kernel_rfl
theorem slices_Indexint_int_r2 {α : Type} (s_ : (List Int)) (v_ : Int) (k : Kont α) : runCode E 26 cp13 noE (codeOf E.P 26).r.l.l ⟨[(0, .one (dl (.one (.int .i64)) s_)), (1, .one (di v_))], [], [], 19⟩ k = k .normal ⟨[(0, .one (dl (.one (.int .i64)) s_)), (1, .one (di v_)), (7, .one (di (s_.length : Int))), (8, .one (di (0 : Int)))], [], [], 19⟩ := by kernel_rfl
theorem slices_Indexint_int_r3 {α : Type} (s_ : (List Int)) (v_ : Int) (s35 : Int) (k : Kont α) : runCode E 26 cp13 noE (bodyOf (bodyOf (codeOf E.P 26).r.l.r)).l ⟨[(0, .one (dl (.one (.int .i64)) s_)), (1, .one (di v_)), (7, .one (di (s_.length : Int))), (8, .one (di s35))], [], [], 19⟩ k = k .normal ⟨[(0, .one (dl (.one (.int .i64)) s_)), (1, .one (di v_)), (7, .one (di (s_.length : Int))), (8, .one (di s35)), (9, .one (db (decide (s35 < (s_.length : Int)))))], [], [], 19⟩ := by kernel_rfl
theorem slices_Indexint_int_r4 {α : Type} (s_ : (List Int)) (v_ : Int) (s35 : Int) (k : Kont α) : runCode E 26 cp13 noE (bodyOf (bodyOf (bodyOf (codeOf E.P 26).r.l.r)).r.r.l).l ⟨[(0, .one (dl (.one (.int .i64)) s_)), (1, .one (di v_)), (7, .one (di (s_.length : Int))), (8, .one (di s35))], [], [], 19⟩ k = k .normal ⟨[(0, .one (dl (.one (.int .i64)) s_)), (1, .one (di v_)), (5, .one (di s35)), (7, .one (di (s_.length : Int))), (8, .one (di s35))], [], [], 19⟩ := by kernel_rfl
def slices_Indexint_int_r5_q {β : Type} (s_ : (List Int)) (s35 : Int) (K : Unit → Option β) : Option β := (bif (decide ((0 : Int) ≤ s35)) then (bif (decide (s35 < (s_.length : Int))) then (K ()) else none) else none)
def slices_Indexint_int_r5_p (s_ : (List Int)) (s35 : Int) : Option (Unit) := slices_Indexint_int_r5_q s_ s35 some
theorem slices_Indexint_int_r5_n {β : Type} (s_ : (List Int)) (s35 : Int) (K : Unit → Option β) : slices_Indexint_int_r5_q s_ s35 K = (slices_Indexint_int_r5_p s_ s35).bind K := (bif_b (bif_b some_b none_b) none_b)
theorem slices_Indexint_int_r5 {α : Type} (s_ : (List Int)) (v_ : Int) (s35 : Int) (k : Kont α) : runCode E 26 cp13 noE (bodyOf (bodyOf (bodyOf (codeOf E.P 26).r.l.r)).r.r.l).r.l ⟨[(0, .one (dl (.one (.int .i64)) s_)), (1, .one (di v_)), (5, .one (di s35)), (7, .one (di (s_.length : Int))), (8, .one (di s35))], [], [], 19⟩ k = Option.bind (slices_Indexint_int_r5_p s_ s35) (fun y37 : Unit => k .normal ⟨[(0, .one (dl (.one (.int .i64)) s_)), (1, .one (di v_)), (5, .one (di s35)), (7, .one (di (s_.length : Int))), (8, .one (di s35)), (16, .one (db (v_ == (gt s_ s35 (0 : Int)))))], [], [], 19⟩) := by
  have h : runCode E 26 cp13 noE (bodyOf (bodyOf (bodyOf (codeOf E.P 26).r.l.r)).r.r.l).r.l ⟨[(0, .one (dl (.one (.int .i64)) s_)), (1, .one (di v_)), (5, .one (di s35)), (7, .one (di (s_.length : Int))), (8, .one (di s35))], [], [], 19⟩ k = slices_Indexint_int_r5_q s_ s35 (fun y37 : Unit => k .normal ⟨[(0, .one (dl (.one (.int .i64)) s_)), (1, .one (di v_)), (5, .one (di s35)), (7, .one (di (s_.length : Int))), (8, .one (di s35)), (16, .one (db (v_ == (gt s_ s35 (0 : Int)))))], [], [], 19⟩) := by kernel_rfl
  exact h.trans (slices_Indexint_int_r5_n s_ s35 _)
theorem slices_Indexint_int_r6 {α : Type} (s_ : (List Int)) (v_ : Int) (s35 : Int) (k : Kont α) : runCode E 26 cp13 noE (bodyOf (bodyOf (bodyOf (codeOf E.P 26).r.l.r)).r.r.l).r.r.t.l ⟨[(0, .one (dl (.one (.int .i64)) s_)), (1, .one (di v_)), (5, .one (di s35)), (7, .one (di (s_.length : Int))), (8, .one (di s35))], [], [], 19⟩ k = k .normal ⟨[(4, .one (di s35))], [], [], 19⟩ := by kernel_rfl
theorem slices_Indexint_int_r7 {α : Type} (s_ : (List Int)) (v_ : Int) (s35 : Int) (k : Kont α) : runCode E 26 cp13 noE (bodyOf (bodyOf (codeOf E.P 26).r.l.r)).r.r.r ⟨[(0, .one (dl (.one (.int .i64)) s_)), (1, .one (di v_)), (7, .one (di (s_.length : Int))), (8, .one (di s35))], [], [], 19⟩ k = k .normal ⟨[(0, .one (dl (.one (.int .i64)) s_)), (1, .one (di v_)), (7, .one (di (s_.length : Int))), (8, .one (di (IntKind.wrap .i64 (s35 + (1 : Int)))))], [], [], 19⟩ := by kernel_rfl
def slices_Indexint_int_l8_q {β : Type} (s_ : (List Int)) (v_ : Int) (s35 : Int) (K0 : Int → Option β) (K1 : Int → Option β) (K2 : Int → Option β) : Option β := (bif (decide (s35 < (s_.length : Int))) then (Option.bind (slices_Indexint_int_r5_p s_ s35) (fun y37 : Unit => (bif (v_ == (gt s_ s35 (0 : Int))) then (K2 s35) else (K0 (IntKind.wrap .i64 (s35 + (1 : Int))))))) else (K1 s35))
def slices_Indexint_int_l8_p (s_ : (List Int)) (v_ : Int) (s35 : Int) : Option (Int ⊕ (Int ⊕ Int)) := slices_Indexint_int_l8_q s_ v_ s35 (fun y => some (Sum.inl y)) (fun y => some (Sum.inr (Sum.inl y))) (fun y => some (Sum.inr (Sum.inr y)))
theorem slices_Indexint_int_l8_n {β : Type} (s_ : (List Int)) (v_ : Int) (s35 : Int) (K0 : Int → Option β) (K1 : Int → Option β) (K2 : Int → Option β) : slices_Indexint_int_l8_q s_ v_ s35 K0 K1 K2 = (slices_Indexint_int_l8_p s_ v_ s35).bind (either K0 (either K1 K2)) := (bif_b (bind_b fun y37 => (bif_b e3_2 e3_0)) e3_1)
theorem slices_Indexint_int_l8_b {α : Type} (s_ : (List Int)) (v_ : Int) (s35 : Int) (k : Kont α) : runCode E 26 cp13 noE (bodyOf (bodyOf (codeOf E.P 26).r.l.r)) ⟨[(0, .one (dl (.one (.int .i64)) s_)), (1, .one (di v_)), (7, .one (di (s_.length : Int))), (8, .one (di s35))], [], [], 19⟩ (loopKont 0 k) = Option.bind (slices_Indexint_int_l8_p s_ v_ s35) (either (fun y : Int => k .normal ⟨[(0, .one (dl (.one (.int .i64)) s_)), (1, .one (di v_)), (7, .one (di (s_.length : Int))), (8, .one (di y))], [], [], 19⟩) (either (fun y38 : Int => k (.exit 0) ⟨[(0, .one (dl (.one (.int .i64)) s_)), (1, .one (di v_)), (7, .one (di (s_.length : Int))), (8, .one (di y38))], [], [], 19⟩) (fun y39 : Int => k .ret ⟨[(4, .one (di y39))], [], [], 19⟩))) := by
  have h : runCode E 26 cp13 noE (bodyOf (bodyOf (codeOf E.P 26).r.l.r)) ⟨[(0, .one (dl (.one (.int .i64)) s_)), (1, .one (di v_)), (7, .one (di (s_.length : Int))), (8, .one (di s35))], [], [], 19⟩ (loopKont 0 k) = slices_Indexint_int_l8_q s_ v_ s35 (fun y : Int => k .normal ⟨[(0, .one (dl (.one (.int .i64)) s_)), (1, .one (di v_)), (7, .one (di (s_.length : Int))), (8, .one (di y))], [], [], 19⟩) (fun y38 : Int => k (.exit 0) ⟨[(0, .one (dl (.one (.int .i64)) s_)), (1, .one (di v_)), (7, .one (di (s_.length : Int))), (8, .one (di y38))], [], [], 19⟩) (fun y39 : Int => k .ret ⟨[(4, .one (di y39))], [], [], 19⟩) := by
    unfold slices_Indexint_int_l8_q
    refine (seq_push (by kernel_rfl)).trans ?_
    refine (slices_Indexint_int_r3 s_ v_ s35 _).trans ?_
    refine (seqC_normal (st' := ⟨[(0, .one (dl (.one (.int .i64)) s_)), (1, .one (di v_)), (7, .one (di (s_.length : Int))), (8, .one (di s35)), (9, .one (db (decide (s35 < (s_.length : Int)))))], [], [], 19⟩) (by kernel_rfl)).trans ?_
    refine (seq_push (by kernel_rfl)).trans ?_
    refine (cond_eq (b := (decide (s35 < (s_.length : Int)))) (st' := ⟨[(0, .one (dl (.one (.int .i64)) s_)), (1, .one (di v_)), (7, .one (di (s_.length : Int))), (8, .one (di s35))], [], [], 19⟩) (by kernel_rfl) (by kernel_rfl) (by kernel_rfl)).trans (bif_g ?_ ?_)
    · refine (skip_eq (by kernel_rfl)).trans ?_
      refine (seqC_normal (st' := ⟨[(0, .one (dl (.one (.int .i64)) s_)), (1, .one (di v_)), (7, .one (di (s_.length : Int))), (8, .one (di s35))], [], [], 19⟩) (by kernel_rfl)).trans ?_
      refine (seq_push (by kernel_rfl)).trans ?_
      refine (block_push (id := 1) (by kernel_rfl)).trans ?_
      refine (seq_push (by kernel_rfl)).trans ?_
      refine (slices_Indexint_int_r4 s_ v_ s35 _).trans ?_
      refine (seqC_normal (st' := ⟨[(0, .one (dl (.one (.int .i64)) s_)), (1, .one (di v_)), (5, .one (di s35)), (7, .one (di (s_.length : Int))), (8, .one (di s35))], [], [], 19⟩) (by kernel_rfl)).trans ?_
      refine (seq_push (by kernel_rfl)).trans ?_
      refine (slices_Indexint_int_r5 s_ v_ s35 _).trans (bind_g fun y37 => ?_)
      refine (seqC_normal (st' := ⟨[(0, .one (dl (.one (.int .i64)) s_)), (1, .one (di v_)), (5, .one (di s35)), (7, .one (di (s_.length : Int))), (8, .one (di s35)), (16, .one (db (v_ == (gt s_ s35 (0 : Int)))))], [], [], 19⟩) (by kernel_rfl)).trans ?_
      refine (cond_eq (b := (v_ == (gt s_ s35 (0 : Int)))) (st' := ⟨[(0, .one (dl (.one (.int .i64)) s_)), (1, .one (di v_)), (5, .one (di s35)), (7, .one (di (s_.length : Int))), (8, .one (di s35))], [], [], 19⟩) (by kernel_rfl) (by kernel_rfl) (by kernel_rfl)).trans (bif_g ?_ ?_)
      · refine (seq_push (by kernel_rfl)).trans ?_
        refine (slices_Indexint_int_r6 s_ v_ s35 _).trans ?_
        refine (seqC_normal (st' := ⟨[(4, .one (di s35))], [], [], 19⟩) (by kernel_rfl)).trans ?_
        refine (ret_eq (by kernel_rfl)).trans ?_
        refine block_ret.trans ?_
        refine seqC_ret.trans ?_
        kernel_rfl
      · refine (skip_eq (by kernel_rfl)).trans ?_
        refine block_normal.trans ?_
        refine (seqC_normal (st' := ⟨[(0, .one (dl (.one (.int .i64)) s_)), (1, .one (di v_)), (7, .one (di (s_.length : Int))), (8, .one (di s35))], [], [], 19⟩) (by kernel_rfl)).trans ?_
        refine (slices_Indexint_int_r7 s_ v_ s35 _).trans ?_
        kernel_rfl
    · refine (exit_eq (j := 0) (by kernel_rfl)).trans ?_
      refine seqC_exit.trans ?_
      kernel_rfl
  exact h.trans (slices_Indexint_int_l8_n s_ v_ s35 _ _ _)
theorem slices_Indexint_int_l8 {α : Type} (s_ : (List Int)) (v_ : Int) (k : Kont α) : runCode E 26 cp13 noE (bodyOf (codeOf E.P 26).r.l.r) ⟨[(0, .one (dl (.one (.int .i64)) s_)), (1, .one (di v_)), (7, .one (di (s_.length : Int))), (8, .one (di (0 : Int)))], [], [], 19⟩ k = Option.bind (iterN (slices_Indexint_int_l8_p s_ v_) LL (0 : Int)) (either (fun y38 : Int => k (.exit 0) ⟨[(0, .one (dl (.one (.int .i64)) s_)), (1, .one (di v_)), (7, .one (di (s_.length : Int))), (8, .one (di y38))], [], [], 19⟩) (fun y39 : Int => k .ret ⟨[(4, .one (di y39))], [], [], 19⟩)) := by
  have h : runCode E 26 cp13 noE (bodyOf (codeOf E.P 26).r.l.r) ⟨[(0, .one (dl (.one (.int .i64)) s_)), (1, .one (di v_)), (7, .one (di (s_.length : Int))), (8, .one (di (0 : Int)))], [], [], 19⟩ k = loopK (fun st k => runCode E 26 cp13 noE (bodyOf (bodyOf (codeOf E.P 26).r.l.r)) st k) 0 LL ((fun s35 : Int => ⟨[(0, .one (dl (.one (.int .i64)) s_)), (1, .one (di v_)), (7, .one (di (s_.length : Int))), (8, .one (di s35))], [], [], 19⟩) (0 : Int)) k := by kernel_rfl
  exact h.trans (loop_iter2 (S := fun s35 : Int => ⟨[(0, .one (dl (.one (.int .i64)) s_)), (1, .one (di v_)), (7, .one (di (s_.length : Int))), (8, .one (di s35))], [], [], 19⟩) (Y1 := fun y38 : Int => ((.exit 0), ⟨[(0, .one (dl (.one (.int .i64)) s_)), (1, .one (di v_)), (7, .one (di (s_.length : Int))), (8, .one (di y38))], [], [], 19⟩)) (Y2 := fun y39 : Int => (.ret, ⟨[(4, .one (di y39))], [], [], 19⟩)) (fun s k => slices_Indexint_int_l8_b s_ v_ s k) (fun z => rfl) (fun z => rfl) LL (0 : Int))
theorem slices_Indexint_int_r9 {α : Type} (k : Kont α) : runCode E 26 cp13 noE (codeOf E.P 26).r.r.l ⟨[], [], [], 19⟩ k = k .normal ⟨[(4, .one (di (-1 : Int)))], [], [], 19⟩ := by kernel_rfl
/-- slices.Index[[]int,int] -/
def slices_Indexint_int_q {β : Type} (s_ : (List Int)) (v_ : Int) (K : Int → Option β) : Option β := (Option.bind (iterN (slices_Indexint_int_l8_p s_ v_) LL (0 : Int)) (either (fun y38 : Int => (K (-1 : Int))) (fun y39 : Int => (K y39))))
def slices_Indexint_int (s_ : (List Int)) (v_ : Int) : Option Int := slices_Indexint_int_q s_ v_ some
theorem slices_Indexint_int_n {β : Type} (s_ : (List Int)) (v_ : Int) (K : Int → Option β) : slices_Indexint_int_q s_ v_ K = (slices_Indexint_int s_ v_).bind K := (bind_b (either_b (fun y38 => some_b) (fun y39 => some_b)))
theorem slices_Indexint_int_is (s_ : (List Int)) (v_ : Int) : stepS E cp13 noE 26 [.one (dl (.one (.int .i64)) s_), .one (di v_)] = Option.bind (slices_Indexint_int s_ v_) (fun y : Int => some (.one (di y))) := by
  have h : stepS E cp13 noE 26 [.one (dl (.one (.int .i64)) s_), .one (di v_)] = slices_Indexint_int_q s_ v_ (fun y : Int => some (.one (di y))) := by
    refine (stepG_is (nt := 19) (regs := [(0, .one (dl (.one (.int .i64)) s_)), (1, .one (di v_))]) (by kernel_rfl) (by kernel_rfl)).trans ?_
    unfold slices_Indexint_int_q
    refine (seq_push (by kernel_rfl)).trans ?_
    refine (slices_Indexint_int_r1 s_ v_ _).trans ?_
    refine (seqC_normal (st' := ⟨[(0, .one (dl (.one (.int .i64)) s_)), (1, .one (di v_))], [], [], 19⟩) (by kernel_rfl)).trans ?_
    refine (seq_push (by kernel_rfl)).trans ?_
    refine (seq_push (by kernel_rfl)).trans ?_
    refine (slices_Indexint_int_r2 s_ v_ _).trans ?_
    refine (seqC_normal (st' := ⟨[(0, .one (dl (.one (.int .i64)) s_)), (1, .one (di v_)), (7, .one (di (s_.length : Int))), (8, .one (di (0 : Int)))], [], [], 19⟩) (by kernel_rfl)).trans ?_
    refine (block_push (id := 0) (by kernel_rfl)).trans ?_
    refine (slices_Indexint_int_l8 s_ v_ _).trans (bind_g (either_g (fun y38 => ?_) (fun y39 => ?_)))
    · refine block_same.trans ?_
      refine (seqC_normal (st' := ⟨[], [], [], 19⟩) (by kernel_rfl)).trans ?_
      refine (seq_push (by kernel_rfl)).trans ?_
      refine (slices_Indexint_int_r9 _).trans ?_
      refine (seqC_normal (st' := ⟨[(4, .one (di (-1 : Int)))], [], [], 19⟩) (by kernel_rfl)).trans ?_
      refine (ret_eq (by kernel_rfl)).trans ?_
      kernel_rfl
    · refine block_ret.trans ?_
      refine seqC_ret.trans ?_
      kernel_rfl
  exact h.trans (slices_Indexint_int_n s_ v_ _)
theorem slices_Indexint_int_c (x : denL [(.one (.g (.sl (.one (.int .i64))))), (.one (.g (.int .i64)))]) : stepS E cp13 noE 26 (encL [(.one (.g (.sl (.one (.int .i64))))), (.one (.g (.int .i64)))] x) = ((fun x => slices_Indexint_int x.1 x.2.1) x).bind fun y => some (Po.enc (.one (.one (.g (.int .i64)))) ((fun y : Int => y) y)) := Eq.mp (by kernel_rfl) (slices_Indexint_int_is x.1 x.2.1)
noncomputable def cp14 : CallP := withC cp13 26 [(.one (.g (.sl (.one (.int .i64))))), (.one (.g (.int .i64)))] (.one (.one (.g (.int .i64)))) (fun y : Int => y) (fun x => slices_Indexint_int x.1 x.2.1)
theorem cp14_ok : PureOK E cp14 := withC_ok cp13_ok (stepS_ok eok cp13_ok noE_ok) fun x => con_of (enc := fun y => Po.enc (.one (.one (.g (.int .i64)))) ((fun y : Int => y) y)) (slices_Indexint_int_c x)
theorem slices_Containsint_int_r1 {α : Type} (s_ : (List Int)) (v_ : Int) (k : Kont α) : runCode E 24 cp14 noE (codeOf E.P 24).l ⟨[(0, .one (dl (.one (.int .i64)) s_)), (1, .one (di v_))], [], [], 9⟩ k = k .normal ⟨[(0, .one (dl (.one (.int .i64)) s_)), (1, .one (di v_))], [], [], 9⟩ := by kernel_rfl
theorem slices_Containsint_int_r2 {α : Type} (s_ : (List Int)) (v_ : Int) (k : Kont α) : runCode E 24 cp14 noE (codeOf E.P 24).r.l ⟨[(0, .one (dl (.one (.int .i64)) s_)), (1, .one (di v_))], [], [], 9⟩ k = Option.bind (slices_Indexint_int s_ v_) (fun y40 : Int => k .normal ⟨[(4, .one (db (decide (y40 ≥ (0 : Int)))))], [], [], 9⟩) := by kernel_rfl
/-- slices.Contains[[]int,int] -/
def slices_Containsint_int_q {β : Type} (s_ : (List Int)) (v_ : Int) (K : Bool → Option β) : Option β := (Option.bind (slices_Indexint_int s_ v_) (fun y40 : Int => (K (decide (y40 ≥ (0 : Int))))))
def slices_Containsint_int (s_ : (List Int)) (v_ : Int) : Option Bool := slices_Containsint_int_q s_ v_ some
theorem slices_Containsint_int_n {β : Type} (s_ : (List Int)) (v_ : Int) (K : Bool → Option β) : slices_Containsint_int_q s_ v_ K = (slices_Containsint_int s_ v_).bind K := (bind_b fun y40 => some_b)
theorem slices_Containsint_int_is (s_ : (List Int)) (v_ : Int) : stepS E cp14 noE 24 [.one (dl (.one (.int .i64)) s_), .one (di v_)] = Option.bind (slices_Containsint_int s_ v_) (fun y : Bool => some (.one (db y))) := by
  have h : stepS E cp14 noE 24 [.one (dl (.one (.int .i64)) s_), .one (di v_)] = slices_Containsint_int_q s_ v_ (fun y : Bool => some (.one (db y))) := by
    refine (stepG_is (nt := 9) (regs := [(0, .one (dl (.one (.int .i64)) s_)), (1, .one (di v_))]) (by kernel_rfl) (by kernel_rfl)).trans ?_
    unfold slices_Containsint_int_q
    refine (seq_push (by kernel_rfl)).trans ?_
    refine (slices_Containsint_int_r1 s_ v_ _).trans ?_
    refine (seqC_normal (st' := ⟨[(0, .one (dl (.one (.int .i64)) s_)), (1, .one (di v_))], [], [], 9⟩) (by kernel_rfl)).trans ?_
    refine (seq_push (by kernel_rfl)).trans ?_
    refine (slices_Containsint_int_r2 s_ v_ _).trans (bind_g fun y40 => ?_)
    refine (seqC_normal (st' := ⟨[(4, .one (db (decide (y40 ≥ (0 : Int)))))], [], [], 9⟩) (by kernel_rfl)).trans ?_
    refine (ret_eq (by kernel_rfl)).trans ?_
    kernel_rfl
  exact h.trans (slices_Containsint_int_n s_ v_ _)
theorem slices_Containsint_int_c (x : denL [(.one (.g (.sl (.one (.int .i64))))), (.one (.g (.int .i64)))]) : stepS E cp14 noE 24 (encL [(.one (.g (.sl (.one (.int .i64))))), (.one (.g (.int .i64)))] x) = ((fun x => slices_Containsint_int x.1 x.2.1) x).bind fun y => some (Po.enc (.one (.one (.g .bool))) ((fun y : Bool => y) y)) := Eq.mp (by kernel_rfl) (slices_Containsint_int_is x.1 x.2.1)
noncomputable def cp15 : CallP := withC cp14 24 [(.one (.g (.sl (.one (.int .i64))))), (.one (.g (.int .i64)))] (.one (.one (.g .bool))) (fun y : Bool => y) (fun x => slices_Containsint_int x.1 x.2.1)
theorem cp15_ok : PureOK E cp15 := withC_ok cp14_ok (stepS_ok eok cp14_ok noE_ok) fun x => con_of (enc := fun y => Po.enc (.one (.one (.g .bool))) ((fun y : Bool => y) y)) (slices_Containsint_int_c x)
theorem halo_Npu_r1 {α : Type} (op : Int) (k : Kont α) : runCode E 21 cp15 noE (codeOf E.P 21).l ⟨[(0, .one (di op))], [], [], 17⟩ k = k .normal ⟨[(0, .one (di op))], [], [], 17⟩ := by kernel_rfl
theorem halo_Npu_r2 {α : Type} (op : Int) (k : Kont α) : runCode E 21 cp15 noE (codeOf E.P 21).r.l ⟨[(0, .one (di op))], [], [], 17⟩ k = k .normal ⟨[(0, .one (di op)), (3, .one (.ref 0 0))], [[di (3 : Int), di (9 : Int), di (10 : Int), di (11 : Int)]], [], 17⟩ := by kernel_rfl
def halo_Npu_r3_q {β : Type} (op : Int) (K : Bool → Option β) : Option β := (bif (decide (op ≥ (1 : Int))) then (bif (decide (op ≤ (12 : Int))) then (Option.bind (slices_Containsint_int [(3 : Int), (9 : Int), (10 : Int), (11 : Int)] op) (fun y41 : Bool => (K (!y41)))) else (K false)) else (K false))
def halo_Npu_r3_p (op : Int) : Option (Bool) := halo_Npu_r3_q op some
theorem halo_Npu_r3_n {β : Type} (op : Int) (K : Bool → Option β) : halo_Npu_r3_q op K = (halo_Npu_r3_p op).bind K := (bif_b (bif_b (bind_b fun y41 => some_b) some_b) some_b)
theorem halo_Npu_r3 {α : Type} (op : Int) (k : Kont α) : runCode E 21 cp15 noE (codeOf E.P 21).r.r.l ⟨[(0, .one (di op)), (3, .one (.ref 0 0))], [[di (3 : Int), di (9 : Int), di (10 : Int), di (11 : Int)]], [], 17⟩ k = Option.bind (halo_Npu_r3_p op) (fun y42 : Bool => k .normal ⟨[(2, .one (db y42))], [[]], [], 17⟩) := by
  have h : runCode E 21 cp15 noE (codeOf E.P 21).r.r.l ⟨[(0, .one (di op)), (3, .one (.ref 0 0))], [[di (3 : Int), di (9 : Int), di (10 : Int), di (11 : Int)]], [], 17⟩ k = halo_Npu_r3_q op (fun y42 : Bool => k .normal ⟨[(2, .one (db y42))], [[]], [], 17⟩) := by kernel_rfl
  exact h.trans (halo_Npu_r3_n op _)
/-- quilt/halo.Npu -/
def halo_Npu_q {β : Type} (op : Int) (K : Bool → Option β) : Option β := (Option.bind (halo_Npu_r3_p op) (fun y42 : Bool => (K y42)))
def halo_Npu (op : Int) : Option Bool := halo_Npu_q op some
theorem halo_Npu_n {β : Type} (op : Int) (K : Bool → Option β) : halo_Npu_q op K = (halo_Npu op).bind K := (bind_b fun y42 => some_b)
theorem halo_Npu_is (op : Int) : stepS E cp15 noE 21 [.one (di op)] = Option.bind (halo_Npu op) (fun y : Bool => some (.one (db y))) := by
  have h : stepS E cp15 noE 21 [.one (di op)] = halo_Npu_q op (fun y : Bool => some (.one (db y))) := by
    refine (stepG_is (nt := 17) (regs := [(0, .one (di op))]) (by kernel_rfl) (by kernel_rfl)).trans ?_
    unfold halo_Npu_q
    refine (seq_push (by kernel_rfl)).trans ?_
    refine (halo_Npu_r1 op _).trans ?_
    refine (seqC_normal (st' := ⟨[(0, .one (di op))], [], [], 17⟩) (by kernel_rfl)).trans ?_
    refine (seq_push (by kernel_rfl)).trans ?_
    refine (halo_Npu_r2 op _).trans ?_
    refine (seqC_normal (st' := ⟨[(0, .one (di op)), (3, .one (.ref 0 0))], [[di (3 : Int), di (9 : Int), di (10 : Int), di (11 : Int)]], [], 17⟩) (by kernel_rfl)).trans ?_
    refine (seq_push (by kernel_rfl)).trans ?_
    refine (halo_Npu_r3 op _).trans (bind_g fun y42 => ?_)
    refine (seqC_normal (st' := ⟨[(2, .one (db y42))], [[]], [], 17⟩) (by kernel_rfl)).trans ?_
    refine (ret_eq (by kernel_rfl)).trans ?_
    kernel_rfl
  exact h.trans (halo_Npu_n op _)
theorem halo_Npu_c (x : denL [(.one (.g (.int .i64)))]) : stepS E cp15 noE 21 (encL [(.one (.g (.int .i64)))] x) = ((fun x => halo_Npu x.1) x).bind fun y => some (Po.enc (.one (.one (.g .bool))) ((fun y : Bool => y) y)) := Eq.mp (by kernel_rfl) (halo_Npu_is x.1)
noncomputable def cp16 : CallP := withC cp15 21 [(.one (.g (.int .i64)))] (.one (.one (.g .bool))) (fun y : Bool => y) (fun x => halo_Npu x.1)
theorem cp16_ok : PureOK E cp16 := withC_ok cp15_ok (stepS_ok eok cp15_ok noE_ok) fun x => con_of (enc := fun y => Po.enc (.one (.one (.g .bool))) ((fun y : Bool => y) y)) (halo_Npu_c x)
end Go.V.P
