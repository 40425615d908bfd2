/- What functions compute. -/
import Derived.Test.YtllekbfjopcbpaaGaEnv
namespace Go.V.P
open Go.RowKit Go.V Go.Proofs
set_option linter.unusedVariables false
set_option maxRecDepth 100000
def fixed_Div_lv0 (x_ : Int) (by_ : Int) : Option Int := none
noncomputable def cp1 : CallP := withC cpA 12 [(.one (.g (.int .i64))), (.one (.g (.int .i64)))] (.one (.one (.g (.int .i64)))) (fun y : Int => y) (fun x => fixed_Div_lv0 x.1 x.2.1)
theorem cp1_ok : PureOK E cp1 := withC_ok cpA_ok (stepS_ok eok cpA_ok noE_ok) fun x y h => by cases h
noncomputable abbrev C1 : Code := codeOf E.P 12
noncomputable abbrev P1 {α : Type} (n : Nat) (c : Code) (st : St) (k : St → Option α) : Option α := preK E 12 cp1 noE n c st k
noncomputable abbrev R1 {α : Type} (c : Code) (st : St) (k : Kont α) : Option α := runCode E 12 cp1 noE c st k
noncomputable abbrev Q1 {α : Type} (c : Code) (k : Kont α) : Kont α := seqC E 12 cp1 noE c k
theorem fixed_Div_lv1_f2 {α : Type} (x_ : Int) (by_ : Int) (k : St → Option α) : P1 2 C1 ⟨[(0, ri x_), (1, ri by_)], [], [], 21⟩ k = k ⟨[(0, ri x_), (1, ri (max by_ (1 : Int)))], [], [], 21⟩ := by kernel_rfl
theorem fixed_Div_lv1_f1000003 {α : Type} (x_ : Int) (by_ : Int) (k : St → Option α) : P1 1 C1.r.r.l ⟨[(0, ri x_), (1, ri (max by_ (1 : Int)))], [], [], 21⟩ k = k ⟨[(0, ri x_), (1, ri (max by_ (1 : Int))), (8, rb (decide (x_ < (0 : Int))))], [], [], 21⟩ := by kernel_rfl
theorem fixed_Div_lv1_r3 {α : Type} (x_ : Int) (by_ : Int) (k : St → Option α) : P1 1 C1.r.r.l.r.t ⟨[(0, ri x_), (1, ri (max by_ (1 : Int)))], [], [], 21⟩ k = Option.bind (fixed_Div_lv0 (max (IntKind.wrap .i64 (0 - x_)) (0 : Int)) (max by_ (1 : Int))) fun y2 : Int => k ⟨[(4, ri (IntKind.wrap .i64 (0 - y2)))], [], [], 21⟩ := by kernel_rfl
def fixed_Div_lv1_r4_q {β : Type} (x_ : Int) (by_ : Int) (K : Int → Option β) : Option β := (bif ((max by_ (1 : Int)) == (0:Int)) then none else (K (IntKind.wrap .i64 (Int.tdiv (IntKind.wrap .i64 (x_ + (IntKind.wrap .i64 (Int.tdiv (max by_ (1 : Int)) (2 : Int))))) (max by_ (1 : Int))))))
def fixed_Div_lv1_r4_p (x_ : Int) (by_ : Int) : Option (Int) := fixed_Div_lv1_r4_q x_ by_ some
theorem fixed_Div_lv1_r4_n {β : Type} (x_ : Int) (by_ : Int) (K : Int → Option β) : fixed_Div_lv1_r4_q x_ by_ K = (fixed_Div_lv1_r4_p x_ by_).bind K := (bif_b none_b some_b)
theorem fixed_Div_lv1_r4 {α : Type} (x_ : Int) (by_ : Int) (k : St → Option α) : P1 1 C1.r.r.r ⟨[(0, ri x_), (1, ri (max by_ (1 : Int)))], [], [], 21⟩ k = Option.bind (fixed_Div_lv1_r4_p x_ by_) (fun y3 : Int => k ⟨[(4, ri y3)], [], [], 21⟩) := Eq.trans (by kernel_rfl) (fixed_Div_lv1_r4_n x_ by_ _)
/-- quilt/fixed.Div -/
def fixed_Div_lv1_q {β : Type} (x_ : Int) (by_ : Int) (K : Int → Option β) : Option β := (bif (decide (x_ < (0 : Int))) then (Option.bind (fixed_Div_lv0 (max (IntKind.wrap .i64 (0 - x_)) (0 : Int)) (max by_ (1 : Int))) (fun y2 : Int => (K (IntKind.wrap .i64 (0 - y2))))) else (Option.bind (fixed_Div_lv1_r4_p x_ by_) (fun y3 : Int => (K y3))))
def fixed_Div_lv1 (x_ : Int) (by_ : Int) : Option Int := fixed_Div_lv1_q x_ by_ some
theorem fixed_Div_lv1_n {β : Type} (x_ : Int) (by_ : Int) (K : Int → Option β) : fixed_Div_lv1_q x_ by_ K = (fixed_Div_lv1 x_ by_).bind K := (bif_b (bind_b fun y2 => some_b) (bind_b fun y3 => some_b))
theorem fixed_Div_lv1_is (x_ : Int) (by_ : Int) : stepS E cp1 noE 12 [ri x_, ri by_] = Option.bind (fixed_Div_lv1 x_ by_) (fun y : Int => some (ri y : R)) := by
  refine Eq.trans ?_ (fixed_Div_lv1_n x_ by_ (fun y : Int => some (ri y : R)))
  refine (stepG_is (nt := 21) (regs := [(0, ri x_), (1, ri by_)]) (by kernel_rfl) (by kernel_rfl)).trans ?_
  unfold fixed_Div_lv1_q
  refine (pre (n := 2) (c' := C1.r.r) (by kernel_rfl) (by kernel_rfl) (fixed_Div_lv1_f2 x_ by_ _)).trans ?_
  refine (seq_push (by kernel_rfl)).trans ?_
  refine (pre (n := 1) (c' := C1.r.r.l.r) (by kernel_rfl) (by kernel_rfl) (fixed_Div_lv1_f1000003 x_ by_ _)).trans ?_
  refine (cond_eq (b := (decide (x_ < (0 : Int)))) (st' := ⟨[(0, ri x_), (1, ri (max by_ (1 : Int)))], [], [], 21⟩) (by kernel_rfl) (by kernel_rfl) (by kernel_rfl)).trans (bif_g ?_ ?_)
  · refine (pre (n := 1) (c' := C1.r.r.l.r.t.r) (by kernel_rfl) (by kernel_rfl) (fixed_Div_lv1_r3 x_ by_ _)).trans (bind_g fun y2 => ?_)
    refine (ret_eq (by kernel_rfl)).trans ?_
    refine seqC_ret.trans ?_
    kernel_rfl
  · refine (skip_eq (by kernel_rfl)).trans ?_
    refine (seqC_normal (st' := ⟨[(0, ri x_), (1, ri (max by_ (1 : Int)))], [], [], 21⟩) (by kernel_rfl)).trans ?_
    refine (pre (n := 1) (c' := C1.r.r.r.r) (by kernel_rfl) (by kernel_rfl) (fixed_Div_lv1_r4 x_ by_ _)).trans (bind_g fun y3 => ?_)
    refine (ret_eq (by kernel_rfl)).trans ?_
    kernel_rfl
theorem fixed_Div_lv1_c (x : denL [(.one (.g (.int .i64))), (.one (.g (.int .i64)))]) : stepS E cp1 noE 12 (encL [(.one (.g (.int .i64))), (.one (.g (.int .i64)))] x) = ((fun x => fixed_Div_lv1 x.1 x.2.1) x).bind fun y => some (Po.enc (.one (.one (.g (.int .i64)))) ((fun y : Int => y) y)) := Eq.mp (by kernel_rfl) (fixed_Div_lv1_is x.1 x.2.1)
noncomputable def cp2 : CallP := withC cp1 12 [(.one (.g (.int .i64))), (.one (.g (.int .i64)))] (.one (.one (.g (.int .i64)))) (fun y : Int => y) (fun x => fixed_Div_lv1 x.1 x.2.1)
theorem cp2_ok : PureOK E cp2 := withC_ok cp1_ok (stepS_ok eok cp1_ok noE_ok) fun x => con_of (enc := fun y => Po.enc (.one (.one (.g (.int .i64)))) ((fun y : Int => y) y)) (fixed_Div_lv1_c x)
noncomputable abbrev C2 : Code := codeOf E.P 12
noncomputable abbrev P2 {α : Type} (n : Nat) (c : Code) (st : St) (k : St → Option α) : Option α := preK E 12 cp2 noE n c st k
noncomputable abbrev R2 {α : Type} (c : Code) (st : St) (k : Kont α) : Option α := runCode E 12 cp2 noE c st k
noncomputable abbrev Q2 {α : Type} (c : Code) (k : Kont α) : Kont α := seqC E 12 cp2 noE c k
theorem fixed_Div_f2 {α : Type} (x_ : Int) (by_ : Int) (k : St → Option α) : P2 2 C2 ⟨[(0, ri x_), (1, ri by_)], [], [], 21⟩ k = k ⟨[(0, ri x_), (1, ri (max by_ (1 : Int)))], [], [], 21⟩ := by kernel_rfl
theorem fixed_Div_f1000003 {α : Type} (x_ : Int) (by_ : Int) (k : St → Option α) : P2 1 C2.r.r.l ⟨[(0, ri x_), (1, ri (max by_ (1 : Int)))], [], [], 21⟩ k = k ⟨[(0, ri x_), (1, ri (max by_ (1 : Int))), (8, rb (decide (x_ < (0 : Int))))], [], [], 21⟩ := by kernel_rfl
theorem fixed_Div_r3 {α : Type} (x_ : Int) (by_ : Int) (k : St → Option α) : P2 1 C2.r.r.l.r.t ⟨[(0, ri x_), (1, ri (max by_ (1 : Int)))], [], [], 21⟩ k = Option.bind (fixed_Div_lv1 (max (IntKind.wrap .i64 (0 - x_)) (0 : Int)) (max by_ (1 : Int))) fun y5 : Int => k ⟨[(4, ri (IntKind.wrap .i64 (0 - y5)))], [], [], 21⟩ := by kernel_rfl
def fixed_Div_r4_q {β : Type} (x_ : Int) (by_ : Int) (K : Int → Option β) : Option β := (bif ((max by_ (1 : Int)) == (0:Int)) then none else (K (IntKind.wrap .i64 (Int.tdiv (IntKind.wrap .i64 (x_ + (IntKind.wrap .i64 (Int.tdiv (max by_ (1 : Int)) (2 : Int))))) (max by_ (1 : Int))))))
def fixed_Div_r4_p (x_ : Int) (by_ : Int) : Option (Int) := fixed_Div_r4_q x_ by_ some
theorem fixed_Div_r4_n {β : Type} (x_ : Int) (by_ : Int) (K : Int → Option β) : fixed_Div_r4_q x_ by_ K = (fixed_Div_r4_p x_ by_).bind K := (bif_b none_b some_b)
theorem fixed_Div_r4 {α : Type} (x_ : Int) (by_ : Int) (k : St → Option α) : P2 1 C2.r.r.r ⟨[(0, ri x_), (1, ri (max by_ (1 : Int)))], [], [], 21⟩ k = Option.bind (fixed_Div_r4_p x_ by_) (fun y6 : Int => k ⟨[(4, ri y6)], [], [], 21⟩) := Eq.trans (by kernel_rfl) (fixed_Div_r4_n x_ by_ _)
/-- quilt/fixed.Div -/
def fixed_Div_q {β : Type} (x_ : Int) (by_ : Int) (K : Int → Option β) : Option β := (bif (decide (x_ < (0 : Int))) then (Option.bind (fixed_Div_lv1 (max (IntKind.wrap .i64 (0 - x_)) (0 : Int)) (max by_ (1 : Int))) (fun y5 : Int => (K (IntKind.wrap .i64 (0 - y5))))) else (Option.bind (fixed_Div_r4_p x_ by_) (fun y6 : Int => (K y6))))
def fixed_Div (x_ : Int) (by_ : Int) : Option Int := fixed_Div_q x_ by_ some
theorem fixed_Div_n {β : Type} (x_ : Int) (by_ : Int) (K : Int → Option β) : fixed_Div_q x_ by_ K = (fixed_Div x_ by_).bind K := (bif_b (bind_b fun y5 => some_b) (bind_b fun y6 => some_b))
theorem fixed_Div_is (x_ : Int) (by_ : Int) : stepS E cp2 noE 12 [ri x_, ri by_] = Option.bind (fixed_Div x_ by_) (fun y : Int => some (ri y : R)) := by
  refine Eq.trans ?_ (fixed_Div_n x_ by_ (fun y : Int => some (ri y : R)))
  refine (stepG_is (nt := 21) (regs := [(0, ri x_), (1, ri by_)]) (by kernel_rfl) (by kernel_rfl)).trans ?_
  unfold fixed_Div_q
  refine (pre (n := 2) (c' := C2.r.r) (by kernel_rfl) (by kernel_rfl) (fixed_Div_f2 x_ by_ _)).trans ?_
  refine (seq_push (by kernel_rfl)).trans ?_
  refine (pre (n := 1) (c' := C2.r.r.l.r) (by kernel_rfl) (by kernel_rfl) (fixed_Div_f1000003 x_ by_ _)).trans ?_
  refine (cond_eq (b := (decide (x_ < (0 : Int)))) (st' := ⟨[(0, ri x_), (1, ri (max by_ (1 : Int)))], [], [], 21⟩) (by kernel_rfl) (by kernel_rfl) (by kernel_rfl)).trans (bif_g ?_ ?_)
  · refine (pre (n := 1) (c' := C2.r.r.l.r.t.r) (by kernel_rfl) (by kernel_rfl) (fixed_Div_r3 x_ by_ _)).trans (bind_g fun y5 => ?_)
    refine (ret_eq (by kernel_rfl)).trans ?_
    refine seqC_ret.trans ?_
    kernel_rfl
  · refine (skip_eq (by kernel_rfl)).trans ?_
    refine (seqC_normal (st' := ⟨[(0, ri x_), (1, ri (max by_ (1 : Int)))], [], [], 21⟩) (by kernel_rfl)).trans ?_
    refine (pre (n := 1) (c' := C2.r.r.r.r) (by kernel_rfl) (by kernel_rfl) (fixed_Div_r4 x_ by_ _)).trans (bind_g fun y6 => ?_)
    refine (ret_eq (by kernel_rfl)).trans ?_
    kernel_rfl
theorem fixed_Div_c (x : denL [(.one (.g (.int .i64))), (.one (.g (.int .i64)))]) : stepS E cp2 noE 12 (encL [(.one (.g (.int .i64))), (.one (.g (.int .i64)))] x) = ((fun x => fixed_Div x.1 x.2.1) x).bind fun y => some (Po.enc (.one (.one (.g (.int .i64)))) ((fun y : Int => y) y)) := Eq.mp (by kernel_rfl) (fixed_Div_is x.1 x.2.1)
noncomputable def cp3 : CallP := withC cp2 12 [(.one (.g (.int .i64))), (.one (.g (.int .i64)))] (.one (.one (.g (.int .i64)))) (fun y : Int => y) (fun x => fixed_Div x.1 x.2.1)
theorem cp3_ok : PureOK E cp3 := withC_ok cp2_ok (stepS_ok eok cp2_ok noE_ok) fun x => con_of (enc := fun y => Po.enc (.one (.one (.g (.int .i64)))) ((fun y : Int => y) y)) (fixed_Div_c x)
noncomputable abbrev C3 : Code := codeOf E.P 23
noncomputable abbrev P3 {α : Type} (n : Nat) (c : Code) (st : St) (k : St → Option α) : Option α := preK E 23 cp3 noE n c st k
noncomputable abbrev R3 {α : Type} (c : Code) (st : St) (k : Kont α) : Option α := runCode E 23 cp3 noE c st k
noncomputable abbrev Q3 {α : Type} (c : Code) (k : Kont α) : Kont α := seqC E 23 cp3 noE c k
theorem fixed_held_fz {α : Type} (low : Int) (high : Int) (k : St → Option α) : P3 2 C3 ⟨[(0, ri low), (1, ri high)], [], [], 6⟩ k = k ⟨[(4, .one (.fn 25 [.cell [di low], .cell [di high]]))], [], [], 6⟩ := by kernel_rfl
/-- quilt/fixed.held -/
def fixed_held_q {β : Type} (low : Int) (high : Int) (K : ((Int × Unit) × (Int × Unit) × Unit) → β) : β := (K ((low, ()), (high, ()), ()))
def fixed_held (low : Int) (high : Int) : ((Int × Unit) × (Int × Unit) × Unit) := fixed_held_q low high (fun y => y)
theorem fixed_held_n {β : Type} (low : Int) (high : Int) (K : ((Int × Unit) × (Int × Unit) × Unit) → β) : fixed_held_q low high K = K (fixed_held low high) := rfl
theorem fixed_held_is (low : Int) (high : Int) : stepS E cp3 noE 23 [ri low, ri high] = (fun y : ((Int × Unit) × (Int × Unit) × Unit) => some (.one (.fn 25 [.cell [di y.1.1], .cell [di y.2.1.1]]) : R)) (fixed_held low high) := by
  refine Eq.trans ?_ (fixed_held_n low high (fun y : ((Int × Unit) × (Int × Unit) × Unit) => some (.one (.fn 25 [.cell [di y.1.1], .cell [di y.2.1.1]]) : R)))
  refine (stepG_is (nt := 6) (regs := [(0, ri low), (1, ri high)]) (by kernel_rfl) (by kernel_rfl)).trans ?_
  unfold fixed_held_q
  refine (pre (n := 2) (c' := C3.r.r) (by kernel_rfl) (by kernel_rfl) (fixed_held_fz low high _)).trans ?_
  refine (ret_eq (by kernel_rfl)).trans ?_
  kernel_rfl
theorem fixed_held_c (x : denL [(.one (.g (.int .i64))), (.one (.g (.int .i64)))]) : stepS E cp3 noE 23 (encL [(.one (.g (.int .i64))), (.one (.g (.int .i64)))] x) = ((fun x => some (fixed_held x.1 x.2.1)) x).bind fun y => some (Po.enc (.one (.one (.fn 25 (.cons (.cell (.cons (.g (.int .i64)) .nil)) (.cons (.cell (.cons (.g (.int .i64)) .nil)) .nil))))) ((fun y : ((Int × Unit) × (Int × Unit) × Unit) => y) y)) := Eq.mp (by kernel_rfl) (fixed_held_is x.1 x.2.1)
noncomputable def cp4 : CallP := withC cp3 23 [(.one (.g (.int .i64))), (.one (.g (.int .i64)))] (.one (.one (.fn 25 (.cons (.cell (.cons (.g (.int .i64)) .nil)) (.cons (.cell (.cons (.g (.int .i64)) .nil)) .nil))))) (fun y : ((Int × Unit) × (Int × Unit) × Unit) => y) (fun x => some (fixed_held x.1 x.2.1))
theorem cp4_ok : PureOK E cp4 := withC_ok cp3_ok (stepS_ok eok cp3_ok noE_ok) fun x => con_of (enc := fun y => Po.enc (.one (.one (.fn 25 (.cons (.cell (.cons (.g (.int .i64)) .nil)) (.cons (.cell (.cons (.g (.int .i64)) .nil)) .nil))))) ((fun y : ((Int × Unit) × (Int × Unit) × Unit) => y) y)) (fixed_held_c x)
noncomputable abbrev C4 : Code := codeOf E.P 25
noncomputable abbrev P4 {α : Type} (n : Nat) (c : Code) (st : St) (k : St → Option α) : Option α := preK E 25 cp4 noE n c st k
noncomputable abbrev R4 {α : Type} (c : Code) (st : St) (k : Kont α) : Option α := runCode E 25 cp4 noE c st k
noncomputable abbrev Q4 {α : Type} (c : Code) (k : Kont α) : Kont α := seqC E 25 cp4 noE c k
theorem fixed_held_1_fz {α : Type} (x_ : Int) (c1_ : Int) (c2_ : Int) (k : St → Option α) : P4 2 C4 ⟨[(0, ri x_), (1, .one (.cell [di c1_])), (2, .one (.cell [di c2_]))], [], [], 10⟩ k = k ⟨[(4, ri (min (max x_ c1_) c2_))], [], [], 10⟩ := by kernel_rfl
/-- quilt/fixed.held$1 -/
def fixed_held_1_q {β : Type} (x_ : Int) (c1_ : Int) (c2_ : Int) (K : Int → β) : β := (K (min (max x_ c1_) c2_))
def fixed_held_1 (x_ : Int) (c1_ : Int) (c2_ : Int) : Int := fixed_held_1_q x_ c1_ c2_ (fun y => y)
theorem fixed_held_1_n {β : Type} (x_ : Int) (c1_ : Int) (c2_ : Int) (K : Int → β) : fixed_held_1_q x_ c1_ c2_ K = K (fixed_held_1 x_ c1_ c2_) := rfl
theorem fixed_held_1_is (x_ : Int) (c1_ : Int) (c2_ : Int) : stepS E cp4 noE 25 [ri x_, .one (.cell [di c1_]), .one (.cell [di c2_])] = (fun y : Int => some (ri y : R)) (fixed_held_1 x_ c1_ c2_) := by
  refine Eq.trans ?_ (fixed_held_1_n x_ c1_ c2_ (fun y : Int => some (ri y : R)))
  refine (stepG_is (nt := 10) (regs := [(0, ri x_), (1, .one (.cell [di c1_])), (2, .one (.cell [di c2_]))]) (by kernel_rfl) (by kernel_rfl)).trans ?_
  unfold fixed_held_1_q
  refine (pre (n := 2) (c' := C4.r.r) (by kernel_rfl) (by kernel_rfl) (fixed_held_1_fz x_ c1_ c2_ _)).trans ?_
  refine (ret_eq (by kernel_rfl)).trans ?_
  kernel_rfl
theorem fixed_held_1_c (x : denL [(.one (.g (.int .i64))), (.one (.cell (.cons (.g (.int .i64)) .nil))), (.one (.cell (.cons (.g (.int .i64)) .nil)))]) : stepS E cp4 noE 25 (encL [(.one (.g (.int .i64))), (.one (.cell (.cons (.g (.int .i64)) .nil))), (.one (.cell (.cons (.g (.int .i64)) .nil)))] x) = ((fun x => some (fixed_held_1 x.1 x.2.1.1 x.2.2.1.1)) x).bind fun y => some (Po.enc (.one (.one (.g (.int .i64)))) ((fun y : Int => y) y)) := Eq.mp (by kernel_rfl) (fixed_held_1_is x.1 x.2.1.1 x.2.2.1.1)
noncomputable def cp5 : CallP := withC cp4 25 [(.one (.g (.int .i64))), (.one (.cell (.cons (.g (.int .i64)) .nil))), (.one (.cell (.cons (.g (.int .i64)) .nil)))] (.one (.one (.g (.int .i64)))) (fun y : Int => y) (fun x => some (fixed_held_1 x.1 x.2.1.1 x.2.2.1.1))
theorem cp5_ok : PureOK E cp5 := withC_ok cp4_ok (stepS_ok eok cp4_ok noE_ok) fun x => con_of (enc := fun y => Po.enc (.one (.one (.g (.int .i64)))) ((fun y : Int => y) y)) (fixed_held_1_c x)
noncomputable abbrev C5 : Code := codeOf E.P 17
noncomputable abbrev P5 {α : Type} (n : Nat) (c : Code) (st : St) (k : St → Option α) : Option α := preK E 17 cp5 noE n c st k
noncomputable abbrev R5 {α : Type} (c : Code) (st : St) (k : Kont α) : Option α := runCode E 17 cp5 noE c st k
noncomputable abbrev Q5 {α : Type} (c : Code) (k : Kont α) : Kont α := seqC E 17 cp5 noE c k
def fixed_Shift_r1_q {β : Type} (x_ : Int) (shift : Int) (K : Int → Option β) : Option β := (bif (decide ((0:Int) ≤ (fixed_held_1 shift (((fixed_held (0 : Int) (31 : Int)).1).1) (((fixed_held (0 : Int) (31 : Int)).2.1).1)))) then (Option.bind (fixed_Div x_ (IntKind.wrap .i64 ((1 : Int) * 2 ^ min (Int.toNat (fixed_held_1 shift (((fixed_held (0 : Int) (31 : Int)).1).1) (((fixed_held (0 : Int) (31 : Int)).2.1).1))) (IntKind.bits .i64)))) (fun y9 : Int => (K y9))) else none)
def fixed_Shift_r1_p (x_ : Int) (shift : Int) : Option (Int) := fixed_Shift_r1_q x_ shift some
theorem fixed_Shift_r1_n {β : Type} (x_ : Int) (shift : Int) (K : Int → Option β) : fixed_Shift_r1_q x_ shift K = (fixed_Shift_r1_p x_ shift).bind K := (bif_b (bind_b fun y9 => some_b) none_b)
theorem fixed_Shift_r1 {α : Type} (x_ : Int) (shift : Int) (k : St → Option α) : P5 2 C5 ⟨[(0, ri x_), (1, ri shift)], [], [], 11⟩ k = Option.bind (fixed_Shift_r1_p x_ shift) (fun y10 : Int => k ⟨[(4, ri y10)], [], [], 11⟩) := Eq.trans (by kernel_rfl) (fixed_Shift_r1_n x_ shift _)
/-- quilt/fixed.Shift -/
def fixed_Shift_q {β : Type} (x_ : Int) (shift : Int) (K : Int → Option β) : Option β := (Option.bind (fixed_Shift_r1_p x_ shift) (fun y10 : Int => (K y10)))
def fixed_Shift (x_ : Int) (shift : Int) : Option Int := fixed_Shift_q x_ shift some
theorem fixed_Shift_n {β : Type} (x_ : Int) (shift : Int) (K : Int → Option β) : fixed_Shift_q x_ shift K = (fixed_Shift x_ shift).bind K := (bind_b fun y10 => some_b)
theorem fixed_Shift_is (x_ : Int) (shift : Int) : stepS E cp5 noE 17 [ri x_, ri shift] = Option.bind (fixed_Shift x_ shift) (fun y : Int => some (ri y : R)) := by
  refine Eq.trans ?_ (fixed_Shift_n x_ shift (fun y : Int => some (ri y : R)))
  refine (stepG_is (nt := 11) (regs := [(0, ri x_), (1, ri shift)]) (by kernel_rfl) (by kernel_rfl)).trans ?_
  unfold fixed_Shift_q
  refine (pre (n := 2) (c' := C5.r.r) (by kernel_rfl) (by kernel_rfl) (fixed_Shift_r1 x_ shift _)).trans (bind_g fun y10 => ?_)
  refine (ret_eq (by kernel_rfl)).trans ?_
  kernel_rfl
theorem fixed_Shift_c (x : denL [(.one (.g (.int .i64))), (.one (.g (.int .i64)))]) : stepS E cp5 noE 17 (encL [(.one (.g (.int .i64))), (.one (.g (.int .i64)))] x) = ((fun x => fixed_Shift x.1 x.2.1) x).bind fun y => some (Po.enc (.one (.one (.g (.int .i64)))) ((fun y : Int => y) y)) := Eq.mp (by kernel_rfl) (fixed_Shift_is x.1 x.2.1)
noncomputable def cp6 : CallP := withC cp5 17 [(.one (.g (.int .i64))), (.one (.g (.int .i64)))] (.one (.one (.g (.int .i64)))) (fun y : Int => y) (fun x => fixed_Shift x.1 x.2.1)
theorem cp6_ok : PureOK E cp6 := withC_ok cp5_ok (stepS_ok eok cp5_ok noE_ok) fun x => con_of (enc := fun y => Po.enc (.one (.one (.g (.int .i64)))) ((fun y : Int => y) y)) (fixed_Shift_c x)
noncomputable abbrev C6 : Code := codeOf E.P 14
noncomputable abbrev P6 {α : Type} (n : Nat) (c : Code) (st : St) (k : St → Option α) : Option α := preK E 14 cp6 noE n c st k
noncomputable abbrev R6 {α : Type} (c : Code) (st : St) (k : Kont α) : Option α := runCode E 14 cp6 noE c st k
noncomputable abbrev Q6 {α : Type} (c : Code) (k : Kont α) : Kont α := seqC E 14 cp6 noE c k
def fixed_Clamp_r1_q {β : Type} (x_ : Int) (K : Int → β) : β := (K (fixed_held_1 x_ (((fixed_held (-128 : Int) (127 : Int)).1).1) (((fixed_held (-128 : Int) (127 : Int)).2.1).1)))
def fixed_Clamp_r1_p (x_ : Int) : Int := fixed_Clamp_r1_q x_ (fun y => y)
theorem fixed_Clamp_r1_n {β : Type} (x_ : Int) (K : Int → β) : fixed_Clamp_r1_q x_ K = K (fixed_Clamp_r1_p x_) := rfl
theorem fixed_Clamp_r1 {α : Type} (x_ : Int) (k : St → Option α) : P6 2 C6 ⟨[(0, ri x_)], [], [], 6⟩ k = k ⟨[(2, ri (fixed_Clamp_r1_p x_))], [], [], 6⟩ := Eq.trans (by kernel_rfl) (fixed_Clamp_r1_n x_ (fun y12 : Int => k ⟨[(2, ri y12)], [], [], 6⟩))
/-- quilt/fixed.Clamp -/
def fixed_Clamp_q {β : Type} (x_ : Int) (K : Int → β) : β := (K (fixed_Clamp_r1_p x_))
def fixed_Clamp (x_ : Int) : Int := fixed_Clamp_q x_ (fun y => y)
theorem fixed_Clamp_n {β : Type} (x_ : Int) (K : Int → β) : fixed_Clamp_q x_ K = K (fixed_Clamp x_) := rfl
theorem fixed_Clamp_is (x_ : Int) : stepS E cp6 noE 14 [ri x_] = (fun y : Int => some (ri y : R)) (fixed_Clamp x_) := by
  refine Eq.trans ?_ (fixed_Clamp_n x_ (fun y : Int => some (ri y : R)))
  refine (stepG_is (nt := 6) (regs := [(0, ri x_)]) (by kernel_rfl) (by kernel_rfl)).trans ?_
  unfold fixed_Clamp_q
  refine (pre (n := 2) (c' := C6.r.r) (by kernel_rfl) (by kernel_rfl) (fixed_Clamp_r1 x_ _)).trans ?_
  refine (ret_eq (by kernel_rfl)).trans ?_
  kernel_rfl
theorem fixed_Clamp_c (x : denL [(.one (.g (.int .i64)))]) : stepS E cp6 noE 14 (encL [(.one (.g (.int .i64)))] x) = ((fun x => some (fixed_Clamp x.1)) x).bind fun y => some (Po.enc (.one (.one (.g (.int .i64)))) ((fun y : Int => y) y)) := Eq.mp (by kernel_rfl) (fixed_Clamp_is x.1)
noncomputable def cp7 : CallP := withC cp6 14 [(.one (.g (.int .i64)))] (.one (.one (.g (.int .i64)))) (fun y : Int => y) (fun x => some (fixed_Clamp x.1))
theorem cp7_ok : PureOK E cp7 := withC_ok cp6_ok (stepS_ok eok cp6_ok noE_ok) fun x => con_of (enc := fun y => Po.enc (.one (.one (.g (.int .i64)))) ((fun y : Int => y) y)) (fixed_Clamp_c x)
noncomputable abbrev C7 : Code := codeOf E.P 15
noncomputable abbrev P7 {α : Type} (n : Nat) (c : Code) (st : St) (k : St → Option α) : Option α := preK E 15 cp7 noE n c st k
noncomputable abbrev R7 {α : Type} (c : Code) (st : St) (k : Kont α) : Option α := runCode E 15 cp7 noE c st k
noncomputable abbrev Q7 {α : Type} (c : Code) (k : Kont α) : Kont α := seqC E 15 cp7 noE c k
def fixed_Sat_r1_q {β : Type} (x_ : Int) (K : Int → β) : β := (K (fixed_held_1 x_ (((fixed_held (-2147483648 : Int) (2147483647 : Int)).1).1) (((fixed_held (-2147483648 : Int) (2147483647 : Int)).2.1).1)))
def fixed_Sat_r1_p (x_ : Int) : Int := fixed_Sat_r1_q x_ (fun y => y)
theorem fixed_Sat_r1_n {β : Type} (x_ : Int) (K : Int → β) : fixed_Sat_r1_q x_ K = K (fixed_Sat_r1_p x_) := rfl
theorem fixed_Sat_r1 {α : Type} (x_ : Int) (k : St → Option α) : P7 2 C7 ⟨[(0, ri x_)], [], [], 6⟩ k = k ⟨[(2, ri (fixed_Sat_r1_p x_))], [], [], 6⟩ := Eq.trans (by kernel_rfl) (fixed_Sat_r1_n x_ (fun y13 : Int => k ⟨[(2, ri y13)], [], [], 6⟩))
/-- quilt/fixed.Sat -/
def fixed_Sat_q {β : Type} (x_ : Int) (K : Int → β) : β := (K (fixed_Sat_r1_p x_))
def fixed_Sat (x_ : Int) : Int := fixed_Sat_q x_ (fun y => y)
theorem fixed_Sat_n {β : Type} (x_ : Int) (K : Int → β) : fixed_Sat_q x_ K = K (fixed_Sat x_) := rfl
theorem fixed_Sat_is (x_ : Int) : stepS E cp7 noE 15 [ri x_] = (fun y : Int => some (ri y : R)) (fixed_Sat x_) := by
  refine Eq.trans ?_ (fixed_Sat_n x_ (fun y : Int => some (ri y : R)))
  refine (stepG_is (nt := 6) (regs := [(0, ri x_)]) (by kernel_rfl) (by kernel_rfl)).trans ?_
  unfold fixed_Sat_q
  refine (pre (n := 2) (c' := C7.r.r) (by kernel_rfl) (by kernel_rfl) (fixed_Sat_r1 x_ _)).trans ?_
  refine (ret_eq (by kernel_rfl)).trans ?_
  kernel_rfl
theorem fixed_Sat_c (x : denL [(.one (.g (.int .i64)))]) : stepS E cp7 noE 15 (encL [(.one (.g (.int .i64)))] x) = ((fun x => some (fixed_Sat x.1)) x).bind fun y => some (Po.enc (.one (.one (.g (.int .i64)))) ((fun y : Int => y) y)) := Eq.mp (by kernel_rfl) (fixed_Sat_is x.1)
noncomputable def cp8 : CallP := withC cp7 15 [(.one (.g (.int .i64)))] (.one (.one (.g (.int .i64)))) (fun y : Int => y) (fun x => some (fixed_Sat x.1))
theorem cp8_ok : PureOK E cp8 := withC_ok cp7_ok (stepS_ok eok cp7_ok noE_ok) fun x => con_of (enc := fun y => Po.enc (.one (.one (.g (.int .i64)))) ((fun y : Int => y) y)) (fixed_Sat_c x)
noncomputable abbrev C8 : Code := codeOf E.P 13
noncomputable abbrev P8 {α : Type} (n : Nat) (c : Code) (st : St) (k : St → Option α) : Option α := preK E 13 cp8 noE n c st k
noncomputable abbrev R8 {α : Type} (c : Code) (st : St) (k : Kont α) : Option α := runCode E 13 cp8 noE c st k
noncomputable abbrev Q8 {α : Type} (c : Code) (k : Kont α) : Kont α := seqC E 13 cp8 noE c k
theorem fixed_Scale_r1 {α : Type} (acc : Int) (mul : Int) (shift : Int) (zero : Int) (k : St → Option α) : P8 2 C8 ⟨[(0, ri acc), (1, ri mul), (2, ri shift), (3, ri zero)], [], [], 21⟩ k = Option.bind (fixed_Shift (IntKind.wrap .i64 ((fixed_Sat acc) * (fixed_held_1 mul (((fixed_held (1 : Int) (32767 : Int)).1).1) (((fixed_held (1 : Int) (32767 : Int)).2.1).1)))) shift) fun y14 : Int => k ⟨[(8, ri (fixed_Clamp (IntKind.wrap .i64 ((fixed_Clamp zero) + y14))))], [], [], 21⟩ := by kernel_rfl
/-- quilt/fixed.Scale -/
def fixed_Scale_q {β : Type} (acc : Int) (mul : Int) (shift : Int) (zero : Int) (K : Int → Option β) : Option β := (Option.bind (fixed_Shift (IntKind.wrap .i64 ((fixed_Sat acc) * (fixed_held_1 mul (((fixed_held (1 : Int) (32767 : Int)).1).1) (((fixed_held (1 : Int) (32767 : Int)).2.1).1)))) shift) (fun y14 : Int => (K (fixed_Clamp (IntKind.wrap .i64 ((fixed_Clamp zero) + y14))))))
def fixed_Scale (acc : Int) (mul : Int) (shift : Int) (zero : Int) : Option Int := fixed_Scale_q acc mul shift zero some
theorem fixed_Scale_n {β : Type} (acc : Int) (mul : Int) (shift : Int) (zero : Int) (K : Int → Option β) : fixed_Scale_q acc mul shift zero K = (fixed_Scale acc mul shift zero).bind K := (bind_b fun y14 => some_b)
theorem fixed_Scale_is (acc : Int) (mul : Int) (shift : Int) (zero : Int) : stepS E cp8 noE 13 [ri acc, ri mul, ri shift, ri zero] = Option.bind (fixed_Scale acc mul shift zero) (fun y : Int => some (ri y : R)) := by
  refine Eq.trans ?_ (fixed_Scale_n acc mul shift zero (fun y : Int => some (ri y : R)))
  refine (stepG_is (nt := 21) (regs := [(0, ri acc), (1, ri mul), (2, ri shift), (3, ri zero)]) (by kernel_rfl) (by kernel_rfl)).trans ?_
  unfold fixed_Scale_q
  refine (pre (n := 2) (c' := C8.r.r) (by kernel_rfl) (by kernel_rfl) (fixed_Scale_r1 acc mul shift zero _)).trans (bind_g fun y14 => ?_)
  refine (ret_eq (by kernel_rfl)).trans ?_
  kernel_rfl
theorem fixed_Scale_c (x : denL [(.one (.g (.int .i64))), (.one (.g (.int .i64))), (.one (.g (.int .i64))), (.one (.g (.int .i64)))]) : stepS E cp8 noE 13 (encL [(.one (.g (.int .i64))), (.one (.g (.int .i64))), (.one (.g (.int .i64))), (.one (.g (.int .i64)))] x) = ((fun x => fixed_Scale x.1 x.2.1 x.2.2.1 x.2.2.2.1) x).bind fun y => some (Po.enc (.one (.one (.g (.int .i64)))) ((fun y : Int => y) y)) := Eq.mp (by kernel_rfl) (fixed_Scale_is x.1 x.2.1 x.2.2.1 x.2.2.2.1)
noncomputable def cp9 : CallP := withC cp8 13 [(.one (.g (.int .i64))), (.one (.g (.int .i64))), (.one (.g (.int .i64))), (.one (.g (.int .i64)))] (.one (.one (.g (.int .i64)))) (fun y : Int => y) (fun x => fixed_Scale x.1 x.2.1 x.2.2.1 x.2.2.2.1)
theorem cp9_ok : PureOK E cp9 := withC_ok cp8_ok (stepS_ok eok cp8_ok noE_ok) fun x => con_of (enc := fun y => Po.enc (.one (.one (.g (.int .i64)))) ((fun y : Int => y) y)) (fixed_Scale_c x)
noncomputable abbrev C9 : Code := codeOf E.P 11
noncomputable abbrev P9 {α : Type} (n : Nat) (c : Code) (st : St) (k : St → Option α) : Option α := preK E 11 cp9 noE n c st k
noncomputable abbrev R9 {α : Type} (c : Code) (st : St) (k : Kont α) : Option α := runCode E 11 cp9 noE c st k
noncomputable abbrev Q9 {α : Type} (c : Code) (k : Kont α) : Kont α := seqC E 11 cp9 noE c k
def law01_shown_r1_q {β : Type} (K : Bool → Option β) : Option β := (Option.bind (fixed_Div (5 : Int) (2 : Int)) (fun y7 : Int => (bif (y7 == (3 : Int)) then (Option.bind (fixed_Div (-5 : Int) (2 : Int)) (fun y8 : Int => (bif (y8 == (-3 : Int)) then (Option.bind (fixed_Shift (-3 : Int) (1 : Int)) (fun y11 : Int => (bif (y11 == (-2 : Int)) then (Option.bind (fixed_Scale (100 : Int) (3 : Int) (2 : Int) (-5 : Int)) (fun y15 : Int => (K (y15 == (70 : Int))))) else (K false)))) else (K false)))) else (K false))))
def law01_shown_r1_p : Option (Bool) := law01_shown_r1_q some
theorem law01_shown_r1_n {β : Type} (K : Bool → Option β) : law01_shown_r1_q K = (law01_shown_r1_p).bind K := (bind_b fun y7 => (bif_b (bind_b fun y8 => (bif_b (bind_b fun y11 => (bif_b (bind_b fun y15 => some_b) some_b)) some_b)) some_b))
theorem law01_shown_r1 {α : Type} (k : St → Option α) : P9 2 C9 ⟨[], [], [], 15⟩ k = Option.bind (law01_shown_r1_p) (fun y16 : Bool => k ⟨[(0, rb y16)], [], [], 15⟩) := Eq.trans (by kernel_rfl) (law01_shown_r1_n _)
/-- quilt/quiltlaw01.shown -/
def law01_shown_q {β : Type} (K : Bool → Option β) : Option β := (Option.bind law01_shown_r1_p (fun y16 : Bool => (K y16)))
def law01_shown : Option Bool := law01_shown_q some
theorem law01_shown_n {β : Type} (K : Bool → Option β) : law01_shown_q K = (law01_shown).bind K := (bind_b fun y16 => some_b)
theorem law01_shown_is : stepS E cp9 noE 11 [] = Option.bind (law01_shown) (fun y : Bool => some (rb y : R)) := by
  refine Eq.trans ?_ (law01_shown_n (fun y : Bool => some (rb y : R)))
  refine (stepG_is (nt := 15) (regs := []) (by kernel_rfl) (by kernel_rfl)).trans ?_
  unfold law01_shown_q
  refine (pre (n := 2) (c' := C9.r.r) (by kernel_rfl) (by kernel_rfl) (law01_shown_r1 _)).trans (bind_g fun y16 => ?_)
  refine (ret_eq (by kernel_rfl)).trans ?_
  kernel_rfl
theorem law01_shown_c (x : denL []) : stepS E cp9 noE 11 (encL [] x) = ((fun x => law01_shown) x).bind fun y => some (Po.enc (.one (.one (.g .bool))) ((fun y : Bool => y) y)) := Eq.mp (by kernel_rfl) (law01_shown_is)
noncomputable def cp10 : CallP := withC cp9 11 [] (.one (.one (.g .bool))) (fun y : Bool => y) (fun x => law01_shown)
theorem cp10_ok : PureOK E cp10 := withC_ok cp9_ok (stepS_ok eok cp9_ok noE_ok) fun x => con_of (enc := fun y => Po.enc (.one (.one (.g .bool))) ((fun y : Bool => y) y)) (law01_shown_c x)
noncomputable abbrev C10 : Code := codeOf E.P 16
noncomputable abbrev P10 {α : Type} (n : Nat) (c : Code) (st : St) (k : St → Option α) : Option α := preK E 16 cp10 noE n c st k
noncomputable abbrev R10 {α : Type} (c : Code) (st : St) (k : Kont α) : Option α := runCode E 16 cp10 noE c st k
noncomputable abbrev Q10 {α : Type} (c : Code) (k : Kont α) : Kont α := seqC E 16 cp10 noE c k
theorem law01_near_fz {α : Type} (x_ : Int) (k : St → Option α) : P10 2 C10 ⟨[(0, ri x_)], [], [], 5⟩ k = k ⟨[(2, ri (Int.tmod x_ (1152921504606846977 : Int)))], [], [], 5⟩ := by kernel_rfl
/-- quilt/quiltlaw01.near -/
def law01_near_q {β : Type} (x_ : Int) (K : Int → β) : β := (K (Int.tmod x_ (1152921504606846977 : Int)))
def law01_near (x_ : Int) : Int := law01_near_q x_ (fun y => y)
theorem law01_near_n {β : Type} (x_ : Int) (K : Int → β) : law01_near_q x_ K = K (law01_near x_) := rfl
theorem law01_near_is (x_ : Int) : stepS E cp10 noE 16 [ri x_] = (fun y : Int => some (ri y : R)) (law01_near x_) := by
  refine Eq.trans ?_ (law01_near_n x_ (fun y : Int => some (ri y : R)))
  refine (stepG_is (nt := 5) (regs := [(0, ri x_)]) (by kernel_rfl) (by kernel_rfl)).trans ?_
  unfold law01_near_q
  refine (pre (n := 2) (c' := C10.r.r) (by kernel_rfl) (by kernel_rfl) (law01_near_fz x_ _)).trans ?_
  refine (ret_eq (by kernel_rfl)).trans ?_
  kernel_rfl
theorem law01_near_c (x : denL [(.one (.g (.int .i64)))]) : stepS E cp10 noE 16 (encL [(.one (.g (.int .i64)))] x) = ((fun x => some (law01_near x.1)) x).bind fun y => some (Po.enc (.one (.one (.g (.int .i64)))) ((fun y : Int => y) y)) := Eq.mp (by kernel_rfl) (law01_near_is x.1)
noncomputable def cp11 : CallP := withC cp10 16 [(.one (.g (.int .i64)))] (.one (.one (.g (.int .i64)))) (fun y : Int => y) (fun x => some (law01_near x.1))
theorem cp11_ok : PureOK E cp11 := withC_ok cp10_ok (stepS_ok eok cp10_ok noE_ok) fun x => con_of (enc := fun y => Po.enc (.one (.one (.g (.int .i64)))) ((fun y : Int => y) y)) (law01_near_c x)
noncomputable abbrev C11 : Code := codeOf E.P 6
noncomputable abbrev P11 {α : Type} (n : Nat) (c : Code) (st : St) (k : St → Option α) : Option α := preK E 6 cp11 noE n c st k
noncomputable abbrev R11 {α : Type} (c : Code) (st : St) (k : Kont α) : Option α := runCode E 6 cp11 noE c st k
noncomputable abbrev Q11 {α : Type} (c : Code) (k : Kont α) : Kont α := seqC E 6 cp11 noE c k
theorem law01_FixedShifts_r1 {α : Type} (x_ : Int) (shift : Int) (k : St → Option α) : P11 2 C11 ⟨[(0, ri x_), (1, ri shift)], [], [], 48⟩ k = Option.bind law01_shown fun y17 : Bool => k ⟨[(0, ri x_), (1, ri shift), (5, rb y17)], [], [], 48⟩ := by kernel_rfl
theorem law01_FixedShifts_f5 {α : Type} (x_ : Int) (shift : Int) (y17 : Bool) (k : St → Option α) : P11 3 C11.r.r ⟨[(0, ri x_), (1, ri shift), (5, rb y17)], [], [], 48⟩ k = k ⟨[(1, ri shift), (5, rb y17), (6, ri (law01_near x_)), (7, ri (min (max shift (0 : Int)) (31 : Int))), (8, ri (1 : Int))], [], [], 48⟩ := by kernel_rfl
theorem law01_FixedShifts_f6 {α : Type} (x_ : Int) (shift : Int) (y17 : Bool) (k : St → Option α) : P11 1 C11.r.r.r.r.r.l ⟨[(1, ri shift), (5, rb y17), (6, ri (law01_near x_)), (7, ri (min (max shift (0 : Int)) (31 : Int))), (8, ri (1 : Int))], [], [], 48⟩ k = k ⟨[(1, ri shift), (5, rb y17), (6, ri (law01_near x_)), (7, ri (min (max shift (0 : Int)) (31 : Int))), (8, ri (1 : Int)), (9, ri (0 : Int))], [], [], 48⟩ := by kernel_rfl
theorem law01_FixedShifts_fz {α : Type} (x_ : Int) (shift : Int) (y17 : Bool) (s22 : (Int × Int)) (k : St → Option α) : P11 1 (bodyOf (bodyOf C11.r.r.r.r.r.l.r)).l ⟨[(1, ri shift), (5, rb y17), (6, ri (law01_near x_)), (7, ri (min (max shift (0 : Int)) (31 : Int))), (8, ri s22.1), (9, ri s22.2)], [], [], 48⟩ k = k ⟨[(1, ri shift), (5, rb y17), (6, ri (law01_near x_)), (7, ri (min (max shift (0 : Int)) (31 : Int))), (8, ri s22.1), (9, ri s22.2), (18, rb (decide (s22.2 < (min (max shift (0 : Int)) (31 : Int)))))], [], [], 48⟩ := by kernel_rfl
theorem law01_FixedShifts_r8 {α : Type} (x_ : Int) (shift : Int) (y17 : Bool) (s22 : (Int × Int)) (k : Kont α) : R11 (bodyOf (bodyOf (bodyOf C11.r.r.r.r.r.l.r)).r.l) ⟨[(1, ri shift), (5, rb y17), (6, ri (law01_near x_)), (7, ri (min (max shift (0 : Int)) (31 : Int))), (8, ri s22.1), (9, ri s22.2)], [], [], 48⟩ k = k .normal ⟨[(1, ri shift), (5, rb y17), (6, ri (law01_near x_)), (7, ri (min (max shift (0 : Int)) (31 : Int))), (8, ri (IntKind.wrap .i64 (s22.1 * (2 : Int)))), (9, ri s22.2)], [], [], 48⟩ := by kernel_rfl
theorem law01_FixedShifts_r7 {α : Type} (x_ : Int) (shift : Int) (y17 : Bool) (s22 : (Int × Int)) (k : Kont α) : R11 (bodyOf (bodyOf C11.r.r.r.r.r.l.r)).r.r ⟨[(1, ri shift), (5, rb y17), (6, ri (law01_near x_)), (7, ri (min (max shift (0 : Int)) (31 : Int))), (8, ri (IntKind.wrap .i64 (s22.1 * (2 : Int)))), (9, ri s22.2)], [], [], 48⟩ k = k .normal ⟨[(1, ri shift), (5, rb y17), (6, ri (law01_near x_)), (7, ri (min (max shift (0 : Int)) (31 : Int))), (8, ri (IntKind.wrap .i64 (s22.1 * (2 : Int)))), (9, ri (IntKind.wrap .i64 (s22.2 + (1 : Int))))], [], [], 48⟩ := by kernel_rfl
def law01_FixedShifts_l6_q {β : Type} (shift : Int) (s22 : (Int × Int)) (K0 : (Int × Int) → Option β) (K1 : (Int × Int) → Option β) : Option β := (bif (decide (s22.2 < (min (max shift (0 : Int)) (31 : Int)))) then (K0 ((IntKind.wrap .i64 (s22.1 * (2 : Int))), (IntKind.wrap .i64 (s22.2 + (1 : Int))))) else (K1 s22))
def law01_FixedShifts_l6_p (shift : Int) (s22 : (Int × Int)) : Option ((Int × Int) ⊕ ((Int × Int))) := law01_FixedShifts_l6_q shift s22 (fun y => some (Sum.inl y)) (fun y => some (Sum.inr y))
theorem law01_FixedShifts_l6_n {β : Type} (shift : Int) (s22 : (Int × Int)) (K0 : (Int × Int) → Option β) (K1 : (Int × Int) → Option β) : law01_FixedShifts_l6_q shift s22 K0 K1 = (law01_FixedShifts_l6_p shift s22).bind (either K0 K1) := (bif_b e2_0 e2_1)
theorem law01_FixedShifts_l6_b {α : Type} (x_ : Int) (shift : Int) (y17 : Bool) (s22 : (Int × Int)) (k : Kont α) : R11 (bodyOf (bodyOf C11.r.r.r.r.r.l.r)) ⟨[(1, ri shift), (5, rb y17), (6, ri (law01_near x_)), (7, ri (min (max shift (0 : Int)) (31 : Int))), (8, ri s22.1), (9, ri s22.2)], [], [], 48⟩ (loopKont 0 k) = Option.bind (law01_FixedShifts_l6_p shift s22) (either (fun y : (Int × Int) => k .normal ⟨[(1, ri shift), (5, rb y17), (6, ri (law01_near x_)), (7, ri (min (max shift (0 : Int)) (31 : Int))), (8, ri y.1), (9, ri y.2)], [], [], 48⟩) (fun y23 : (Int × Int) => k (.exit 0) ⟨[(1, ri shift), (5, rb y17), (6, ri (law01_near x_)), (7, ri (min (max shift (0 : Int)) (31 : Int))), (8, ri y23.1), (9, ri y23.2)], [], [], 48⟩)) := by
  refine Eq.trans ?_ (law01_FixedShifts_l6_n shift s22 _ _)
  unfold law01_FixedShifts_l6_q
  refine (seq_push (by kernel_rfl)).trans ?_
  refine (pre (n := 1) (c' := (bodyOf (bodyOf C11.r.r.r.r.r.l.r)).l.r) (by kernel_rfl) (by kernel_rfl) (law01_FixedShifts_fz x_ shift y17 s22 _)).trans ?_
  refine (cond_eq (b := (decide (s22.2 < (min (max shift (0 : Int)) (31 : Int))))) (st' := ⟨[(1, ri shift), (5, rb y17), (6, ri (law01_near x_)), (7, ri (min (max shift (0 : Int)) (31 : Int))), (8, ri s22.1), (9, ri s22.2)], [], [], 48⟩) (by kernel_rfl) (by kernel_rfl) (by kernel_rfl)).trans (bif_g ?_ ?_)
  · refine (skip_eq (by kernel_rfl)).trans ?_
    refine (seqC_normal (st' := ⟨[(1, ri shift), (5, rb y17), (6, ri (law01_near x_)), (7, ri (min (max shift (0 : Int)) (31 : Int))), (8, ri s22.1), (9, ri s22.2)], [], [], 48⟩) (by kernel_rfl)).trans ?_
    refine (seq_push (by kernel_rfl)).trans ?_
    refine (block_push (id := 1) (by kernel_rfl)).trans ?_
    refine (law01_FixedShifts_r8 x_ shift y17 s22 _).trans ?_
    refine block_normal.trans ?_
    refine (seqC_normal (st' := ⟨[(1, ri shift), (5, rb y17), (6, ri (law01_near x_)), (7, ri (min (max shift (0 : Int)) (31 : Int))), (8, ri (IntKind.wrap .i64 (s22.1 * (2 : Int)))), (9, ri s22.2)], [], [], 48⟩) (by kernel_rfl)).trans ?_
    refine (law01_FixedShifts_r7 x_ shift y17 s22 _).trans ?_
    kernel_rfl
  · refine (exit_eq (j := 0) (by kernel_rfl)).trans ?_
    refine seqC_exit.trans ?_
    kernel_rfl
theorem law01_FixedShifts_l6 {α : Type} (x_ : Int) (shift : Int) (y17 : Bool) (k : Kont α) : R11 (bodyOf C11.r.r.r.r.r.l.r) ⟨[(1, ri shift), (5, rb y17), (6, ri (law01_near x_)), (7, ri (min (max shift (0 : Int)) (31 : Int))), (8, ri (1 : Int)), (9, ri (0 : Int))], [], [], 48⟩ k = Option.bind (iterN (law01_FixedShifts_l6_p shift) LL ((1 : Int), (0 : Int))) (fun y23 : (Int × Int) => k (.exit 0) ⟨[(1, ri shift), (5, rb y17), (6, ri (law01_near x_)), (7, ri (min (max shift (0 : Int)) (31 : Int))), (8, ri y23.1), (9, ri y23.2)], [], [], 48⟩) :=
  Eq.trans (by kernel_rfl) (loop_iter1 (S := fun s22 : (Int × Int) => ⟨[(1, ri shift), (5, rb y17), (6, ri (law01_near x_)), (7, ri (min (max shift (0 : Int)) (31 : Int))), (8, ri s22.1), (9, ri s22.2)], [], [], 48⟩) (Y1 := fun y23 : (Int × Int) => ((.exit 0), ⟨[(1, ri shift), (5, rb y17), (6, ri (law01_near x_)), (7, ri (min (max shift (0 : Int)) (31 : Int))), (8, ri y23.1), (9, ri y23.2)], [], [], 48⟩)) (fun s k => law01_FixedShifts_l6_b x_ shift y17 s k) (fun z => rfl) LL ((1 : Int), (0 : Int)))
def law01_FixedShifts_r9_q {β : Type} (x_ : Int) (shift : Int) (y17 : Bool) (y23 : (Int × Int)) (K : Bool → Option β) : Option β := (bif y17 then (Option.bind (fixed_Shift (law01_near x_) shift) (fun y24 : Int => (Option.bind (fixed_Div (law01_near x_) y23.1) (fun y25 : Int => (bif (y24 == y25) then (Option.bind (fixed_Shift (law01_near x_) (0 : Int)) (fun y26 : Int => (bif (y26 == (law01_near x_)) then (Option.bind (fixed_Shift (law01_near x_) shift) (fun y27 : Int => (Option.bind (fixed_Shift (law01_near x_) (min (max shift (0 : Int)) (31 : Int))) (fun y28 : Int => (K (y27 == y28)))))) else (K false)))) else (K false)))))) else (K false))
def law01_FixedShifts_r9_p (x_ : Int) (shift : Int) (y17 : Bool) (y23 : (Int × Int)) : Option (Bool) := law01_FixedShifts_r9_q x_ shift y17 y23 some
theorem law01_FixedShifts_r9_n {β : Type} (x_ : Int) (shift : Int) (y17 : Bool) (y23 : (Int × Int)) (K : Bool → Option β) : law01_FixedShifts_r9_q x_ shift y17 y23 K = (law01_FixedShifts_r9_p x_ shift y17 y23).bind K := (bif_b (bind_b fun y24 => (bind_b fun y25 => (bif_b (bind_b fun y26 => (bif_b (bind_b fun y27 => (bind_b fun y28 => some_b)) some_b)) some_b))) some_b)
theorem law01_FixedShifts_r9 {α : Type} (x_ : Int) (shift : Int) (y17 : Bool) (y23 : (Int × Int)) (k : St → Option α) : P11 1 C11.r.r.r.r.r.r ⟨[(1, ri shift), (5, rb y17), (6, ri (law01_near x_)), (7, ri (min (max shift (0 : Int)) (31 : Int))), (8, ri y23.1)], [], [], 48⟩ k = Option.bind (law01_FixedShifts_r9_p x_ shift y17 y23) (fun y29 : Bool => k ⟨[(4, rb y29)], [], [], 48⟩) := Eq.trans (by kernel_rfl) (law01_FixedShifts_r9_n x_ shift y17 y23 _)
/-- quilt/quiltlaw01.FixedShifts -/
def law01_FixedShifts_q {β : Type} (x_ : Int) (shift : Int) (K : Bool → Option β) : Option β := (Option.bind law01_shown (fun y17 : Bool => (Option.bind (iterN (law01_FixedShifts_l6_p shift) LL ((1 : Int), (0 : Int))) (fun y23 : (Int × Int) => (Option.bind (law01_FixedShifts_r9_p x_ shift y17 y23) (fun y29 : Bool => (K y29)))))))
def law01_FixedShifts (x_ : Int) (shift : Int) : Option Bool := law01_FixedShifts_q x_ shift some
theorem law01_FixedShifts_n {β : Type} (x_ : Int) (shift : Int) (K : Bool → Option β) : law01_FixedShifts_q x_ shift K = (law01_FixedShifts x_ shift).bind K := (bind_b fun y17 => (bind_b fun y23 => (bind_b fun y29 => some_b)))
theorem law01_FixedShifts_is (x_ : Int) (shift : Int) : stepS E cp11 noE 6 [ri x_, ri shift] = Option.bind (law01_FixedShifts x_ shift) (fun y : Bool => some (rb y : R)) := by
  refine Eq.trans ?_ (law01_FixedShifts_n x_ shift (fun y : Bool => some (rb y : R)))
  refine (stepG_is (nt := 48) (regs := [(0, ri x_), (1, ri shift)]) (by kernel_rfl) (by kernel_rfl)).trans ?_
  unfold law01_FixedShifts_q
  refine (pre (n := 2) (c' := C11.r.r) (by kernel_rfl) (by kernel_rfl) (law01_FixedShifts_r1 x_ shift _)).trans (bind_g fun y17 => ?_)
  refine (pre (n := 3) (c' := C11.r.r.r.r.r) (by kernel_rfl) (by kernel_rfl) (law01_FixedShifts_f5 x_ shift y17 _)).trans ?_
  refine (seq_push (by kernel_rfl)).trans ?_
  refine (pre (n := 1) (c' := C11.r.r.r.r.r.l.r) (by kernel_rfl) (by kernel_rfl) (law01_FixedShifts_f6 x_ shift y17 _)).trans ?_
  refine (block_push (id := 0) (by kernel_rfl)).trans ?_
  refine (law01_FixedShifts_l6 x_ shift y17 _).trans (bind_g fun y23 => ?_)
  refine block_same.trans ?_
  refine (seqC_normal (st' := ⟨[(1, ri shift), (5, rb y17), (6, ri (law01_near x_)), (7, ri (min (max shift (0 : Int)) (31 : Int))), (8, ri y23.1)], [], [], 48⟩) (by kernel_rfl)).trans ?_
  refine (pre (n := 1) (c' := C11.r.r.r.r.r.r.r) (by kernel_rfl) (by kernel_rfl) (law01_FixedShifts_r9 x_ shift y17 y23 _)).trans (bind_g fun y29 => ?_)
  refine (ret_eq (by kernel_rfl)).trans ?_
  kernel_rfl
theorem law01_FixedShifts_c (x : denL [(.one (.g (.int .i64))), (.one (.g (.int .i64)))]) : stepS E cp11 noE 6 (encL [(.one (.g (.int .i64))), (.one (.g (.int .i64)))] x) = ((fun x => law01_FixedShifts x.1 x.2.1) x).bind fun y => some (Po.enc (.one (.one (.g .bool))) ((fun y : Bool => y) y)) := Eq.mp (by kernel_rfl) (law01_FixedShifts_is x.1 x.2.1)
noncomputable def cp12 : CallP := withC cp11 6 [(.one (.g (.int .i64))), (.one (.g (.int .i64)))] (.one (.one (.g .bool))) (fun y : Bool => y) (fun x => law01_FixedShifts x.1 x.2.1)
theorem cp12_ok : PureOK E cp12 := withC_ok cp11_ok (stepS_ok eok cp11_ok noE_ok) fun x => con_of (enc := fun y => Po.enc (.one (.one (.g .bool))) ((fun y : Bool => y) y)) (law01_FixedShifts_c x)
theorem law01_FixedShifts_walk (x_ : Int) (shift : Int) (ht : law01_FixedShifts x_ shift = some true) (w : World) (vs : List Value) (hrd : ∀ γ : Gh, Free γ → rdRs w γ [argR false (.one (.int .i64)) x_, argR false (.one (.int .i64)) shift] vs) : Calls E.P 6 vs.toArray w fun e w' => e = .returned (.bool true) ∧ Below w.heap.size w w' :=
  walk_true (E := E) (stepS_ok eok cp11_ok noE_ok) (show stepS E cp11 noE 6 [ri x_, ri shift] = some (.one (.g .bool true)) from by rw [law01_FixedShifts_is, ht]; rfl) w fun γ hγ => Eq.mp (by kernel_rfl) (hrd γ hγ)
noncomputable abbrev C12 : Code := codeOf E.P 19
noncomputable abbrev P12 {α : Type} (n : Nat) (c : Code) (st : St) (k : St → Option α) : Option α := preK E 19 cp12 noE n c st k
noncomputable abbrev R12 {α : Type} (c : Code) (st : St) (k : Kont α) : Option α := runCode E 19 cp12 noE c st k
noncomputable abbrev Q12 {α : Type} (c : Code) (k : Kont α) : Kont α := seqC E 19 cp12 noE c k
theorem halo_Tiles_f1 {α : Type} (h_ : Int) (rows : Int) (k : St → Option α) : P12 1 C12 ⟨[(0, ri h_), (1, ri rows)], [], [], 34⟩ k = k ⟨[(0, ri h_), (1, ri rows)], [], [], 34⟩ := by kernel_rfl
def halo_Tiles_r1_q {β : Type} (h_ : Int) (rows : Int) (K : Bool → β) : β := (bif (decide ((min h_ rows) < (1 : Int))) then (K true) else (K (decide ((max h_ rows) > (16 : Int)))))
def halo_Tiles_r1_p (h_ : Int) (rows : Int) : Bool := halo_Tiles_r1_q h_ rows (fun y => y)
theorem halo_Tiles_r1_n {β : Type} (h_ : Int) (rows : Int) (K : Bool → β) : halo_Tiles_r1_q h_ rows K = K (halo_Tiles_r1_p h_ rows) := (bif_k K rfl rfl)
theorem halo_Tiles_r1 {α : Type} (h_ : Int) (rows : Int) (k : St → Option α) : P12 1 C12.r.l ⟨[(0, ri h_), (1, ri rows)], [], [], 34⟩ k = k ⟨[(0, ri h_), (1, ri rows), (16, rb (halo_Tiles_r1_p h_ rows))], [], [], 34⟩ := Eq.trans (by kernel_rfl) (halo_Tiles_r1_n h_ rows (fun y31 : Bool => k ⟨[(0, ri h_), (1, ri rows), (16, rb y31)], [], [], 34⟩))
theorem halo_Tiles_fz {α : Type} (h_ : Int) (rows : Int) (k : St → Option α) : P12 1 C12.r.l.r.t ⟨[(0, ri h_), (1, ri rows)], [], [], 34⟩ k = k ⟨[(4, .one (.ow tsI2 [] (.v 4)))], [], [], 34⟩ := by kernel_rfl
theorem halo_Tiles_f4 {α : Type} (h_ : Int) (rows : Int) (k : St → Option α) : P12 1 C12.r.r ⟨[(0, ri h_), (1, ri rows)], [], [], 34⟩ k = k ⟨[(0, ri h_), (1, ri rows), (5, .one (.ow tsI2 [] (.v 5)))], [], [], 34⟩ := by kernel_rfl
theorem halo_Tiles_f5 {α : Type} (h_ : Int) (rows : Int) (k : St → Option α) : P12 1 C12.r.r.r.l ⟨[(0, ri h_), (1, ri rows), (5, .one (.ow tsI2 [] (.v 5)))], [], [], 34⟩ k = k ⟨[(0, ri h_), (1, ri rows), (5, .one (.ow tsI2 [] (.v 5))), (6, ri (0 : Int))], [], [], 34⟩ := by kernel_rfl
theorem halo_Tiles_fzx1 {α : Type} (h_ : Int) (rows : Int) (s38 : ((List I2) × Int)) (k : St → Option α) : P12 1 (bodyOf (bodyOf C12.r.r.r.l.r)).l ⟨[(0, ri h_), (1, ri rows), (5, .one (.ow tsI2 s38.1 (.v 5))), (6, ri s38.2)], [], [], 34⟩ k = k ⟨[(0, ri h_), (1, ri rows), (5, .one (.ow tsI2 s38.1 (.v 5))), (6, ri s38.2), (19, rb (decide (s38.2 < h_)))], [], [], 34⟩ := by kernel_rfl
def halo_Tiles_r7_q {β : Type} (h_ : Int) (rows : Int) (s38 : ((List I2) × Int)) (K : Unit → Option β) : Option β := (bif (decide (s38.1.length + ([(s38.2, (min rows (IntKind.wrap .i64 (h_ - s38.2))))] : List I2).length ≤ maxL)) then (K ()) else none)
def halo_Tiles_r7_p (h_ : Int) (rows : Int) (s38 : ((List I2) × Int)) : Option (Unit) := halo_Tiles_r7_q h_ rows s38 some
theorem halo_Tiles_r7_n {β : Type} (h_ : Int) (rows : Int) (s38 : ((List I2) × Int)) (K : Unit → Option β) : halo_Tiles_r7_q h_ rows s38 K = (halo_Tiles_r7_p h_ rows s38).bind K := (bif_b some_b none_b)
theorem halo_Tiles_r7 {α : Type} (h_ : Int) (rows : Int) (s38 : ((List I2) × Int)) (k : Kont α) : R12 (bodyOf (bodyOf (bodyOf C12.r.r.r.l.r)).r.l) ⟨[(0, ri h_), (1, ri rows), (5, .one (.ow tsI2 s38.1 (.v 5))), (6, ri s38.2)], [], [], 34⟩ k = Option.bind (halo_Tiles_r7_p h_ rows s38) (fun y40 : Unit => k .normal ⟨[(0, ri h_), (1, ri rows), (5, .one (.ow tsI2 (s38.1 ++ [(s38.2, (min rows (IntKind.wrap .i64 (h_ - s38.2))))]) (.v 5))), (6, ri s38.2)], [], [], 34⟩) := Eq.trans (by kernel_rfl) (halo_Tiles_r7_n h_ rows s38 _)
theorem halo_Tiles_r6 {α : Type} (h_ : Int) (rows : Int) (s38 : ((List I2) × Int)) (k : Kont α) : R12 (bodyOf (bodyOf C12.r.r.r.l.r)).r.r ⟨[(0, ri h_), (1, ri rows), (5, .one (.ow tsI2 (s38.1 ++ [(s38.2, (min rows (IntKind.wrap .i64 (h_ - s38.2))))]) (.v 5))), (6, ri s38.2)], [], [], 34⟩ k = k .normal ⟨[(0, ri h_), (1, ri rows), (5, .one (.ow tsI2 (s38.1 ++ [(s38.2, (min rows (IntKind.wrap .i64 (h_ - s38.2))))]) (.v 5))), (6, ri (IntKind.wrap .i64 (s38.2 + rows)))], [], [], 34⟩ := by kernel_rfl
def halo_Tiles_l5_q {β : Type} (h_ : Int) (rows : Int) (s38 : ((List I2) × Int)) (K0 : ((List I2) × Int) → Option β) (K1 : ((List I2) × Int) → Option β) : Option β := (bif (decide (s38.2 < h_)) then (Option.bind (halo_Tiles_r7_p h_ rows s38) (fun y40 : Unit => (K0 ((s38.1 ++ [(s38.2, (min rows (IntKind.wrap .i64 (h_ - s38.2))))]), (IntKind.wrap .i64 (s38.2 + rows)))))) else (K1 s38))
def halo_Tiles_l5_p (h_ : Int) (rows : Int) (s38 : ((List I2) × Int)) : Option (((List I2) × Int) ⊕ (((List I2) × Int))) := halo_Tiles_l5_q h_ rows s38 (fun y => some (Sum.inl y)) (fun y => some (Sum.inr y))
theorem halo_Tiles_l5_n {β : Type} (h_ : Int) (rows : Int) (s38 : ((List I2) × Int)) (K0 : ((List I2) × Int) → Option β) (K1 : ((List I2) × Int) → Option β) : halo_Tiles_l5_q h_ rows s38 K0 K1 = (halo_Tiles_l5_p h_ rows s38).bind (either K0 K1) := (bif_b (bind_b fun y40 => e2_0) e2_1)
theorem halo_Tiles_l5_b {α : Type} (h_ : Int) (rows : Int) (s38 : ((List I2) × Int)) (k : Kont α) : R12 (bodyOf (bodyOf C12.r.r.r.l.r)) ⟨[(0, ri h_), (1, ri rows), (5, .one (.ow tsI2 s38.1 (.v 5))), (6, ri s38.2)], [], [], 34⟩ (loopKont 0 k) = Option.bind (halo_Tiles_l5_p h_ rows s38) (either (fun y : ((List I2) × Int) => k .normal ⟨[(0, ri h_), (1, ri rows), (5, .one (.ow tsI2 y.1 (.v 5))), (6, ri y.2)], [], [], 34⟩) (fun y41 : ((List I2) × Int) => k (.exit 0) ⟨[(0, ri h_), (1, ri rows), (5, .one (.ow tsI2 y41.1 (.v 5))), (6, ri y41.2)], [], [], 34⟩)) := by
  refine Eq.trans ?_ (halo_Tiles_l5_n h_ rows s38 _ _)
  unfold halo_Tiles_l5_q
  refine (seq_push (by kernel_rfl)).trans ?_
  refine (pre (n := 1) (c' := (bodyOf (bodyOf C12.r.r.r.l.r)).l.r) (by kernel_rfl) (by kernel_rfl) (halo_Tiles_fzx1 h_ rows s38 _)).trans ?_
  refine (cond_eq (b := (decide (s38.2 < h_))) (st' := ⟨[(0, ri h_), (1, ri rows), (5, .one (.ow tsI2 s38.1 (.v 5))), (6, ri s38.2)], [], [], 34⟩) (by kernel_rfl) (by kernel_rfl) (by kernel_rfl)).trans (bif_g ?_ ?_)
  · refine (skip_eq (by kernel_rfl)).trans ?_
    refine (seqC_normal (st' := ⟨[(0, ri h_), (1, ri rows), (5, .one (.ow tsI2 s38.1 (.v 5))), (6, ri s38.2)], [], [], 34⟩) (by kernel_rfl)).trans ?_
    refine (seq_push (by kernel_rfl)).trans ?_
    refine (block_push (id := 1) (by kernel_rfl)).trans ?_
    refine (halo_Tiles_r7 h_ rows s38 _).trans (bind_g fun y40 => ?_)
    refine block_normal.trans ?_
    refine (seqC_normal (st' := ⟨[(0, ri h_), (1, ri rows), (5, .one (.ow tsI2 (s38.1 ++ [(s38.2, (min rows (IntKind.wrap .i64 (h_ - s38.2))))]) (.v 5))), (6, ri s38.2)], [], [], 34⟩) (by kernel_rfl)).trans ?_
    refine (halo_Tiles_r6 h_ rows s38 _).trans ?_
    kernel_rfl
  · refine (exit_eq (j := 0) (by kernel_rfl)).trans ?_
    refine seqC_exit.trans ?_
    kernel_rfl
theorem halo_Tiles_l5 {α : Type} (h_ : Int) (rows : Int) (k : Kont α) : R12 (bodyOf C12.r.r.r.l.r) ⟨[(0, ri h_), (1, ri rows), (5, .one (.ow tsI2 [] (.v 5))), (6, ri (0 : Int))], [], [], 34⟩ k = Option.bind (iterN (halo_Tiles_l5_p h_ rows) LL ([], (0 : Int))) (fun y41 : ((List I2) × Int) => k (.exit 0) ⟨[(0, ri h_), (1, ri rows), (5, .one (.ow tsI2 y41.1 (.v 5))), (6, ri y41.2)], [], [], 34⟩) :=
  Eq.trans (by kernel_rfl) (loop_iter1 (S := fun s38 : ((List I2) × Int) => ⟨[(0, ri h_), (1, ri rows), (5, .one (.ow tsI2 s38.1 (.v 5))), (6, ri s38.2)], [], [], 34⟩) (Y1 := fun y41 : ((List I2) × Int) => ((.exit 0), ⟨[(0, ri h_), (1, ri rows), (5, .one (.ow tsI2 y41.1 (.v 5))), (6, ri y41.2)], [], [], 34⟩)) (fun s k => halo_Tiles_l5_b h_ rows s k) (fun z => rfl) LL ([], (0 : Int)))
theorem halo_Tiles_fzx2 {α : Type} (y41 : ((List I2) × Int)) (k : St → Option α) : P12 1 C12.r.r.r.r ⟨[(5, .one (.ow tsI2 y41.1 (.v 5)))], [], [], 34⟩ k = k ⟨[(4, .one (.ow tsI2 y41.1 (.v 5)))], [], [], 34⟩ := by kernel_rfl
/-- quilt/halo.Tiles -/
def halo_Tiles_q {β : Type} (h_ : Int) (rows : Int) (K : (List I2) → Option β) : Option β := (bif (halo_Tiles_r1_p h_ rows) then (K []) else (Option.bind (iterN (halo_Tiles_l5_p h_ rows) LL ([], (0 : Int))) (fun y41 : ((List I2) × Int) => (K y41.1))))
def halo_Tiles (h_ : Int) (rows : Int) : Option (List I2) := halo_Tiles_q h_ rows some
theorem halo_Tiles_n {β : Type} (h_ : Int) (rows : Int) (K : (List I2) → Option β) : halo_Tiles_q h_ rows K = (halo_Tiles h_ rows).bind K := (bif_b some_b (bind_b fun y41 => some_b))
theorem halo_Tiles_is (h_ : Int) (rows : Int) : stepO E cp12 noE 19 [ri h_, ri rows] = Option.bind (halo_Tiles h_ rows) (fun y : (List I2) => some (.one (.ow tsI2 y (.s 0)) : R)) := by
  refine Eq.trans ?_ (halo_Tiles_n h_ rows (fun y : (List I2) => some (.one (.ow tsI2 y (.s 0)) : R)))
  refine (stepG_is (nt := 34) (regs := [(0, ri h_), (1, ri rows)]) (by kernel_rfl) (by kernel_rfl)).trans ?_
  unfold halo_Tiles_q
  refine (pre (n := 1) (c' := C12.r) (by kernel_rfl) (by kernel_rfl) (halo_Tiles_f1 h_ rows _)).trans ?_
  refine (seq_push (by kernel_rfl)).trans ?_
  refine (pre (n := 1) (c' := C12.r.l.r) (by kernel_rfl) (by kernel_rfl) (halo_Tiles_r1 h_ rows _)).trans ?_
  refine (cond_eq (b := (halo_Tiles_r1_p h_ rows)) (st' := ⟨[(0, ri h_), (1, ri rows)], [], [], 34⟩) (by kernel_rfl) (by kernel_rfl) (by kernel_rfl)).trans (bif_g ?_ ?_)
  · refine (pre (n := 1) (c' := C12.r.l.r.t.r) (by kernel_rfl) (by kernel_rfl) (halo_Tiles_fz h_ rows _)).trans ?_
    refine (ret_eq (by kernel_rfl)).trans ?_
    refine seqC_ret.trans ?_
    kernel_rfl
  · refine (skip_eq (by kernel_rfl)).trans ?_
    refine (seqC_normal (st' := ⟨[(0, ri h_), (1, ri rows)], [], [], 34⟩) (by kernel_rfl)).trans ?_
    refine (pre (n := 1) (c' := C12.r.r.r) (by kernel_rfl) (by kernel_rfl) (halo_Tiles_f4 h_ rows _)).trans ?_
    refine (seq_push (by kernel_rfl)).trans ?_
    refine (pre (n := 1) (c' := C12.r.r.r.l.r) (by kernel_rfl) (by kernel_rfl) (halo_Tiles_f5 h_ rows _)).trans ?_
    refine (block_push (id := 0) (by kernel_rfl)).trans ?_
    refine (halo_Tiles_l5 h_ rows _).trans (bind_g fun y41 => ?_)
    refine block_same.trans ?_
    refine (seqC_normal (st' := ⟨[(5, .one (.ow tsI2 y41.1 (.v 5)))], [], [], 34⟩) (by kernel_rfl)).trans ?_
    refine (pre (n := 1) (c' := C12.r.r.r.r.r) (by kernel_rfl) (by kernel_rfl) (halo_Tiles_fzx2 y41 _)).trans ?_
    refine (ret_eq (by kernel_rfl)).trans ?_
    kernel_rfl
theorem halo_Tiles_c (x : denL [(.one (.g (.int .i64))), (.one (.g (.int .i64)))]) : stepO E cp12 noE 19 (encL [(.one (.g (.int .i64))), (.one (.g (.int .i64)))] x) = ((fun x => halo_Tiles x.1 x.2.1) x).bind fun y => some (Po.enc (.one (.one (.ow tsI2))) ((fun y : (List I2) => y) y)) := Eq.mp (by kernel_rfl) (halo_Tiles_is x.1 x.2.1)
noncomputable def cp13 : CallP := withC cp12 19 [(.one (.g (.int .i64))), (.one (.g (.int .i64)))] (.one (.one (.ow tsI2))) (fun y : (List I2) => y) (fun x => halo_Tiles x.1 x.2.1)
theorem cp13_ok : PureOK E cp13 := withC_ok cp12_ok (stepO_ok eok cp12_ok noE_ok) fun x => con_of (enc := fun y => Po.enc (.one (.one (.ow tsI2))) ((fun y : (List I2) => y) y)) (halo_Tiles_c x)
noncomputable abbrev C13 : Code := codeOf E.P 26
noncomputable abbrev P13 {α : Type} (n : Nat) (c : Code) (st : St) (k : St → Option α) : Option α := preK E 26 cp13 noE n c st k
noncomputable abbrev R13 {α : Type} (c : Code) (st : St) (k : Kont α) : Option α := runCode E 26 cp13 noE c st k
noncomputable abbrev Q13 {α : Type} (c : Code) (k : Kont α) : Kont α := seqC E 26 cp13 noE c k
theorem slices_Indexint_int_f1 {α : Type} (s_ : (List Int)) (v_ : Int) (k : St → Option α) : P13 1 C13 ⟨[(0, rl (.one (.int .i64)) s_), (1, ri v_)], [], [], 19⟩ k = k ⟨[(0, rl (.one (.int .i64)) s_), (1, ri v_)], [], [], 19⟩ := by kernel_rfl
theorem slices_Indexint_int_f2 {α : Type} (s_ : (List Int)) (v_ : Int) (k : St → Option α) : P13 1 C13.r.l ⟨[(0, rl (.one (.int .i64)) s_), (1, ri v_)], [], [], 19⟩ k = k ⟨[(0, rl (.one (.int .i64)) s_), (1, ri v_), (7, ri (s_.length : Int)), (8, ri (0 : Int))], [], [], 19⟩ := by kernel_rfl
theorem slices_Indexint_int_fz {α : Type} (s_ : (List Int)) (v_ : Int) (s54 : Int) (k : St → Option α) : P13 1 (bodyOf (bodyOf C13.r.l.r)) ⟨[(0, rl (.one (.int .i64)) s_), (1, ri v_), (7, ri (s_.length : Int)), (8, ri s54)], [], [], 19⟩ k = k ⟨[(0, rl (.one (.int .i64)) s_), (1, ri v_), (7, ri (s_.length : Int)), (8, ri s54), (9, rb (decide (s54 < (s_.length : Int))))], [], [], 19⟩ := by kernel_rfl
def slices_Indexint_int_r4_q {β : Type} (s_ : (List Int)) (s54 : Int) (K : Unit → Option β) : Option β := (bif (decide ((0 : Int) ≤ s54)) then (bif (decide (s54 < (s_.length : Int))) then (K ()) else none) else none)
def slices_Indexint_int_r4_p (s_ : (List Int)) (s54 : Int) : Option (Unit) := slices_Indexint_int_r4_q s_ s54 some
theorem slices_Indexint_int_r4_n {β : Type} (s_ : (List Int)) (s54 : Int) (K : Unit → Option β) : slices_Indexint_int_r4_q s_ s54 K = (slices_Indexint_int_r4_p s_ s54).bind K := (bif_b (bif_b some_b none_b) none_b)
theorem slices_Indexint_int_r4 {α : Type} (s_ : (List Int)) (v_ : Int) (s54 : Int) (k : St → Option α) : P13 2 (bodyOf (bodyOf (bodyOf C13.r.l.r)).r.r.l) ⟨[(0, rl (.one (.int .i64)) s_), (1, ri v_), (7, ri (s_.length : Int)), (8, ri s54)], [], [], 19⟩ k = Option.bind (slices_Indexint_int_r4_p s_ s54) (fun y56 : Unit => k ⟨[(0, rl (.one (.int .i64)) s_), (1, ri v_), (5, ri s54), (7, ri (s_.length : Int)), (8, ri s54), (16, rb (v_ == (gt s_ s54 (0 : Int))))], [], [], 19⟩) := Eq.trans (by kernel_rfl) (slices_Indexint_int_r4_n s_ s54 _)
theorem slices_Indexint_int_fzx1 {α : Type} (s_ : (List Int)) (v_ : Int) (s54 : Int) (k : St → Option α) : P13 1 (bodyOf (bodyOf (bodyOf C13.r.l.r)).r.r.l).r.r.t ⟨[(0, rl (.one (.int .i64)) s_), (1, ri v_), (5, ri s54), (7, ri (s_.length : Int)), (8, ri s54)], [], [], 19⟩ k = k ⟨[(4, ri s54)], [], [], 19⟩ := by kernel_rfl
theorem slices_Indexint_int_r6 {α : Type} (s_ : (List Int)) (v_ : Int) (s54 : Int) (k : Kont α) : R13 (bodyOf (bodyOf C13.r.l.r)).r.r.r ⟨[(0, rl (.one (.int .i64)) s_), (1, ri v_), (7, ri (s_.length : Int)), (8, ri s54)], [], [], 19⟩ k = k .normal ⟨[(0, rl (.one (.int .i64)) s_), (1, ri v_), (7, ri (s_.length : Int)), (8, ri (IntKind.wrap .i64 (s54 + (1 : Int))))], [], [], 19⟩ := by kernel_rfl
def slices_Indexint_int_l2_q {β : Type} (s_ : (List Int)) (v_ : Int) (s54 : Int) (K0 : Int → Option β) (K1 : Int → Option β) (K2 : Int → Option β) : Option β := (bif (decide (s54 < (s_.length : Int))) then (Option.bind (slices_Indexint_int_r4_p s_ s54) (fun y56 : Unit => (bif (v_ == (gt s_ s54 (0 : Int))) then (K2 s54) else (K0 (IntKind.wrap .i64 (s54 + (1 : Int))))))) else (K1 s54))
def slices_Indexint_int_l2_p (s_ : (List Int)) (v_ : Int) (s54 : Int) : Option (Int ⊕ (Int ⊕ Int)) := slices_Indexint_int_l2_q s_ v_ s54 (fun y => some (Sum.inl y)) (fun y => some (Sum.inr (Sum.inl y))) (fun y => some (Sum.inr (Sum.inr y)))
theorem slices_Indexint_int_l2_n {β : Type} (s_ : (List Int)) (v_ : Int) (s54 : Int) (K0 : Int → Option β) (K1 : Int → Option β) (K2 : Int → Option β) : slices_Indexint_int_l2_q s_ v_ s54 K0 K1 K2 = (slices_Indexint_int_l2_p s_ v_ s54).bind (either K0 (either K1 K2)) := (bif_b (bind_b fun y56 => (bif_b e3_2 e3_0)) e3_1)
theorem slices_Indexint_int_l2_b {α : Type} (s_ : (List Int)) (v_ : Int) (s54 : Int) (k : Kont α) : R13 (bodyOf (bodyOf C13.r.l.r)) ⟨[(0, rl (.one (.int .i64)) s_), (1, ri v_), (7, ri (s_.length : Int)), (8, ri s54)], [], [], 19⟩ (loopKont 0 k) = Option.bind (slices_Indexint_int_l2_p s_ v_ s54) (either (fun y : Int => k .normal ⟨[(0, rl (.one (.int .i64)) s_), (1, ri v_), (7, ri (s_.length : Int)), (8, ri y)], [], [], 19⟩) (either (fun y57 : Int => k (.exit 0) ⟨[(0, rl (.one (.int .i64)) s_), (1, ri v_), (7, ri (s_.length : Int)), (8, ri y57)], [], [], 19⟩) (fun y58 : Int => k .ret ⟨[(4, ri y58)], [], [], 19⟩))) := by
  refine Eq.trans ?_ (slices_Indexint_int_l2_n s_ v_ s54 _ _ _)
  unfold slices_Indexint_int_l2_q
  refine (pre (n := 1) (c' := (bodyOf (bodyOf C13.r.l.r)).r) (by kernel_rfl) (by kernel_rfl) (slices_Indexint_int_fz s_ v_ s54 _)).trans ?_
  refine (seq_push (by kernel_rfl)).trans ?_
  refine (cond_eq (b := (decide (s54 < (s_.length : Int)))) (st' := ⟨[(0, rl (.one (.int .i64)) s_), (1, ri v_), (7, ri (s_.length : Int)), (8, ri s54)], [], [], 19⟩) (by kernel_rfl) (by kernel_rfl) (by kernel_rfl)).trans (bif_g ?_ ?_)
  · refine (skip_eq (by kernel_rfl)).trans ?_
    refine (seqC_normal (st' := ⟨[(0, rl (.one (.int .i64)) s_), (1, ri v_), (7, ri (s_.length : Int)), (8, ri s54)], [], [], 19⟩) (by kernel_rfl)).trans ?_
    refine (seq_push (by kernel_rfl)).trans ?_
    refine (block_push (id := 1) (by kernel_rfl)).trans ?_
    refine (pre (n := 2) (c' := (bodyOf (bodyOf (bodyOf C13.r.l.r)).r.r.l).r.r) (by kernel_rfl) (by kernel_rfl) (slices_Indexint_int_r4 s_ v_ s54 _)).trans (bind_g fun y56 => ?_)
    refine (cond_eq (b := (v_ == (gt s_ s54 (0 : Int)))) (st' := ⟨[(0, rl (.one (.int .i64)) s_), (1, ri v_), (5, ri s54), (7, ri (s_.length : Int)), (8, ri s54)], [], [], 19⟩) (by kernel_rfl) (by kernel_rfl) (by kernel_rfl)).trans (bif_g ?_ ?_)
    · refine (pre (n := 1) (c' := (bodyOf (bodyOf (bodyOf C13.r.l.r)).r.r.l).r.r.t.r) (by kernel_rfl) (by kernel_rfl) (slices_Indexint_int_fzx1 s_ v_ s54 _)).trans ?_
      refine (ret_eq (by kernel_rfl)).trans ?_
      refine block_ret.trans ?_
      refine seqC_ret.trans ?_
      kernel_rfl
    · refine (skip_eq (by kernel_rfl)).trans ?_
      refine block_normal.trans ?_
      refine (seqC_normal (st' := ⟨[(0, rl (.one (.int .i64)) s_), (1, ri v_), (7, ri (s_.length : Int)), (8, ri s54)], [], [], 19⟩) (by kernel_rfl)).trans ?_
      refine (slices_Indexint_int_r6 s_ v_ s54 _).trans ?_
      kernel_rfl
  · refine (exit_eq (j := 0) (by kernel_rfl)).trans ?_
    refine seqC_exit.trans ?_
    kernel_rfl
theorem slices_Indexint_int_l2 {α : Type} (s_ : (List Int)) (v_ : Int) (k : Kont α) : R13 (bodyOf C13.r.l.r) ⟨[(0, rl (.one (.int .i64)) s_), (1, ri v_), (7, ri (s_.length : Int)), (8, ri (0 : Int))], [], [], 19⟩ k = Option.bind (iterN (slices_Indexint_int_l2_p s_ v_) LL (0 : Int)) (either (fun y57 : Int => k (.exit 0) ⟨[(0, rl (.one (.int .i64)) s_), (1, ri v_), (7, ri (s_.length : Int)), (8, ri y57)], [], [], 19⟩) (fun y58 : Int => k .ret ⟨[(4, ri y58)], [], [], 19⟩)) :=
  Eq.trans (by kernel_rfl) (loop_iter2 (S := fun s54 : Int => ⟨[(0, rl (.one (.int .i64)) s_), (1, ri v_), (7, ri (s_.length : Int)), (8, ri s54)], [], [], 19⟩) (Y1 := fun y57 : Int => ((.exit 0), ⟨[(0, rl (.one (.int .i64)) s_), (1, ri v_), (7, ri (s_.length : Int)), (8, ri y57)], [], [], 19⟩)) (Y2 := fun y58 : Int => (.ret, ⟨[(4, ri y58)], [], [], 19⟩)) (fun s k => slices_Indexint_int_l2_b s_ v_ s k) (fun z => rfl) (fun z => rfl) LL (0 : Int))
theorem slices_Indexint_int_fzx2 {α : Type} (k : St → Option α) : P13 1 C13.r.r ⟨[], [], [], 19⟩ k = k ⟨[(4, ri (-1 : Int))], [], [], 19⟩ := by kernel_rfl
/-- slices.Index[[]int,int] -/
def slices_Indexint_int_q {β : Type} (s_ : (List Int)) (v_ : Int) (K : Int → Option β) : Option β := (Option.bind (iterN (slices_Indexint_int_l2_p s_ v_) LL (0 : Int)) (either (fun y57 : Int => (K (-1 : Int))) (fun y58 : Int => (K y58))))
def slices_Indexint_int (s_ : (List Int)) (v_ : Int) : Option Int := slices_Indexint_int_q s_ v_ some
theorem slices_Indexint_int_n {β : Type} (s_ : (List Int)) (v_ : Int) (K : Int → Option β) : slices_Indexint_int_q s_ v_ K = (slices_Indexint_int s_ v_).bind K := (bind_b (either_b (fun y57 => some_b) (fun y58 => some_b)))
theorem slices_Indexint_int_is (s_ : (List Int)) (v_ : Int) : stepS E cp13 noE 26 [rl (.one (.int .i64)) s_, ri v_] = Option.bind (slices_Indexint_int s_ v_) (fun y : Int => some (ri y : R)) := by
  refine Eq.trans ?_ (slices_Indexint_int_n s_ v_ (fun y : Int => some (ri y : R)))
  refine (stepG_is (nt := 19) (regs := [(0, rl (.one (.int .i64)) s_), (1, ri v_)]) (by kernel_rfl) (by kernel_rfl)).trans ?_
  unfold slices_Indexint_int_q
  refine (pre (n := 1) (c' := C13.r) (by kernel_rfl) (by kernel_rfl) (slices_Indexint_int_f1 s_ v_ _)).trans ?_
  refine (seq_push (by kernel_rfl)).trans ?_
  refine (pre (n := 1) (c' := C13.r.l.r) (by kernel_rfl) (by kernel_rfl) (slices_Indexint_int_f2 s_ v_ _)).trans ?_
  refine (block_push (id := 0) (by kernel_rfl)).trans ?_
  refine (slices_Indexint_int_l2 s_ v_ _).trans (bind_g (either_g (fun y57 => ?_) (fun y58 => ?_)))
  · refine block_same.trans ?_
    refine (seqC_normal (st' := ⟨[], [], [], 19⟩) (by kernel_rfl)).trans ?_
    refine (pre (n := 1) (c' := C13.r.r.r) (by kernel_rfl) (by kernel_rfl) (slices_Indexint_int_fzx2 _)).trans ?_
    refine (ret_eq (by kernel_rfl)).trans ?_
    kernel_rfl
  · refine block_ret.trans ?_
    refine seqC_ret.trans ?_
    kernel_rfl
theorem slices_Indexint_int_c (x : denL [(.one (.g (.sl (.one (.int .i64))))), (.one (.g (.int .i64)))]) : stepS E cp13 noE 26 (encL [(.one (.g (.sl (.one (.int .i64))))), (.one (.g (.int .i64)))] x) = ((fun x => slices_Indexint_int x.1 x.2.1) x).bind fun y => some (Po.enc (.one (.one (.g (.int .i64)))) ((fun y : Int => y) y)) := Eq.mp (by kernel_rfl) (slices_Indexint_int_is x.1 x.2.1)
noncomputable def cp14 : CallP := withC cp13 26 [(.one (.g (.sl (.one (.int .i64))))), (.one (.g (.int .i64)))] (.one (.one (.g (.int .i64)))) (fun y : Int => y) (fun x => slices_Indexint_int x.1 x.2.1)
theorem cp14_ok : PureOK E cp14 := withC_ok cp13_ok (stepS_ok eok cp13_ok noE_ok) fun x => con_of (enc := fun y => Po.enc (.one (.one (.g (.int .i64)))) ((fun y : Int => y) y)) (slices_Indexint_int_c x)
noncomputable abbrev C14 : Code := codeOf E.P 24
noncomputable abbrev P14 {α : Type} (n : Nat) (c : Code) (st : St) (k : St → Option α) : Option α := preK E 24 cp14 noE n c st k
noncomputable abbrev R14 {α : Type} (c : Code) (st : St) (k : Kont α) : Option α := runCode E 24 cp14 noE c st k
noncomputable abbrev Q14 {α : Type} (c : Code) (k : Kont α) : Kont α := seqC E 24 cp14 noE c k
theorem slices_Containsint_int_r1 {α : Type} (s_ : (List Int)) (v_ : Int) (k : St → Option α) : P14 2 C14 ⟨[(0, rl (.one (.int .i64)) s_), (1, ri v_)], [], [], 9⟩ k = Option.bind (slices_Indexint_int s_ v_) fun y59 : Int => k ⟨[(4, rb (decide (y59 ≥ (0 : Int))))], [], [], 9⟩ := by kernel_rfl
/-- slices.Contains[[]int,int] -/
def slices_Containsint_int_q {β : Type} (s_ : (List Int)) (v_ : Int) (K : Bool → Option β) : Option β := (Option.bind (slices_Indexint_int s_ v_) (fun y59 : Int => (K (decide (y59 ≥ (0 : Int))))))
def slices_Containsint_int (s_ : (List Int)) (v_ : Int) : Option Bool := slices_Containsint_int_q s_ v_ some
theorem slices_Containsint_int_n {β : Type} (s_ : (List Int)) (v_ : Int) (K : Bool → Option β) : slices_Containsint_int_q s_ v_ K = (slices_Containsint_int s_ v_).bind K := (bind_b fun y59 => some_b)
theorem slices_Containsint_int_is (s_ : (List Int)) (v_ : Int) : stepS E cp14 noE 24 [rl (.one (.int .i64)) s_, ri v_] = Option.bind (slices_Containsint_int s_ v_) (fun y : Bool => some (rb y : R)) := by
  refine Eq.trans ?_ (slices_Containsint_int_n s_ v_ (fun y : Bool => some (rb y : R)))
  refine (stepG_is (nt := 9) (regs := [(0, rl (.one (.int .i64)) s_), (1, ri v_)]) (by kernel_rfl) (by kernel_rfl)).trans ?_
  unfold slices_Containsint_int_q
  refine (pre (n := 2) (c' := C14.r.r) (by kernel_rfl) (by kernel_rfl) (slices_Containsint_int_r1 s_ v_ _)).trans (bind_g fun y59 => ?_)
  refine (ret_eq (by kernel_rfl)).trans ?_
  kernel_rfl
theorem slices_Containsint_int_c (x : denL [(.one (.g (.sl (.one (.int .i64))))), (.one (.g (.int .i64)))]) : stepS E cp14 noE 24 (encL [(.one (.g (.sl (.one (.int .i64))))), (.one (.g (.int .i64)))] x) = ((fun x => slices_Containsint_int x.1 x.2.1) x).bind fun y => some (Po.enc (.one (.one (.g .bool))) ((fun y : Bool => y) y)) := Eq.mp (by kernel_rfl) (slices_Containsint_int_is x.1 x.2.1)
noncomputable def cp15 : CallP := withC cp14 24 [(.one (.g (.sl (.one (.int .i64))))), (.one (.g (.int .i64)))] (.one (.one (.g .bool))) (fun y : Bool => y) (fun x => slices_Containsint_int x.1 x.2.1)
theorem cp15_ok : PureOK E cp15 := withC_ok cp14_ok (stepS_ok eok cp14_ok noE_ok) fun x => con_of (enc := fun y => Po.enc (.one (.one (.g .bool))) ((fun y : Bool => y) y)) (slices_Containsint_int_c x)
noncomputable abbrev C15 : Code := codeOf E.P 21
noncomputable abbrev P15 {α : Type} (n : Nat) (c : Code) (st : St) (k : St → Option α) : Option α := preK E 21 cp15 noE n c st k
noncomputable abbrev R15 {α : Type} (c : Code) (st : St) (k : Kont α) : Option α := runCode E 21 cp15 noE c st k
noncomputable abbrev Q15 {α : Type} (c : Code) (k : Kont α) : Kont α := seqC E 21 cp15 noE c k
def halo_Npu_r2_q {β : Type} (op : Int) (K : Bool → Option β) : Option β := (bif (decide (op ≥ (1 : Int))) then (bif (decide (op ≤ (12 : Int))) then (Option.bind (slices_Containsint_int [(3 : Int), (9 : Int), (10 : Int), (11 : Int)] op) (fun y60 : Bool => (K (!y60)))) else (K false)) else (K false))
def halo_Npu_r2_p (op : Int) : Option (Bool) := halo_Npu_r2_q op some
theorem halo_Npu_r2_n {β : Type} (op : Int) (K : Bool → Option β) : halo_Npu_r2_q op K = (halo_Npu_r2_p op).bind K := (bif_b (bif_b (bind_b fun y60 => some_b) some_b) some_b)
theorem halo_Npu_r2 {α : Type} (op : Int) (k : St → Option α) : P15 3 C15 ⟨[(0, ri op)], [], [], 17⟩ k = Option.bind (halo_Npu_r2_p op) (fun y61 : Bool => k ⟨[(2, rb y61)], [[]], [], 17⟩) := Eq.trans (by kernel_rfl) (halo_Npu_r2_n op _)
/-- quilt/halo.Npu -/
def halo_Npu_q {β : Type} (op : Int) (K : Bool → Option β) : Option β := (Option.bind (halo_Npu_r2_p op) (fun y61 : Bool => (K y61)))
def halo_Npu (op : Int) : Option Bool := halo_Npu_q op some
theorem halo_Npu_n {β : Type} (op : Int) (K : Bool → Option β) : halo_Npu_q op K = (halo_Npu op).bind K := (bind_b fun y61 => some_b)
theorem halo_Npu_is (op : Int) : stepS E cp15 noE 21 [ri op] = Option.bind (halo_Npu op) (fun y : Bool => some (rb y : R)) := by
  refine Eq.trans ?_ (halo_Npu_n op (fun y : Bool => some (rb y : R)))
  refine (stepG_is (nt := 17) (regs := [(0, ri op)]) (by kernel_rfl) (by kernel_rfl)).trans ?_
  unfold halo_Npu_q
  refine (pre (n := 3) (c' := C15.r.r.r) (by kernel_rfl) (by kernel_rfl) (halo_Npu_r2 op _)).trans (bind_g fun y61 => ?_)
  refine (ret_eq (by kernel_rfl)).trans ?_
  kernel_rfl
theorem halo_Npu_c (x : denL [(.one (.g (.int .i64)))]) : stepS E cp15 noE 21 (encL [(.one (.g (.int .i64)))] x) = ((fun x => halo_Npu x.1) x).bind fun y => some (Po.enc (.one (.one (.g .bool))) ((fun y : Bool => y) y)) := Eq.mp (by kernel_rfl) (halo_Npu_is x.1)
noncomputable def cp16 : CallP := withC cp15 21 [(.one (.g (.int .i64)))] (.one (.one (.g .bool))) (fun y : Bool => y) (fun x => halo_Npu x.1)
theorem cp16_ok : PureOK E cp16 := withC_ok cp15_ok (stepS_ok eok cp15_ok noE_ok) fun x => con_of (enc := fun y => Po.enc (.one (.one (.g .bool))) ((fun y : Bool => y) y)) (halo_Npu_c x)
noncomputable abbrev C16 : Code := codeOf E.P 18
noncomputable abbrev P16 {α : Type} (n : Nat) (c : Code) (st : St) (k : St → Option α) : Option α := preK E 18 cp16 noE n c st k
noncomputable abbrev R16 {α : Type} (c : Code) (st : St) (k : Kont α) : Option α := runCode E 18 cp16 noE c st k
noncomputable abbrev Q16 {α : Type} (c : Code) (k : Kont α) : Kont α := seqC E 18 cp16 noE c k
theorem law15_shown_r1 {α : Type} (k : St → Option α) : P16 2 C16 ⟨[], [], [], 27⟩ k = Option.bind (halo_Tiles (5 : Int) (2 : Int)) fun y42 : (List I2) => k ⟨[(1, .one (.ow tsI2 y42 (.v 1)))], [], [], 27⟩ := by kernel_rfl
def law15_shown_r2_q {β : Type} (y42 : (List I2)) (K : Bool → Option β) : Option β := (bif ((y42.length : Int) == (3 : Int)) then (bif (decide ((0 : Int) < (y42.length : Int))) then (bif ((((gt y42 (0 : Int) dI2).1) == (0 : Int)) && ((((gt y42 (0 : Int) dI2).2) == (2 : Int)) && true)) then (bif (decide ((2 : Int) < (y42.length : Int))) then (bif ((((gt y42 (2 : Int) dI2).1) == (4 : Int)) && ((((gt y42 (2 : Int) dI2).2) == (1 : Int)) && true)) then (Option.bind (halo_Npu (1 : Int)) (fun y62 : Bool => (bif y62 then (Option.bind (halo_Npu (3 : Int)) (fun y63 : Bool => (K (!y63)))) else (K false)))) else (K false)) else none) else (K false)) else none) else (K false))
def law15_shown_r2_p (y42 : (List I2)) : Option (Bool) := law15_shown_r2_q y42 some
theorem law15_shown_r2_n {β : Type} (y42 : (List I2)) (K : Bool → Option β) : law15_shown_r2_q y42 K = (law15_shown_r2_p y42).bind K := (bif_b (bif_b (bif_b (bif_b (bif_b (bind_b fun y62 => (bif_b (bind_b fun y63 => some_b) some_b)) some_b) none_b) some_b) none_b) some_b)
theorem law15_shown_r2 {α : Type} (y42 : (List I2)) (k : St → Option α) : P16 1 C16.r.r ⟨[(1, .one (.ow tsI2 y42 (.v 1)))], [], [], 27⟩ k = Option.bind (law15_shown_r2_p y42) (fun y64 : Bool => k ⟨[(0, rb y64)], [], [], 27⟩) := Eq.trans (by kernel_rfl) (law15_shown_r2_n y42 _)
/-- quilt/quiltlaw15.shown -/
def law15_shown_q {β : Type} (K : Bool → Option β) : Option β := (Option.bind (halo_Tiles (5 : Int) (2 : Int)) (fun y42 : (List I2) => (Option.bind (law15_shown_r2_p y42) (fun y64 : Bool => (K y64)))))
def law15_shown : Option Bool := law15_shown_q some
theorem law15_shown_n {β : Type} (K : Bool → Option β) : law15_shown_q K = (law15_shown).bind K := (bind_b fun y42 => (bind_b fun y64 => some_b))
theorem law15_shown_is : stepS E cp16 noE 18 [] = Option.bind (law15_shown) (fun y : Bool => some (rb y : R)) := by
  refine Eq.trans ?_ (law15_shown_n (fun y : Bool => some (rb y : R)))
  refine (stepG_is (nt := 27) (regs := []) (by kernel_rfl) (by kernel_rfl)).trans ?_
  unfold law15_shown_q
  refine (pre (n := 2) (c' := C16.r.r) (by kernel_rfl) (by kernel_rfl) (law15_shown_r1 _)).trans (bind_g fun y42 => ?_)
  refine (pre (n := 1) (c' := C16.r.r.r) (by kernel_rfl) (by kernel_rfl) (law15_shown_r2 y42 _)).trans (bind_g fun y64 => ?_)
  refine (ret_eq (by kernel_rfl)).trans ?_
  kernel_rfl
theorem law15_shown_c (x : denL []) : stepS E cp16 noE 18 (encL [] x) = ((fun x => law15_shown) x).bind fun y => some (Po.enc (.one (.one (.g .bool))) ((fun y : Bool => y) y)) := Eq.mp (by kernel_rfl) (law15_shown_is)
noncomputable def cp17 : CallP := withC cp16 18 [] (.one (.one (.g .bool))) (fun y : Bool => y) (fun x => law15_shown)
theorem cp17_ok : PureOK E cp17 := withC_ok cp16_ok (stepS_ok eok cp16_ok noE_ok) fun x => con_of (enc := fun y => Po.enc (.one (.one (.g .bool))) ((fun y : Bool => y) y)) (law15_shown_c x)
noncomputable abbrev C17 : Code := codeOf E.P 20
noncomputable abbrev P17 {α : Type} (n : Nat) (c : Code) (st : St) (k : St → Option α) : Option α := preK E 20 cp17 noE n c st k
noncomputable abbrev R17 {α : Type} (c : Code) (st : St) (k : Kont α) : Option α := runCode E 20 cp17 noE c st k
noncomputable abbrev Q17 {α : Type} (c : Code) (k : Kont α) : Kont α := seqC E 20 cp17 noE c k
theorem ref15_Tiles_f2 {α : Type} (h_ : Int) (rows : Int) (k : St → Option α) : P17 2 C17 ⟨[(0, ri h_), (1, ri rows)], [], [], 40⟩ k = k ⟨[(0, ri h_), (1, ri rows), (5, .one (.ow tsI2 [] (.v 5)))], [], [], 40⟩ := by kernel_rfl
def ref15_Tiles_r2_q {β : Type} (h_ : Int) (rows : Int) (K : Bool → β) : β := (bif (decide (h_ < (1 : Int))) then (K true) else (bif (decide (h_ > (16 : Int))) then (K true) else (bif (decide (rows < (1 : Int))) then (K true) else (K (decide (rows > (16 : Int)))))))
def ref15_Tiles_r2_p (h_ : Int) (rows : Int) : Bool := ref15_Tiles_r2_q h_ rows (fun y => y)
theorem ref15_Tiles_r2_n {β : Type} (h_ : Int) (rows : Int) (K : Bool → β) : ref15_Tiles_r2_q h_ rows K = K (ref15_Tiles_r2_p h_ rows) := (bif_k K rfl (bif_k K rfl (bif_k K rfl rfl)))
theorem ref15_Tiles_r2 {α : Type} (h_ : Int) (rows : Int) (k : St → Option α) : P17 1 C17.r.r.l ⟨[(0, ri h_), (1, ri rows), (5, .one (.ow tsI2 [] (.v 5)))], [], [], 40⟩ k = k ⟨[(0, ri h_), (1, ri rows), (5, .one (.ow tsI2 [] (.v 5))), (21, rb (ref15_Tiles_r2_p h_ rows))], [], [], 40⟩ := Eq.trans (by kernel_rfl) (ref15_Tiles_r2_n h_ rows (fun y68 : Bool => k ⟨[(0, ri h_), (1, ri rows), (5, .one (.ow tsI2 [] (.v 5))), (21, rb y68)], [], [], 40⟩))
theorem ref15_Tiles_fz {α : Type} (h_ : Int) (rows : Int) (k : St → Option α) : P17 1 C17.r.r.l.r.t ⟨[(0, ri h_), (1, ri rows), (5, .one (.ow tsI2 [] (.v 5)))], [], [], 40⟩ k = k ⟨[(4, .one (.ow tsI2 [] (.v 5)))], [], [], 40⟩ := by kernel_rfl
theorem ref15_Tiles_f5 {α : Type} (h_ : Int) (rows : Int) (k : St → Option α) : P17 1 C17.r.r.r.l ⟨[(0, ri h_), (1, ri rows), (5, .one (.ow tsI2 [] (.v 5)))], [], [], 40⟩ k = k ⟨[(0, ri h_), (1, ri rows), (5, .one (.ow tsI2 [] (.v 5))), (6, ri (0 : Int))], [], [], 40⟩ := by kernel_rfl
theorem ref15_Tiles_fzx1 {α : Type} (h_ : Int) (rows : Int) (s75 : ((List I2) × Int)) (k : St → Option α) : P17 1 (bodyOf (bodyOf C17.r.r.r.l.r)).l ⟨[(0, ri h_), (1, ri rows), (5, .one (.ow tsI2 s75.1 (.v 5))), (6, ri s75.2)], [], [], 40⟩ k = k ⟨[(0, ri h_), (1, ri rows), (5, .one (.ow tsI2 s75.1 (.v 5))), (6, ri s75.2), (25, rb (decide (s75.2 < h_)))], [], [], 40⟩ := by kernel_rfl
def ref15_Tiles_r7_q {β : Type} (h_ : Int) (rows : Int) (s75 : ((List I2) × Int)) (K : Unit → Option β) : Option β := (bif (decide (s75.1.length + ([(s75.2, (min rows (IntKind.wrap .i64 (h_ - s75.2))))] : List I2).length ≤ maxL)) then (K ()) else none)
def ref15_Tiles_r7_p (h_ : Int) (rows : Int) (s75 : ((List I2) × Int)) : Option (Unit) := ref15_Tiles_r7_q h_ rows s75 some
theorem ref15_Tiles_r7_n {β : Type} (h_ : Int) (rows : Int) (s75 : ((List I2) × Int)) (K : Unit → Option β) : ref15_Tiles_r7_q h_ rows s75 K = (ref15_Tiles_r7_p h_ rows s75).bind K := (bif_b some_b none_b)
theorem ref15_Tiles_r7 {α : Type} (h_ : Int) (rows : Int) (s75 : ((List I2) × Int)) (k : Kont α) : R17 (bodyOf (bodyOf (bodyOf C17.r.r.r.l.r)).r.l) ⟨[(0, ri h_), (1, ri rows), (5, .one (.ow tsI2 s75.1 (.v 5))), (6, ri s75.2)], [], [], 40⟩ k = Option.bind (ref15_Tiles_r7_p h_ rows s75) (fun y77 : Unit => k .normal ⟨[(0, ri h_), (1, ri rows), (5, .one (.ow tsI2 (s75.1 ++ [(s75.2, (min rows (IntKind.wrap .i64 (h_ - s75.2))))]) (.v 5))), (6, ri s75.2)], [], [], 40⟩) := Eq.trans (by kernel_rfl) (ref15_Tiles_r7_n h_ rows s75 _)
theorem ref15_Tiles_r6 {α : Type} (h_ : Int) (rows : Int) (s75 : ((List I2) × Int)) (k : Kont α) : R17 (bodyOf (bodyOf C17.r.r.r.l.r)).r.r ⟨[(0, ri h_), (1, ri rows), (5, .one (.ow tsI2 (s75.1 ++ [(s75.2, (min rows (IntKind.wrap .i64 (h_ - s75.2))))]) (.v 5))), (6, ri s75.2)], [], [], 40⟩ k = k .normal ⟨[(0, ri h_), (1, ri rows), (5, .one (.ow tsI2 (s75.1 ++ [(s75.2, (min rows (IntKind.wrap .i64 (h_ - s75.2))))]) (.v 5))), (6, ri (IntKind.wrap .i64 (s75.2 + rows)))], [], [], 40⟩ := by kernel_rfl
def ref15_Tiles_l5_q {β : Type} (h_ : Int) (rows : Int) (s75 : ((List I2) × Int)) (K0 : ((List I2) × Int) → Option β) (K1 : ((List I2) × Int) → Option β) : Option β := (bif (decide (s75.2 < h_)) then (Option.bind (ref15_Tiles_r7_p h_ rows s75) (fun y77 : Unit => (K0 ((s75.1 ++ [(s75.2, (min rows (IntKind.wrap .i64 (h_ - s75.2))))]), (IntKind.wrap .i64 (s75.2 + rows)))))) else (K1 s75))
def ref15_Tiles_l5_p (h_ : Int) (rows : Int) (s75 : ((List I2) × Int)) : Option (((List I2) × Int) ⊕ (((List I2) × Int))) := ref15_Tiles_l5_q h_ rows s75 (fun y => some (Sum.inl y)) (fun y => some (Sum.inr y))
theorem ref15_Tiles_l5_n {β : Type} (h_ : Int) (rows : Int) (s75 : ((List I2) × Int)) (K0 : ((List I2) × Int) → Option β) (K1 : ((List I2) × Int) → Option β) : ref15_Tiles_l5_q h_ rows s75 K0 K1 = (ref15_Tiles_l5_p h_ rows s75).bind (either K0 K1) := (bif_b (bind_b fun y77 => e2_0) e2_1)
theorem ref15_Tiles_l5_b {α : Type} (h_ : Int) (rows : Int) (s75 : ((List I2) × Int)) (k : Kont α) : R17 (bodyOf (bodyOf C17.r.r.r.l.r)) ⟨[(0, ri h_), (1, ri rows), (5, .one (.ow tsI2 s75.1 (.v 5))), (6, ri s75.2)], [], [], 40⟩ (loopKont 0 k) = Option.bind (ref15_Tiles_l5_p h_ rows s75) (either (fun y : ((List I2) × Int) => k .normal ⟨[(0, ri h_), (1, ri rows), (5, .one (.ow tsI2 y.1 (.v 5))), (6, ri y.2)], [], [], 40⟩) (fun y78 : ((List I2) × Int) => k (.exit 0) ⟨[(0, ri h_), (1, ri rows), (5, .one (.ow tsI2 y78.1 (.v 5))), (6, ri y78.2)], [], [], 40⟩)) := by
  refine Eq.trans ?_ (ref15_Tiles_l5_n h_ rows s75 _ _)
  unfold ref15_Tiles_l5_q
  refine (seq_push (by kernel_rfl)).trans ?_
  refine (pre (n := 1) (c' := (bodyOf (bodyOf C17.r.r.r.l.r)).l.r) (by kernel_rfl) (by kernel_rfl) (ref15_Tiles_fzx1 h_ rows s75 _)).trans ?_
  refine (cond_eq (b := (decide (s75.2 < h_))) (st' := ⟨[(0, ri h_), (1, ri rows), (5, .one (.ow tsI2 s75.1 (.v 5))), (6, ri s75.2)], [], [], 40⟩) (by kernel_rfl) (by kernel_rfl) (by kernel_rfl)).trans (bif_g ?_ ?_)
  · refine (skip_eq (by kernel_rfl)).trans ?_
    refine (seqC_normal (st' := ⟨[(0, ri h_), (1, ri rows), (5, .one (.ow tsI2 s75.1 (.v 5))), (6, ri s75.2)], [], [], 40⟩) (by kernel_rfl)).trans ?_
    refine (seq_push (by kernel_rfl)).trans ?_
    refine (block_push (id := 1) (by kernel_rfl)).trans ?_
    refine (ref15_Tiles_r7 h_ rows s75 _).trans (bind_g fun y77 => ?_)
    refine block_normal.trans ?_
    refine (seqC_normal (st' := ⟨[(0, ri h_), (1, ri rows), (5, .one (.ow tsI2 (s75.1 ++ [(s75.2, (min rows (IntKind.wrap .i64 (h_ - s75.2))))]) (.v 5))), (6, ri s75.2)], [], [], 40⟩) (by kernel_rfl)).trans ?_
    refine (ref15_Tiles_r6 h_ rows s75 _).trans ?_
    kernel_rfl
  · refine (exit_eq (j := 0) (by kernel_rfl)).trans ?_
    refine seqC_exit.trans ?_
    kernel_rfl
theorem ref15_Tiles_l5 {α : Type} (h_ : Int) (rows : Int) (k : Kont α) : R17 (bodyOf C17.r.r.r.l.r) ⟨[(0, ri h_), (1, ri rows), (5, .one (.ow tsI2 [] (.v 5))), (6, ri (0 : Int))], [], [], 40⟩ k = Option.bind (iterN (ref15_Tiles_l5_p h_ rows) LL ([], (0 : Int))) (fun y78 : ((List I2) × Int) => k (.exit 0) ⟨[(0, ri h_), (1, ri rows), (5, .one (.ow tsI2 y78.1 (.v 5))), (6, ri y78.2)], [], [], 40⟩) :=
  Eq.trans (by kernel_rfl) (loop_iter1 (S := fun s75 : ((List I2) × Int) => ⟨[(0, ri h_), (1, ri rows), (5, .one (.ow tsI2 s75.1 (.v 5))), (6, ri s75.2)], [], [], 40⟩) (Y1 := fun y78 : ((List I2) × Int) => ((.exit 0), ⟨[(0, ri h_), (1, ri rows), (5, .one (.ow tsI2 y78.1 (.v 5))), (6, ri y78.2)], [], [], 40⟩)) (fun s k => ref15_Tiles_l5_b h_ rows s k) (fun z => rfl) LL ([], (0 : Int)))
theorem ref15_Tiles_fzx2 {α : Type} (y78 : ((List I2) × Int)) (k : St → Option α) : P17 1 C17.r.r.r.r ⟨[(5, .one (.ow tsI2 y78.1 (.v 5)))], [], [], 40⟩ k = k ⟨[(4, .one (.ow tsI2 y78.1 (.v 5)))], [], [], 40⟩ := by kernel_rfl
/-- quilt/quiltref15.Tiles -/
def ref15_Tiles_q {β : Type} (h_ : Int) (rows : Int) (K : (List I2) → Option β) : Option β := (bif (ref15_Tiles_r2_p h_ rows) then (K []) else (Option.bind (iterN (ref15_Tiles_l5_p h_ rows) LL ([], (0 : Int))) (fun y78 : ((List I2) × Int) => (K y78.1))))
def ref15_Tiles (h_ : Int) (rows : Int) : Option (List I2) := ref15_Tiles_q h_ rows some
theorem ref15_Tiles_n {β : Type} (h_ : Int) (rows : Int) (K : (List I2) → Option β) : ref15_Tiles_q h_ rows K = (ref15_Tiles h_ rows).bind K := (bif_b some_b (bind_b fun y78 => some_b))
theorem ref15_Tiles_is (h_ : Int) (rows : Int) : stepO E cp17 noE 20 [ri h_, ri rows] = Option.bind (ref15_Tiles h_ rows) (fun y : (List I2) => some (.one (.ow tsI2 y (.s 0)) : R)) := by
  refine Eq.trans ?_ (ref15_Tiles_n h_ rows (fun y : (List I2) => some (.one (.ow tsI2 y (.s 0)) : R)))
  refine (stepG_is (nt := 40) (regs := [(0, ri h_), (1, ri rows)]) (by kernel_rfl) (by kernel_rfl)).trans ?_
  unfold ref15_Tiles_q
  refine (pre (n := 2) (c' := C17.r.r) (by kernel_rfl) (by kernel_rfl) (ref15_Tiles_f2 h_ rows _)).trans ?_
  refine (seq_push (by kernel_rfl)).trans ?_
  refine (pre (n := 1) (c' := C17.r.r.l.r) (by kernel_rfl) (by kernel_rfl) (ref15_Tiles_r2 h_ rows _)).trans ?_
  refine (cond_eq (b := (ref15_Tiles_r2_p h_ rows)) (st' := ⟨[(0, ri h_), (1, ri rows), (5, .one (.ow tsI2 [] (.v 5)))], [], [], 40⟩) (by kernel_rfl) (by kernel_rfl) (by kernel_rfl)).trans (bif_g ?_ ?_)
  · refine (pre (n := 1) (c' := C17.r.r.l.r.t.r) (by kernel_rfl) (by kernel_rfl) (ref15_Tiles_fz h_ rows _)).trans ?_
    refine (ret_eq (by kernel_rfl)).trans ?_
    refine seqC_ret.trans ?_
    kernel_rfl
  · refine (skip_eq (by kernel_rfl)).trans ?_
    refine (seqC_normal (st' := ⟨[(0, ri h_), (1, ri rows), (5, .one (.ow tsI2 [] (.v 5)))], [], [], 40⟩) (by kernel_rfl)).trans ?_
    refine (seq_push (by kernel_rfl)).trans ?_
    refine (pre (n := 1) (c' := C17.r.r.r.l.r) (by kernel_rfl) (by kernel_rfl) (ref15_Tiles_f5 h_ rows _)).trans ?_
    refine (block_push (id := 0) (by kernel_rfl)).trans ?_
    refine (ref15_Tiles_l5 h_ rows _).trans (bind_g fun y78 => ?_)
    refine block_same.trans ?_
    refine (seqC_normal (st' := ⟨[(5, .one (.ow tsI2 y78.1 (.v 5)))], [], [], 40⟩) (by kernel_rfl)).trans ?_
    refine (pre (n := 1) (c' := C17.r.r.r.r.r) (by kernel_rfl) (by kernel_rfl) (ref15_Tiles_fzx2 y78 _)).trans ?_
    refine (ret_eq (by kernel_rfl)).trans ?_
    kernel_rfl
theorem ref15_Tiles_c (x : denL [(.one (.g (.int .i64))), (.one (.g (.int .i64)))]) : stepO E cp17 noE 20 (encL [(.one (.g (.int .i64))), (.one (.g (.int .i64)))] x) = ((fun x => ref15_Tiles x.1 x.2.1) x).bind fun y => some (Po.enc (.one (.one (.ow tsI2))) ((fun y : (List I2) => y) y)) := Eq.mp (by kernel_rfl) (ref15_Tiles_is x.1 x.2.1)
noncomputable def cp18 : CallP := withC cp17 20 [(.one (.g (.int .i64))), (.one (.g (.int .i64)))] (.one (.one (.ow tsI2))) (fun y : (List I2) => y) (fun x => ref15_Tiles x.1 x.2.1)
theorem cp18_ok : PureOK E cp18 := withC_ok cp17_ok (stepO_ok eok cp17_ok noE_ok) fun x => con_of (enc := fun y => Po.enc (.one (.one (.ow tsI2))) ((fun y : (List I2) => y) y)) (ref15_Tiles_c x)
end Go.V.P
