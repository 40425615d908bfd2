/- What functions compute. -/
import Derived.Test.YtelfooangijedaaHa2
namespace Go.V.P
open Go.RowKit Go.V Go.Proofs
set_option linter.unusedVariables false
set_option maxRecDepth 100000
noncomputable abbrev C45 := codeOf E.P 44
noncomputable abbrev P45 {α : Type} := @preK α E 44 cp45 noE
def ref03_Window_r1_q {β : Type} (op : Int) (K : Bool → β) : β := (bif (decide (op ≥ 1)) then (bif (decide (op ≤ 5)) then (K (op != 3)) else (K false)) else (K false))
def ref03_Window_r1_p (op : Int) : Bool := ref03_Window_r1_q op (fun y => y)
theorem ref03_Window_r1_n {β : Type} (op : Int) (K : Bool → β) : ref03_Window_r1_q op K = K (ref03_Window_r1_p op) := (bif_k K (bif_k K rfl rfl) rfl)
theorem ref03_Window_r1 {α : Type} (op : Int) (k : St → Option α) : P45 2 C45 ⟨[(0, ri op)], [], [], 13⟩ k = k ⟨[(2, rb (ref03_Window_r1_p op))], [], [], 13⟩ := Eq.trans (by kernel_rfl) (ref03_Window_r1_n op (fun y455 : Bool => k ⟨[(2, rb y455)], [], [], 13⟩))
/-- quilt/quiltref03.Window -/
def ref03_Window_q {β : Type} (op : Int) (K : Bool → β) : β := (K (ref03_Window_r1_p op))
def ref03_Window (op : Int) : Bool := ref03_Window_q op (fun y => y)
theorem ref03_Window_n {β : Type} (op : Int) (K : Bool → β) : ref03_Window_q op K = K (ref03_Window op) := rfl
theorem ref03_Window_is (op : Int) : stepS E cp45 noE 44 [ri op] = (fun y : Bool => some (rb y : R)) (ref03_Window op) := by
  refine Eq.trans ?_ (ref03_Window_n op (fun y : Bool => some (rb y : R)))
  refine (stepG_is (nt := 13) (regs := [(0, ri op)])).trans ?_
  unfold ref03_Window_q
  refine (pre2 (ref03_Window_r1 op _)).trans ?_
  refine (ret_eq).trans ?_
  kernel_rfl
noncomputable def cp46 : CallP := withC cp45 44 [pI] (.one pB) (fun y : Bool => y) (fun x => some (ref03_Window x.1))
theorem cp46_ok : PureOK E cp46 := conS eok cp45_ok noE_ok fun x => Eq.mp (by kernel_rfl) (ref03_Window_is x.1)
section
variable {α β : Type} (x_ : Int) (low : Int) (high : Int) (k : St → Option α)
noncomputable abbrev C46 := codeOf E.P 29
noncomputable abbrev P46 := @preK α E 29 cp46 noE
def ref03_in_r1_q (K : Bool → β) : β := (bif (decide (x_ ≥ low)) then (K (decide (x_ ≤ high))) else (K false))
def ref03_in_r1_p : Bool := ref03_in_r1_q x_ low high (fun y => y)
theorem ref03_in_r1_n (K : Bool → β) : ref03_in_r1_q x_ low high K = K (ref03_in_r1_p x_ low high) := (bif_k K rfl rfl)
theorem ref03_in_r1 : P46 2 C46 ⟨[(0, ri x_), (1, ri low), (2, ri high)], [], [], 15⟩ k = k ⟨[(6, rb (ref03_in_r1_p x_ low high))], [], [], 15⟩ := Eq.trans (by kernel_rfl) (ref03_in_r1_n x_ low high (fun y456 : Bool => k ⟨[(6, rb y456)], [], [], 15⟩))
/-- quilt/quiltref03.in -/
def ref03_in_q (K : Bool → β) : β := (K (ref03_in_r1_p x_ low high))
def ref03_in : Bool := ref03_in_q x_ low high (fun y => y)
theorem ref03_in_n (K : Bool → β) : ref03_in_q x_ low high K = K (ref03_in x_ low high) := rfl
theorem ref03_in_is : stepS E cp46 noE 29 [ri x_, ri low, ri high] = (fun y : Bool => some (rb y : R)) (ref03_in x_ low high) := by
  refine Eq.trans ?_ (ref03_in_n x_ low high (fun y : Bool => some (rb y : R)))
  refine (stepG_is (nt := 15) (regs := [(0, ri x_), (1, ri low), (2, ri high)])).trans ?_
  unfold ref03_in_q
  refine (pre2 (ref03_in_r1 x_ low high _)).trans ?_
  refine (ret_eq).trans ?_
  kernel_rfl
noncomputable def cp47 : CallP := withC cp46 29 [pI, pI, pI] (.one pB) (fun y : Bool => y) (fun x => some (ref03_in x.1 x.2.1 x.2.2.1))
theorem cp47_ok : PureOK E cp47 := conS eok cp46_ok noE_ok fun x => Eq.mp (by kernel_rfl) (ref03_in_is x.1 x.2.1 x.2.2.1)
end
section
variable {α β : Type} (n_ : Node) (many : Int) (k : St → Option α) (q : Kont α)
noncomputable abbrev C47 := codeOf E.P 24
noncomputable abbrev P47 := @preK α E 24 cp47 noE
noncomputable abbrev R47 := @runCode α E 24 cp47 noE
noncomputable abbrev Q47 := @seqC α E 24 cp47 noE
abbrev S47_0 : St := ⟨[(1, ri many), (2, rC tsNode n_), (5, ri 1)], [], [], 119⟩
theorem ref03_node_f2 : P47 2 C47 ⟨[(0, rA tsNode n_), (1, ri many)], [], [], 119⟩ k = k (S47_0 n_ many) := by kernel_rfl
theorem ref03_node_f1000003 : P47 1 C47.r.r.l (S47_0 n_ many) k = k ⟨[(1, ri many), (2, rC tsNode n_), (5, ri 1), (13, rb (ref03_Two n_.1))], [], [], 119⟩ := by kernel_rfl
abbrev S47_1 : St := ⟨[(1, ri many), (2, rC tsNode n_), (5, ri 2)], [], [], 119⟩
theorem ref03_node_r3 : R47 C47.r.r.l.r.t (S47_0 n_ many) q = q .normal (S47_1 n_ many) := by kernel_rfl
def ref03_node_j2_q (K : Int → β) : β := (bif (ref03_Two n_.1) then (K (2 : Int)) else (K (1 : Int)))
def ref03_node_j2_p : Int := ref03_node_j2_q n_ (fun y => y)
theorem ref03_node_j2_n (K : Int → β) : ref03_node_j2_q n_ K = K (ref03_node_j2_p n_) := (bif_k K rfl rfl)
abbrev S47_2 : St := ⟨[(1, ri many), (2, rC tsNode n_), (5, ri (ref03_node_j2_p n_))], [], [], 119⟩
theorem ref03_node_j2 : R47 C47.r.r.l (S47_0 n_ many) (Q47 C47.r.r.r q) = R47 C47.r.r.r (S47_2 n_ many) q := by
  refine Eq.trans ?_ (ref03_node_j2_n n_ (fun y453 : Int => R47 C47.r.r.r ⟨[(1, ri many), (2, rC tsNode n_), (5, ri y453)], [], [], 119⟩ q))
  unfold ref03_node_j2_q
  refine (pre1 (ref03_node_f1000003 n_ many _)).trans ?_
  refine (cond_e (b := (ref03_Two n_.1)) (st' := (S47_0 n_ many)) ).trans (bif_g ?_ ?_)
  · refine (ref03_node_r3 n_ many _).trans ?_
    refine (seqC_normal (st' := (S47_1 n_ many))).trans ?_
    kernel_rfl
  · refine (skip_eq).trans ?_
    refine (seqC_normal (st' := (S47_0 n_ many))).trans ?_
    kernel_rfl
def ref03_node_r4_q (K : Bool → β) : β := (bif (n_.2.2.1 == 0) then (K (n_.2.2.2.1 == 0)) else (K false))
def ref03_node_r4_p : Bool := ref03_node_r4_q n_ (fun y => y)
theorem ref03_node_r4_n (K : Bool → β) : ref03_node_r4_q n_ K = K (ref03_node_r4_p n_) := (bif_k K rfl rfl)
abbrev S47_3 : St := ⟨[(1, ri many), (2, rC tsNode n_), (5, ri (ref03_node_j2_p n_)), (6, rb (ref03_node_r4_p n_))], [], [], 119⟩
theorem ref03_node_r4 : P47 1 C47.r.r.r (S47_2 n_ many) k = k (S47_3 n_ many) := Eq.trans (by kernel_rfl) (ref03_node_r4_n n_ (fun y454 : Bool => k ⟨[(1, ri many), (2, rC tsNode n_), (5, ri (ref03_node_j2_p n_)), (6, rb y454)], [], [], 119⟩))
theorem ref03_node_f1000006 : P47 1 C47.r.r.r.r.l (S47_3 n_ many) k = k ⟨[(1, ri many), (2, rC tsNode n_), (5, ri (ref03_node_j2_p n_)), (6, rb (ref03_node_r4_p n_)), (24, rb (ref03_Window n_.1))], [], [], 119⟩ := by kernel_rfl
def ref03_node_r6_q (K : Bool → β) : β := (bif (ref03_in n_.2.2.1 (1 : Int) (3 : Int)) then (K (ref03_in n_.2.2.2.1 (1 : Int) (2 : Int))) else (K false))
def ref03_node_r6_p : Bool := ref03_node_r6_q n_ (fun y => y)
theorem ref03_node_r6_n (K : Bool → β) : ref03_node_r6_q n_ K = K (ref03_node_r6_p n_) := (bif_k K rfl rfl)
abbrev S47_4 : St := ⟨[(1, ri many), (2, rC tsNode n_), (5, ri (ref03_node_j2_p n_)), (6, rb (ref03_node_r6_p n_))], [], [], 119⟩
theorem ref03_node_r6 : R47 C47.r.r.r.r.l.r.t (S47_3 n_ many) q = q .normal (S47_4 n_ many) := Eq.trans (by kernel_rfl) (ref03_node_r6_n n_ (fun y457 : Bool => q .normal ⟨[(1, ri many), (2, rC tsNode n_), (5, ri (ref03_node_j2_p n_)), (6, rb y457)], [], [], 119⟩))
def ref03_node_j5_q (K : Bool → β) : β := (bif (ref03_Window n_.1) then (K (ref03_node_r6_p n_)) else (K (ref03_node_r4_p n_)))
def ref03_node_j5_p : Bool := ref03_node_j5_q n_ (fun y => y)
theorem ref03_node_j5_n (K : Bool → β) : ref03_node_j5_q n_ K = K (ref03_node_j5_p n_) := (bif_k K rfl rfl)
abbrev S47_5 : St := ⟨[(1, ri many), (2, rC tsNode n_), (5, ri (ref03_node_j2_p n_)), (6, rb (ref03_node_j5_p n_))], [], [], 119⟩
theorem ref03_node_j5 : R47 C47.r.r.r.r.l (S47_3 n_ many) (Q47 C47.r.r.r.r.r q) = R47 C47.r.r.r.r.r (S47_5 n_ many) q := by
  refine Eq.trans ?_ (ref03_node_j5_n n_ (fun y458 : Bool => R47 C47.r.r.r.r.r ⟨[(1, ri many), (2, rC tsNode n_), (5, ri (ref03_node_j2_p n_)), (6, rb y458)], [], [], 119⟩ q))
  unfold ref03_node_j5_q
  refine (pre1 (ref03_node_f1000006 n_ many _)).trans ?_
  refine (cond_e (b := (ref03_Window n_.1)) (st' := (S47_3 n_ many)) ).trans (bif_g ?_ ?_)
  · refine (ref03_node_r6 n_ many _).trans ?_
    refine (seqC_normal (st' := (S47_4 n_ many))).trans ?_
    kernel_rfl
  · refine (skip_eq).trans ?_
    refine (seqC_normal (st' := (S47_3 n_ many))).trans ?_
    kernel_rfl
abbrev S47_6 : St := ⟨[(1, ri many), (2, rC tsNode n_), (5, ri (ref03_node_j2_p n_)), (6, rb (ref03_node_j5_p n_)), (7, rb (n_.2.2.2.2.1 == 0))], [], [], 119⟩
theorem ref03_node_f8 : P47 1 C47.r.r.r.r.r (S47_5 n_ many) k = k (S47_6 n_ many) := by kernel_rfl
def ref03_node_r8_q (K : Bool → β) : β := (bif (n_.1 == 1) then (K true) else (K (n_.1 == 2)))
def ref03_node_r8_p : Bool := ref03_node_r8_q n_ (fun y => y)
theorem ref03_node_r8_n (K : Bool → β) : ref03_node_r8_q n_ K = K (ref03_node_r8_p n_) := (bif_k K rfl rfl)
theorem ref03_node_r8 : P47 1 C47.r.r.r.r.r.r.l (S47_6 n_ many) k = k ⟨[(1, ri many), (2, rC tsNode n_), (5, ri (ref03_node_j2_p n_)), (6, rb (ref03_node_j5_p n_)), (7, rb (n_.2.2.2.2.1 == 0)), (43, rb (ref03_node_r8_p n_))], [], [], 119⟩ := Eq.trans (by kernel_rfl) (ref03_node_r8_n n_ (fun y459 : Bool => k ⟨[(1, ri many), (2, rC tsNode n_), (5, ri (ref03_node_j2_p n_)), (6, rb (ref03_node_j5_p n_)), (7, rb (n_.2.2.2.2.1 == 0)), (43, rb y459)], [], [], 119⟩))
def ref03_node_r9_q (K : Bool → β) : β := (bif (ref03_in n_.2.2.2.2.1 (0 : Int) (1 : Int)) then (K (decide (n_.2.2.2.2.1 < n_.2.2.1))) else (K false))
def ref03_node_r9_p : Bool := ref03_node_r9_q n_ (fun y => y)
theorem ref03_node_r9_n (K : Bool → β) : ref03_node_r9_q n_ K = K (ref03_node_r9_p n_) := (bif_k K rfl rfl)
abbrev S47_7 : St := ⟨[(1, ri many), (2, rC tsNode n_), (5, ri (ref03_node_j2_p n_)), (6, rb (ref03_node_j5_p n_)), (7, rb (ref03_node_r9_p n_))], [], [], 119⟩
theorem ref03_node_r9 : R47 C47.r.r.r.r.r.r.l.r.t (S47_6 n_ many) q = q .normal (S47_7 n_ many) := Eq.trans (by kernel_rfl) (ref03_node_r9_n n_ (fun y460 : Bool => q .normal ⟨[(1, ri many), (2, rC tsNode n_), (5, ri (ref03_node_j2_p n_)), (6, rb (ref03_node_j5_p n_)), (7, rb y460)], [], [], 119⟩))
def ref03_node_j8_q (K : Bool → β) : β := (bif (ref03_node_r8_p n_) then (K (ref03_node_r9_p n_)) else (K (n_.2.2.2.2.1 == 0)))
def ref03_node_j8_p : Bool := ref03_node_j8_q n_ (fun y => y)
theorem ref03_node_j8_n (K : Bool → β) : ref03_node_j8_q n_ K = K (ref03_node_j8_p n_) := (bif_k K rfl rfl)
abbrev S47_8 : St := ⟨[(1, ri many), (2, rC tsNode n_), (5, ri (ref03_node_j2_p n_)), (6, rb (ref03_node_j5_p n_)), (7, rb (ref03_node_j8_p n_))], [], [], 119⟩
theorem ref03_node_j8 : R47 C47.r.r.r.r.r.r.l (S47_6 n_ many) (Q47 C47.r.r.r.r.r.r.r q) = R47 C47.r.r.r.r.r.r.r (S47_8 n_ many) q := by
  refine Eq.trans ?_ (ref03_node_j8_n n_ (fun y461 : Bool => R47 C47.r.r.r.r.r.r.r ⟨[(1, ri many), (2, rC tsNode n_), (5, ri (ref03_node_j2_p n_)), (6, rb (ref03_node_j5_p n_)), (7, rb y461)], [], [], 119⟩ q))
  unfold ref03_node_j8_q
  refine (pre1 (ref03_node_r8 n_ many _)).trans ?_
  refine (cond_e (b := (ref03_node_r8_p n_)) (st' := (S47_6 n_ many)) ).trans (bif_g ?_ ?_)
  · refine (ref03_node_r9 n_ many _).trans ?_
    refine (seqC_normal (st' := (S47_7 n_ many))).trans ?_
    kernel_rfl
  · refine (skip_eq).trans ?_
    refine (seqC_normal (st' := (S47_6 n_ many))).trans ?_
    kernel_rfl
theorem ref03_node_f1000011 : P47 1 C47.r.r.r.r.r.r.r.l (S47_8 n_ many) k = k ⟨[(1, ri many), (2, rC tsNode n_), (5, ri (ref03_node_j2_p n_)), (6, rb (ref03_node_j5_p n_)), (7, rb (ref03_node_j8_p n_)), (56, rb (n_.1 == 9))], [], [], 119⟩ := by kernel_rfl
abbrev S47_9 : St := ⟨[(1, ri many), (2, rC tsNode n_), (5, ri (ref03_node_j2_p n_)), (6, rb (ref03_node_j5_p n_)), (7, rb (n_.2.2.2.2.1 == 1))], [], [], 119⟩
theorem ref03_node_r11 : R47 C47.r.r.r.r.r.r.r.l.r.t (S47_8 n_ many) q = q .normal (S47_9 n_ many) := by kernel_rfl
def ref03_node_j10_q (K : Bool → β) : β := (bif (n_.1 == 9) then (K (n_.2.2.2.2.1 == 1)) else (K (ref03_node_j8_p n_)))
def ref03_node_j10_p : Bool := ref03_node_j10_q n_ (fun y => y)
theorem ref03_node_j10_n (K : Bool → β) : ref03_node_j10_q n_ K = K (ref03_node_j10_p n_) := (bif_k K rfl rfl)
abbrev S47_10 : St := ⟨[(1, ri many), (2, rC tsNode n_), (5, ri (ref03_node_j2_p n_)), (6, rb (ref03_node_j5_p n_)), (7, rb (ref03_node_j10_p n_))], [], [], 119⟩
theorem ref03_node_j10 : R47 C47.r.r.r.r.r.r.r.l (S47_8 n_ many) (Q47 C47.r.r.r.r.r.r.r.r q) = R47 C47.r.r.r.r.r.r.r.r (S47_10 n_ many) q := by
  refine Eq.trans ?_ (ref03_node_j10_n n_ (fun y462 : Bool => R47 C47.r.r.r.r.r.r.r.r ⟨[(1, ri many), (2, rC tsNode n_), (5, ri (ref03_node_j2_p n_)), (6, rb (ref03_node_j5_p n_)), (7, rb y462)], [], [], 119⟩ q))
  unfold ref03_node_j10_q
  refine (pre1 (ref03_node_f1000011 n_ many _)).trans ?_
  refine (cond_e (b := (n_.1 == 9)) (st' := (S47_8 n_ many)) ).trans (bif_g ?_ ?_)
  · refine (ref03_node_r11 n_ many _).trans ?_
    refine (seqC_normal (st' := (S47_9 n_ many))).trans ?_
    kernel_rfl
  · refine (skip_eq).trans ?_
    refine (seqC_normal (st' := (S47_8 n_ many))).trans ?_
    kernel_rfl
abbrev S47_11 : St := ⟨[(1, ri many), (2, rC tsNode n_), (5, ri (ref03_node_j2_p n_)), (6, rb (ref03_node_j5_p n_)), (7, rb (ref03_node_j10_p n_)), (8, rb (n_.2.2.2.2.2.1 == 0))], [], [], 119⟩
theorem ref03_node_f13 : P47 1 C47.r.r.r.r.r.r.r.r (S47_10 n_ many) k = k (S47_11 n_ many) := by kernel_rfl
def ref03_node_r13_q (K : Bool → β) : β := (bif (n_.1 == 1) then (K true) else (K (n_.1 == 3)))
def ref03_node_r13_p : Bool := ref03_node_r13_q n_ (fun y => y)
theorem ref03_node_r13_n (K : Bool → β) : ref03_node_r13_q n_ K = K (ref03_node_r13_p n_) := (bif_k K rfl rfl)
theorem ref03_node_r13 : P47 1 C47.r.r.r.r.r.r.r.r.r.l (S47_11 n_ many) k = k ⟨[(1, ri many), (2, rC tsNode n_), (5, ri (ref03_node_j2_p n_)), (6, rb (ref03_node_j5_p n_)), (7, rb (ref03_node_j10_p n_)), (8, rb (n_.2.2.2.2.2.1 == 0)), (70, rb (ref03_node_r13_p n_))], [], [], 119⟩ := Eq.trans (by kernel_rfl) (ref03_node_r13_n n_ (fun y463 : Bool => k ⟨[(1, ri many), (2, rC tsNode n_), (5, ri (ref03_node_j2_p n_)), (6, rb (ref03_node_j5_p n_)), (7, rb (ref03_node_j10_p n_)), (8, rb (n_.2.2.2.2.2.1 == 0)), (70, rb y463)], [], [], 119⟩))
abbrev S47_12 : St := ⟨[(1, ri many), (2, rC tsNode n_), (5, ri (ref03_node_j2_p n_)), (6, rb (ref03_node_j5_p n_)), (7, rb (ref03_node_j10_p n_)), (8, rb (ref03_in n_.2.2.2.2.2.1 (1 : Int) (8 : Int)))], [], [], 119⟩
theorem ref03_node_r14 : R47 C47.r.r.r.r.r.r.r.r.r.l.r.t (S47_11 n_ many) q = q .normal (S47_12 n_ many) := by kernel_rfl
def ref03_node_j13_q (K : Bool → β) : β := (bif (ref03_node_r13_p n_) then (K (ref03_in n_.2.2.2.2.2.1 (1 : Int) (8 : Int))) else (K (n_.2.2.2.2.2.1 == 0)))
def ref03_node_j13_p : Bool := ref03_node_j13_q n_ (fun y => y)
theorem ref03_node_j13_n (K : Bool → β) : ref03_node_j13_q n_ K = K (ref03_node_j13_p n_) := (bif_k K rfl rfl)
abbrev S47_13 : St := ⟨[(1, ri many), (2, rC tsNode n_), (5, ri (ref03_node_j2_p n_)), (6, rb (ref03_node_j5_p n_)), (7, rb (ref03_node_j10_p n_)), (8, rb (ref03_node_j13_p n_))], [], [], 119⟩
theorem ref03_node_j13 : R47 C47.r.r.r.r.r.r.r.r.r.l (S47_11 n_ many) (Q47 C47.r.r.r.r.r.r.r.r.r.r q) = R47 C47.r.r.r.r.r.r.r.r.r.r (S47_13 n_ many) q := by
  refine Eq.trans ?_ (ref03_node_j13_n n_ (fun y464 : Bool => R47 C47.r.r.r.r.r.r.r.r.r.r ⟨[(1, ri many), (2, rC tsNode n_), (5, ri (ref03_node_j2_p n_)), (6, rb (ref03_node_j5_p n_)), (7, rb (ref03_node_j10_p n_)), (8, rb y464)], [], [], 119⟩ q))
  unfold ref03_node_j13_q
  refine (pre1 (ref03_node_r13 n_ many _)).trans ?_
  refine (cond_e (b := (ref03_node_r13_p n_)) (st' := (S47_11 n_ many)) ).trans (bif_g ?_ ?_)
  · refine (ref03_node_r14 n_ many _).trans ?_
    refine (seqC_normal (st' := (S47_12 n_ many))).trans ?_
    kernel_rfl
  · refine (skip_eq).trans ?_
    refine (seqC_normal (st' := (S47_11 n_ many))).trans ?_
    kernel_rfl
def ref03_node_r15_q (K : Bool → β) : β := (bif ((n_.2.2.2.2.2.2.2.2.2.1 == 0) && ((n_.2.2.2.2.2.2.2.2.2.2.1 == 0) && ((n_.2.2.2.2.2.2.2.2.2.2.2.1 == 0) && true))) then (K true) else (K (n_.1 == 11)))
def ref03_node_r15_p : Bool := ref03_node_r15_q n_ (fun y => y)
theorem ref03_node_r15_n (K : Bool → β) : ref03_node_r15_q n_ K = K (ref03_node_r15_p n_) := (bif_k K rfl rfl)
abbrev S47_14 : St := ⟨[(1, ri many), (2, rC tsNode n_), (5, ri (ref03_node_j2_p n_)), (6, rb (ref03_node_j5_p n_)), (7, rb (ref03_node_j10_p n_)), (8, rb (ref03_node_j13_p n_)), (9, rb (ref03_node_r15_p n_))], [], [], 119⟩
theorem ref03_node_r15 : P47 1 C47.r.r.r.r.r.r.r.r.r.r (S47_13 n_ many) k = k (S47_14 n_ many) := Eq.trans (by kernel_rfl) (ref03_node_r15_n n_ (fun y465 : Bool => k ⟨[(1, ri many), (2, rC tsNode n_), (5, ri (ref03_node_j2_p n_)), (6, rb (ref03_node_j5_p n_)), (7, rb (ref03_node_j10_p n_)), (8, rb (ref03_node_j13_p n_)), (9, rb y465)], [], [], 119⟩))
def ref03_node_r16_q (K : Bool → β) : β := (bif (ref03_in n_.2.2.2.2.2.2.1 (1 : Int) (32767 : Int)) then (bif (ref03_in n_.2.2.2.2.2.2.2.1 (0 : Int) (31 : Int)) then (K (ref03_in n_.2.2.2.2.2.2.2.2.1 (-128 : Int) (127 : Int))) else (K false)) else (K false))
def ref03_node_r16_p : Bool := ref03_node_r16_q n_ (fun y => y)
theorem ref03_node_r16_n (K : Bool → β) : ref03_node_r16_q n_ K = K (ref03_node_r16_p n_) := (bif_k K (bif_k K rfl rfl) rfl)
abbrev S47_15 : St := ⟨[(1, ri many), (2, rC tsNode n_), (5, ri (ref03_node_j2_p n_)), (6, rb (ref03_node_j5_p n_)), (7, rb (ref03_node_j10_p n_)), (8, rb (ref03_node_j13_p n_)), (9, rb (ref03_node_r15_p n_)), (10, rb (ref03_node_r16_p n_))], [], [], 119⟩
theorem ref03_node_r16 : P47 1 C47.r.r.r.r.r.r.r.r.r.r.r (S47_14 n_ many) k = k (S47_15 n_ many) := Eq.trans (by kernel_rfl) (ref03_node_r16_n n_ (fun y466 : Bool => k ⟨[(1, ri many), (2, rC tsNode n_), (5, ri (ref03_node_j2_p n_)), (6, rb (ref03_node_j5_p n_)), (7, rb (ref03_node_j10_p n_)), (8, rb (ref03_node_j13_p n_)), (9, rb (ref03_node_r15_p n_)), (10, rb y466)], [], [], 119⟩))
def ref03_node_r17_q (K : Bool → β) : β := (bif (ref03_in n_.1 (1 : Int) (12 : Int)) then (bif (many == (ref03_node_j2_p n_)) then (bif (ref03_node_j5_p n_) then (bif (ref03_node_j10_p n_) then (bif (ref03_node_j13_p n_) then (bif (ref03_node_r15_p n_) then (K (ref03_node_r16_p n_)) else (K false)) else (K false)) else (K false)) else (K false)) else (K false)) else (K false))
def ref03_node_r17_p : Bool := ref03_node_r17_q n_ many (fun y => y)
theorem ref03_node_r17_n (K : Bool → β) : ref03_node_r17_q n_ many K = K (ref03_node_r17_p n_ many) := (bif_k K (bif_k K (bif_k K (bif_k K (bif_k K (bif_k K rfl rfl) rfl) rfl) rfl) rfl) rfl)
theorem ref03_node_r17 : P47 1 C47.r.r.r.r.r.r.r.r.r.r.r.r (S47_15 n_ many) k = k ⟨[(4, rb (ref03_node_r17_p n_ many))], [], [], 119⟩ := Eq.trans (by kernel_rfl) (ref03_node_r17_n n_ many (fun y467 : Bool => k ⟨[(4, rb y467)], [], [], 119⟩))
/-- quilt/quiltref03.node -/
def ref03_node_q (K : Bool → β) : β := (K (ref03_node_r17_p n_ many))
def ref03_node : Bool := ref03_node_q n_ many (fun y => y)
theorem ref03_node_n (K : Bool → β) : ref03_node_q n_ many K = K (ref03_node n_ many) := rfl
theorem ref03_node_is : stepS E cp47 noE 24 [rA tsNode n_, ri many] = (fun y : Bool => some (rb y : R)) (ref03_node n_ many) := by
  refine Eq.trans ?_ (ref03_node_n n_ many (fun y : Bool => some (rb y : R)))
  refine (stepG_is (nt := 119) (regs := [(0, rA tsNode n_), (1, ri many)])).trans ?_
  unfold ref03_node_q
  refine (pre2 (ref03_node_f2 n_ many _)).trans ?_
  refine .trans seq_push ?_
  refine (ref03_node_j2 n_ many _).trans ?_
  refine (pre1 (ref03_node_r4 n_ many _)).trans ?_
  refine .trans seq_push ?_
  refine (ref03_node_j5 n_ many _).trans ?_
  refine (pre1 (ref03_node_f8 n_ many _)).trans ?_
  refine .trans seq_push ?_
  refine (ref03_node_j8 n_ many _).trans ?_
  refine .trans seq_push ?_
  refine (ref03_node_j10 n_ many _).trans ?_
  refine (pre1 (ref03_node_f13 n_ many _)).trans ?_
  refine .trans seq_push ?_
  refine (ref03_node_j13 n_ many _).trans ?_
  refine (pre1 (ref03_node_r15 n_ many _)).trans ?_
  refine (pre1 (ref03_node_r16 n_ many _)).trans ?_
  refine (pre1 (ref03_node_r17 n_ many _)).trans ?_
  refine (ret_eq).trans ?_
  kernel_rfl
noncomputable def cp48 : CallP := withC cp47 24 [(.agg tsNode), pI] (.one pB) (fun y : Bool => y) (fun x => some (ref03_node x.1 x.2.1))
theorem cp48_ok : PureOK E cp48 := conS eok cp47_ok noE_ok fun x => Eq.mp (by kernel_rfl) (ref03_node_is x.1 x.2.1)
end
noncomputable abbrev C48 := codeOf E.P 25
noncomputable abbrev P48 {α : Type} := @preK α E 25 cp48 noE
def ref03_keeps_r1_q {β : Type} (op : Int) (K : Bool → β) : β := (bif (op == 4) then (K true) else (bif (op == 5) then (K true) else (bif (op == 8) then (K true) else (bif (op == 9) then (K true) else (bif (op == 10) then (K true) else (K (op == 11)))))))
def ref03_keeps_r1_p (op : Int) : Bool := ref03_keeps_r1_q op (fun y => y)
theorem ref03_keeps_r1_n {β : Type} (op : Int) (K : Bool → β) : ref03_keeps_r1_q op K = K (ref03_keeps_r1_p op) := (bif_k K rfl (bif_k K rfl (bif_k K rfl (bif_k K rfl (bif_k K rfl rfl)))))
theorem ref03_keeps_r1 {α : Type} (op : Int) (k : St → Option α) : P48 2 C48 ⟨[(0, ri op)], [], [], 25⟩ k = k ⟨[(2, rb (ref03_keeps_r1_p op))], [], [], 25⟩ := Eq.trans (by kernel_rfl) (ref03_keeps_r1_n op (fun y469 : Bool => k ⟨[(2, rb y469)], [], [], 25⟩))
/-- quilt/quiltref03.keeps -/
def ref03_keeps_q {β : Type} (op : Int) (K : Bool → β) : β := (K (ref03_keeps_r1_p op))
def ref03_keeps (op : Int) : Bool := ref03_keeps_q op (fun y => y)
theorem ref03_keeps_n {β : Type} (op : Int) (K : Bool → β) : ref03_keeps_q op K = K (ref03_keeps op) := rfl
theorem ref03_keeps_is (op : Int) : stepS E cp48 noE 25 [ri op] = (fun y : Bool => some (rb y : R)) (ref03_keeps op) := by
  refine Eq.trans ?_ (ref03_keeps_n op (fun y : Bool => some (rb y : R)))
  refine (stepG_is (nt := 25) (regs := [(0, ri op)])).trans ?_
  unfold ref03_keeps_q
  refine (pre2 (ref03_keeps_r1 op _)).trans ?_
  refine (ret_eq).trans ?_
  kernel_rfl
noncomputable def cp49 : CallP := withC cp48 25 [pI] (.one pB) (fun y : Bool => y) (fun x => some (ref03_keeps x.1))
theorem cp49_ok : PureOK E cp49 := conS eok cp48_ok noE_ok fun x => Eq.mp (by kernel_rfl) (ref03_keeps_is x.1)
noncomputable abbrev C49 := codeOf E.P 26
noncomputable abbrev P49 {α : Type} := @preK α E 26 cp49 noE
theorem ref02_May_f1 {α : Type} (s_ : I3) (k : St → Option α) : P49 1 C49 ⟨[(0, rA tsI3 s_)], [], [], 31⟩ k = k ⟨[(1, rC tsI3 s_)], [], [], 31⟩ := by kernel_rfl
def ref02_May_r1_q {β : Type} (s_ : I3) (K : Bool → β) : β := (bif (decide (s_.1 < 1)) then (K true) else (bif (decide (s_.1 > 16)) then (K true) else (bif (decide (s_.2.1 < 1)) then (K true) else (bif (decide (s_.2.1 > 16)) then (K true) else (bif (decide (s_.2.2 < 1)) then (K true) else (K (decide (s_.2.2 > 8))))))))
def ref02_May_r1_p (s_ : I3) : Bool := ref02_May_r1_q s_ (fun y => y)
theorem ref02_May_r1_n {β : Type} (s_ : I3) (K : Bool → β) : ref02_May_r1_q s_ K = K (ref02_May_r1_p s_) := (bif_k K rfl (bif_k K rfl (bif_k K rfl (bif_k K rfl (bif_k K rfl rfl)))))
theorem ref02_May_r1 {α : Type} (s_ : I3) (k : St → Option α) : P49 1 C49.r.l ⟨[(1, rC tsI3 s_)], [], [], 31⟩ k = k ⟨[(30, rb (ref02_May_r1_p s_))], [], [], 31⟩ := Eq.trans (by kernel_rfl) (ref02_May_r1_n s_ (fun y487 : Bool => k ⟨[(30, rb y487)], [], [], 31⟩))
theorem ref02_May_fz {α : Type} (k : St → Option α) : P49 1 C49.r.l.r.t ⟨[], [], [], 31⟩ k = k ⟨[(2, ri 10)], [], [], 31⟩ := by kernel_rfl
theorem ref02_May_fzx1 {α : Type} (k : St → Option α) : P49 1 C49.r.r ⟨[], [], [], 31⟩ k = k ⟨[(2, ri 0)], [], [], 31⟩ := by kernel_rfl
/-- quilt/quiltref02.May -/
def ref02_May_q {β : Type} (s_ : I3) (K : Int → β) : β := (bif (ref02_May_r1_p s_) then (K (10 : Int)) else (K (0 : Int)))
def ref02_May (s_ : I3) : Int := ref02_May_q s_ (fun y => y)
theorem ref02_May_n {β : Type} (s_ : I3) (K : Int → β) : ref02_May_q s_ K = K (ref02_May s_) := (bif_k K rfl rfl)
theorem ref02_May_is (s_ : I3) : stepS E cp49 noE 26 [rA tsI3 s_] = (fun y : Int => some (ri y : R)) (ref02_May s_) := by
  refine Eq.trans ?_ (ref02_May_n s_ (fun y : Int => some (ri y : R)))
  refine (stepG_is (nt := 31) (regs := [(0, rA tsI3 s_)])).trans ?_
  unfold ref02_May_q
  refine (pre1 (ref02_May_f1 s_ _)).trans ?_
  refine .trans seq_push ?_
  refine (pre1 (ref02_May_r1 s_ _)).trans ?_
  refine (cond_e (b := (ref02_May_r1_p s_)) (st' := ⟨[], [], [], 31⟩) ).trans (bif_g ?_ ?_)
  · refine (pre1 (ref02_May_fz _)).trans ?_
    refine (ret_eq).trans ?_
    refine seqC_ret.trans ?_
    kernel_rfl
  · refine (skip_eq).trans ?_
    refine (seqC_normal (st' := ⟨[], [], [], 31⟩)).trans ?_
    refine (pre1 (ref02_May_fzx1 _)).trans ?_
    refine (ret_eq).trans ?_
    kernel_rfl
noncomputable def cp50 : CallP := withC cp49 26 [(.agg tsI3)] (.one pI) (fun y : Int => y) (fun x => some (ref02_May x.1))
theorem cp50_ok : PureOK E cp50 := conS eok cp49_ok noE_ok fun x => Eq.mp (by kernel_rfl) (ref02_May_is x.1)
section
variable {α β : Type} (size : Int) (k_ : Int) (stride : Int) (pad : Int) (s516 : (Int × Int)) (y517 : (Int × Int)) (k : St → Option α) (q : Kont α)
noncomputable abbrev C50 := codeOf E.P 45
noncomputable abbrev P50 := @preK α E 45 cp50 noE
noncomputable abbrev R50 := @runCode α E 45 cp50 noE
abbrev S50_0 : St := ⟨[(0, ri size), (1, ri k_), (2, ri stride), (3, ri pad)], [], [], 56⟩
theorem ref02_Out_f1 : P50 1 C50 (S50_0 size k_ stride pad) k = k (S50_0 size k_ stride pad) := by kernel_rfl
def ref02_Out_r1_q (K : Bool → β) : β := (bif (decide (size < 1)) then (K true) else (bif (decide (size > 64)) then (K true) else (bif (decide (k_ < 1)) then (K true) else (bif (decide (k_ > 16)) then (K true) else (bif (decide (stride < 1)) then (K true) else (bif (decide (stride > 16)) then (K true) else (bif (decide (pad < 0)) then (K true) else (K (decide (pad > 16))))))))))
def ref02_Out_r1_p : Bool := ref02_Out_r1_q size k_ stride pad (fun y => y)
theorem ref02_Out_r1_n (K : Bool → β) : ref02_Out_r1_q size k_ stride pad K = K (ref02_Out_r1_p size k_ stride pad) := (bif_k K rfl (bif_k K rfl (bif_k K rfl (bif_k K rfl (bif_k K rfl (bif_k K rfl (bif_k K rfl rfl)))))))
theorem ref02_Out_r1 : P50 1 C50.r.l (S50_0 size k_ stride pad) k = k ⟨[(0, ri size), (1, ri k_), (2, ri stride), (3, ri pad), (40, rb (ref02_Out_r1_p size k_ stride pad))], [], [], 56⟩ := Eq.trans (by kernel_rfl) (ref02_Out_r1_n size k_ stride pad (fun y507 : Bool => k ⟨[(0, ri size), (1, ri k_), (2, ri stride), (3, ri pad), (40, rb y507)], [], [], 56⟩))
theorem ref02_Out_fz : P50 1 C50.r.l.r.t (S50_0 size k_ stride pad) k = k ⟨[(8, ri 0)], [], [], 56⟩ := by kernel_rfl
theorem ref02_Out_f4 : P50 1 C50.r.r (S50_0 size k_ stride pad) k = k ⟨[(0, ri size), (1, ri k_), (2, ri stride), (3, ri pad), (9, ri 0)], [], [], 56⟩ := by kernel_rfl
abbrev S50_1 : St := ⟨[(0, ri size), (1, ri k_), (2, ri stride), (3, ri pad), (9, ri 0), (10, ri (IntKind.wrap .i64 (0 - pad)))], [], [], 56⟩
theorem ref02_Out_f5 : P50 1 C50.r.r.r.l ⟨[(0, ri size), (1, ri k_), (2, ri stride), (3, ri pad), (9, ri 0)], [], [], 56⟩ k = k (S50_1 size k_ stride pad) := by kernel_rfl
abbrev S50_2 : St := ⟨[(0, ri size), (1, ri k_), (2, ri stride), (3, ri pad), (9, ri s516.1), (10, ri s516.2)], [], [], 56⟩
theorem ref02_Out_fzx1 : P50 1 C50.r.r.r.l.r.b.b.l (S50_2 size k_ stride pad s516) k = k ⟨[(0, ri size), (1, ri k_), (2, ri stride), (3, ri pad), (9, ri s516.1), (10, ri s516.2), (49, rb (decide ((IntKind.wrap .i64 (s516.2 + k_)) ≤ (IntKind.wrap .i64 (size + pad)))))], [], [], 56⟩ := by kernel_rfl
abbrev S50_3 : St := ⟨[(0, ri size), (1, ri k_), (2, ri stride), (3, ri pad), (9, ri (IntKind.wrap .i64 (s516.1 + 1))), (10, ri s516.2)], [], [], 56⟩
theorem ref02_Out_r7 : R50 C50.r.r.r.l.r.b.b.r.l.b (S50_2 size k_ stride pad s516) q = q .normal (S50_3 size k_ stride pad s516) := by kernel_rfl
theorem ref02_Out_r6 : R50 C50.r.r.r.l.r.b.b.r.r (S50_3 size k_ stride pad s516) q = q .normal ⟨[(0, ri size), (1, ri k_), (2, ri stride), (3, ri pad), (9, ri (IntKind.wrap .i64 (s516.1 + 1))), (10, ri (IntKind.wrap .i64 (s516.2 + stride)))], [], [], 56⟩ := by kernel_rfl
def ref02_Out_l5_p : Option ((Int × Int) ⊕ (Int × Int)) := (bif (decide ((IntKind.wrap .i64 (s516.2 + k_)) ≤ (IntKind.wrap .i64 (size + pad)))) then (some (Sum.inl ((IntKind.wrap .i64 (s516.1 + 1)), (IntKind.wrap .i64 (s516.2 + stride))))) else (some (Sum.inr s516)))
abbrev S50_4 : St := ⟨[(0, ri size), (1, ri k_), (2, ri stride), (3, ri pad), (9, ri y517.1), (10, ri y517.2)], [], [], 56⟩
theorem ref02_Out_l5_b : R50 C50.r.r.r.l.r.b.b (S50_2 size k_ stride pad s516) (loopKont 0 q) = Option.bind (ref02_Out_l5_p size k_ stride pad s516) (either (fun y : (Int × Int) => q .normal ⟨[(0, ri size), (1, ri k_), (2, ri stride), (3, ri pad), (9, ri y.1), (10, ri y.2)], [], [], 56⟩) (fun y517 : (Int × Int) => q (.exit 0) (S50_4 size k_ stride pad y517))) := by
  refine .trans ?_ (bif_b e2_0 e2_1)
  refine .trans seq_push ?_
  refine (pre1 (ref02_Out_fzx1 size k_ stride pad s516 _)).trans ?_
  refine (cond_e (b := (decide ((IntKind.wrap .i64 (s516.2 + k_)) ≤ (IntKind.wrap .i64 (size + pad))))) (st' := (S50_2 size k_ stride pad s516)) ).trans (bif_g ?_ ?_)
  · refine (skip_eq).trans ?_
    refine (seqC_normal (st' := (S50_2 size k_ stride pad s516))).trans ?_
    refine .trans seq_push ?_
    refine (block_push (id := 1)).trans ?_
    refine (ref02_Out_r7 size k_ stride pad s516 _).trans ?_
    refine block_normal.trans ?_
    refine (seqC_normal (st' := (S50_3 size k_ stride pad s516))).trans ?_
    refine (ref02_Out_r6 size k_ stride pad s516 _).trans ?_
    kernel_rfl
  · refine ((exit_eq (j := 0))).trans ?_
    refine seqC_exit.trans ?_
    kernel_rfl
theorem ref02_Out_l5 : R50 C50.r.r.r.l.r.b (S50_1 size k_ stride pad) q = Option.bind (iterN (ref02_Out_l5_p size k_ stride pad) LL ((0 : Int), (IntKind.wrap .i64 (0 - pad)))) (fun y517 : (Int × Int) => q (.exit 0) (S50_4 size k_ stride pad y517)) :=
  Eq.trans (by kernel_rfl) (loop_iter1 (S := fun s516 : (Int × Int) => (S50_2 size k_ stride pad s516)) (Y1 := fun y517 : (Int × Int) => ((.exit 0), (S50_4 size k_ stride pad y517))) (fun s q => ref02_Out_l5_b size k_ stride pad s q) (fun z => rfl) LL ((0 : Int), (IntKind.wrap .i64 (0 - pad))))
theorem ref02_Out_fzx2 : P50 1 C50.r.r.r.r ⟨[(9, ri y517.1)], [], [], 56⟩ k = k ⟨[(8, ri y517.1)], [], [], 56⟩ := by kernel_rfl
/-- quilt/quiltref02.Out -/
def ref02_Out : Option Int := (bif (ref02_Out_r1_p size k_ stride pad) then (some (0 : Int)) else (Option.bind (iterN (ref02_Out_l5_p size k_ stride pad) LL ((0 : Int), (IntKind.wrap .i64 (0 - pad)))) (fun y517 : (Int × Int) => (some y517.1))))
theorem ref02_Out_is : stepS E cp50 noE 45 [ri size, ri k_, ri stride, ri pad] = Option.bind (ref02_Out size k_ stride pad) (fun y : Int => some (ri y : R)) := by
  refine .trans ?_ (bif_b some_b (bind_b fun y517 => some_b))
  refine (stepG_is (nt := 56) (regs := [(0, ri size), (1, ri k_), (2, ri stride), (3, ri pad)])).trans ?_
  refine (pre1 (ref02_Out_f1 size k_ stride pad _)).trans ?_
  refine .trans seq_push ?_
  refine (pre1 (ref02_Out_r1 size k_ stride pad _)).trans ?_
  refine (cond_e (b := (ref02_Out_r1_p size k_ stride pad)) (st' := (S50_0 size k_ stride pad)) ).trans (bif_g ?_ ?_)
  · refine (pre1 (ref02_Out_fz size k_ stride pad _)).trans ?_
    refine (ret_eq).trans ?_
    refine seqC_ret.trans ?_
    kernel_rfl
  · refine (skip_eq).trans ?_
    refine (seqC_normal (st' := (S50_0 size k_ stride pad))).trans ?_
    refine (pre1 (ref02_Out_f4 size k_ stride pad _)).trans ?_
    refine .trans seq_push ?_
    refine (pre1 (ref02_Out_f5 size k_ stride pad _)).trans ?_
    refine (block_push (id := 0)).trans ?_
    refine (ref02_Out_l5 size k_ stride pad _).trans (bind_g fun y517 => ?_)
    refine block_same.trans ?_
    refine (seqC_normal (st' := ⟨[(9, ri y517.1)], [], [], 56⟩)).trans ?_
    refine (pre1 (ref02_Out_fzx2 y517 _)).trans ?_
    refine (ret_eq).trans ?_
    kernel_rfl
noncomputable def cp51 : CallP := withC cp50 45 [pI, pI, pI, pI] (.one pI) (fun y : Int => y) (fun x => ref02_Out x.1 x.2.1 x.2.2.1 x.2.2.2.1)
theorem cp51_ok : PureOK E cp51 := conS eok cp50_ok noE_ok fun x => Eq.mp (by kernel_rfl) (ref02_Out_is x.1 x.2.1 x.2.2.1 x.2.2.2.1)
end
noncomputable abbrev C51 := codeOf E.P 16
noncomputable abbrev P51 {α : Type} := @preK α E 16 cp51 noE
abbrev S51_0 (s_ : I3) : St := ⟨[(1, rC tsI3 s_)], [], [], 14⟩
theorem ref02_Size_f1 {α : Type} (s_ : I3) (k : St → Option α) : P51 1 C51 ⟨[(0, rA tsI3 s_)], [], [], 14⟩ k = k (S51_0 s_) := by kernel_rfl
theorem ref02_Size_f1000002 {α : Type} (s_ : I3) (k : St → Option α) : P51 1 C51.r.l (S51_0 s_) k = k ⟨[(1, rC tsI3 s_), (5, rb ((ref02_May s_) != 0))], [], [], 14⟩ := by kernel_rfl
theorem ref02_Size_fz {α : Type} (s_ : I3) (k : St → Option α) : P51 1 C51.r.l.r.t (S51_0 s_) k = k ⟨[(2, ri 0)], [], [], 14⟩ := by kernel_rfl
theorem ref02_Size_fzx1 {α : Type} (s_ : I3) (k : St → Option α) : P51 1 C51.r.r (S51_0 s_) k = k ⟨[(2, ri (IntKind.wrap .i64 ((IntKind.wrap .i64 (s_.1 * s_.2.1)) * s_.2.2)))], [], [], 14⟩ := by kernel_rfl
/-- quilt/quiltref02.Size -/
def ref02_Size_q {β : Type} (s_ : I3) (K : Int → β) : β := (bif ((ref02_May s_) != 0) then (K (0 : Int)) else (K (IntKind.wrap .i64 ((IntKind.wrap .i64 (s_.1 * s_.2.1)) * s_.2.2))))
def ref02_Size (s_ : I3) : Int := ref02_Size_q s_ (fun y => y)
theorem ref02_Size_n {β : Type} (s_ : I3) (K : Int → β) : ref02_Size_q s_ K = K (ref02_Size s_) := (bif_k K rfl rfl)
theorem ref02_Size_is (s_ : I3) : stepS E cp51 noE 16 [rA tsI3 s_] = (fun y : Int => some (ri y : R)) (ref02_Size s_) := by
  refine Eq.trans ?_ (ref02_Size_n s_ (fun y : Int => some (ri y : R)))
  refine (stepG_is (nt := 14) (regs := [(0, rA tsI3 s_)])).trans ?_
  unfold ref02_Size_q
  refine (pre1 (ref02_Size_f1 s_ _)).trans ?_
  refine .trans seq_push ?_
  refine (pre1 (ref02_Size_f1000002 s_ _)).trans ?_
  refine (cond_e (b := ((ref02_May s_) != 0)) (st' := (S51_0 s_)) ).trans (bif_g ?_ ?_)
  · refine (pre1 (ref02_Size_fz s_ _)).trans ?_
    refine (ret_eq).trans ?_
    refine seqC_ret.trans ?_
    kernel_rfl
  · refine (skip_eq).trans ?_
    refine (seqC_normal (st' := (S51_0 s_))).trans ?_
    refine (pre1 (ref02_Size_fzx1 s_ _)).trans ?_
    refine (ret_eq).trans ?_
    kernel_rfl
noncomputable def cp52 : CallP := withC cp51 16 [(.agg tsI3)] (.one pI) (fun y : Int => y) (fun x => some (ref02_Size x.1))
theorem cp52_ok : PureOK E cp52 := conS eok cp51_ok noE_ok fun x => Eq.mp (by kernel_rfl) (ref02_Size_is x.1)
section
variable {α β : Type} (n_ : Node) (l_ : (List I4)) (k : St → Option α) (q : Kont α)
noncomputable abbrev C52 := codeOf E.P 27
noncomputable abbrev P52 := @preK α E 27 cp52 noE
noncomputable abbrev R52 := @runCode α E 27 cp52 noE
noncomputable abbrev Q52 := @seqC α E 27 cp52 noE
def ref03_made_r1_p : Option Unit := (bif (decide ((0 : Int) < (l_.length : Int))) then (some ()) else none)
abbrev S52_0 : St := ⟨[(1, rl tsI4 l_), (2, rC tsNode n_), (4, rF 0), (5, rF 1)], [[di 0, di 0, di 0], [di ((gt l_ (0 : Int) dI4).1), di ((gt l_ (0 : Int) dI4).2.1), di ((gt l_ (0 : Int) dI4).2.2.1)]], [], 117⟩
theorem ref03_made_r1 : P52 2 C52 ⟨[(0, rA tsNode n_), (1, rl tsI4 l_)], [], [], 117⟩ k = Option.bind (ref03_made_r1_p l_) (fun y503 : Unit => k (S52_0 n_ l_)) := .trans (by kernel_rfl) (bif_b some_b none_b)
abbrev S52_1 : St := ⟨[(1, rl tsI4 l_), (2, rC tsNode n_), (4, rF 0), (5, rF 1), (12, ri n_.1)], [[di 0, di 0, di 0], [di ((gt l_ (0 : Int) dI4).1), di ((gt l_ (0 : Int) dI4).2.1), di ((gt l_ (0 : Int) dI4).2.2.1)]], [], 117⟩
theorem ref03_made_f3 : P52 1 C52.r.r.l (S52_0 n_ l_) k = k (S52_1 n_ l_) := by kernel_rfl
abbrev S52_2 : St := ⟨[(1, rl tsI4 l_), (2, rC tsNode n_), (4, rF 0), (5, rF 1), (12, ri n_.1), (13, rb (n_.1 == 1))], [[di 0, di 0, di 0], [di ((gt l_ (0 : Int) dI4).1), di ((gt l_ (0 : Int) dI4).2.1), di ((gt l_ (0 : Int) dI4).2.2.1)]], [], 117⟩
theorem ref03_made_f2000004 : P52 1 C52.r.r.l.r.b.l (S52_1 n_ l_) k = k (S52_2 n_ l_) := by kernel_rfl
abbrev S52_3 : St := ⟨[(1, rl tsI4 l_), (2, rC tsNode n_), (4, rF 0), (5, rF 1), (12, ri n_.1), (13, rb (n_.1 == 2))], [[di 0, di 0, di 0], [di ((gt l_ (0 : Int) dI4).1), di ((gt l_ (0 : Int) dI4).2.1), di ((gt l_ (0 : Int) dI4).2.2.1)]], [], 117⟩
theorem ref03_made_f2000005 : P52 1 C52.r.r.l.r.b.l.r.e (S52_2 n_ l_) k = k (S52_3 n_ l_) := by kernel_rfl
abbrev S52_4 : St := ⟨[(1, rl tsI4 l_), (2, rC tsNode n_), (4, rF 0), (5, rF 1), (12, ri n_.1), (13, rb (n_.1 == 4))], [[di 0, di 0, di 0], [di ((gt l_ (0 : Int) dI4).1), di ((gt l_ (0 : Int) dI4).2.1), di ((gt l_ (0 : Int) dI4).2.2.1)]], [], 117⟩
theorem ref03_made_f2000006 : P52 1 C52.r.r.l.r.b.l.r.e.r.e (S52_3 n_ l_) k = k (S52_4 n_ l_) := by kernel_rfl
abbrev S52_5 : St := ⟨[(1, rl tsI4 l_), (2, rC tsNode n_), (4, rF 0), (5, rF 1), (12, ri n_.1), (13, rb (n_.1 == 5))], [[di 0, di 0, di 0], [di ((gt l_ (0 : Int) dI4).1), di ((gt l_ (0 : Int) dI4).2.1), di ((gt l_ (0 : Int) dI4).2.2.1)]], [], 117⟩
theorem ref03_made_r6 : R52 C52.r.r.l.r.b.l.r.e.r.e.r.e (S52_4 n_ l_) q = q .normal (S52_5 n_ l_) := by kernel_rfl
def ref03_made_j3_q (K : Bool → β) : β := (bif (n_.1 == 1) then (K (n_.1 == 1)) else (bif (n_.1 == 2) then (K (n_.1 == 2)) else (bif (n_.1 == 4) then (K (n_.1 == 4)) else (K (n_.1 == 5)))))
def ref03_made_j3_p : Bool := ref03_made_j3_q n_ (fun y => y)
theorem ref03_made_j3_n (K : Bool → β) : ref03_made_j3_q n_ K = K (ref03_made_j3_p n_) := (bif_k K rfl (bif_k K rfl (bif_k K rfl rfl)))
abbrev S52_6 : St := ⟨[(1, rl tsI4 l_), (2, rC tsNode n_), (4, rF 0), (5, rF 1), (12, ri n_.1), (13, rb (ref03_made_j3_p n_))], [[di 0, di 0, di 0], [di ((gt l_ (0 : Int) dI4).1), di ((gt l_ (0 : Int) dI4).2.1), di ((gt l_ (0 : Int) dI4).2.2.1)]], [], 117⟩
theorem ref03_made_j3 : R52 C52.r.r.l.r.b.l (S52_1 n_ l_) (Q52 C52.r.r.l.r.b.r q) = R52 C52.r.r.l.r.b.r (S52_6 n_ l_) q := by
  refine Eq.trans ?_ (ref03_made_j3_n n_ (fun y504 : Bool => R52 C52.r.r.l.r.b.r ⟨[(1, rl tsI4 l_), (2, rC tsNode n_), (4, rF 0), (5, rF 1), (12, ri n_.1), (13, rb y504)], [[di 0, di 0, di 0], [di ((gt l_ (0 : Int) dI4).1), di ((gt l_ (0 : Int) dI4).2.1), di ((gt l_ (0 : Int) dI4).2.2.1)]], [], 117⟩ q))
  unfold ref03_made_j3_q
  refine (pre1 (ref03_made_f2000004 n_ l_ _)).trans ?_
  refine (cond_s (b := (n_.1 == 1)) ).trans (bif_g ?_ ?_)
  · refine (skip_eq).trans ?_
    refine (seqC_normal (st' := (S52_2 n_ l_))).trans ?_
    kernel_rfl
  · refine (pre1 (ref03_made_f2000005 n_ l_ _)).trans ?_
    refine (cond_s (b := (n_.1 == 2)) ).trans (bif_g ?_ ?_)
    · refine (skip_eq).trans ?_
      refine (seqC_normal (st' := (S52_3 n_ l_))).trans ?_
      kernel_rfl
    · refine (pre1 (ref03_made_f2000006 n_ l_ _)).trans ?_
      refine (cond_s (b := (n_.1 == 4)) ).trans (bif_g ?_ ?_)
      · refine (skip_eq).trans ?_
        refine (seqC_normal (st' := (S52_4 n_ l_))).trans ?_
        kernel_rfl
      · refine (ref03_made_r6 n_ l_ _).trans ?_
        refine (seqC_normal (st' := (S52_5 n_ l_))).trans ?_
        kernel_rfl
abbrev S52_7 : St := ⟨[(2, rC tsNode n_), (4, rF 0), (5, rF 1), (6, ri ((gt l_ (0 : Int) dI4).2.2.1))], [[di 0, di 0, di 0], [di ((gt l_ (0 : Int) dI4).1), di ((gt l_ (0 : Int) dI4).2.1), di ((gt l_ (0 : Int) dI4).2.2.1)]], [], 117⟩
theorem ref03_made_f8 : P52 1 C52.r.r.l.r.b.r.t (S52_6 n_ l_) k = k (S52_7 n_ l_) := by kernel_rfl
theorem ref03_made_f1000009 : P52 1 C52.r.r.l.r.b.r.t.r.l (S52_7 n_ l_) k = k ⟨[(2, rC tsNode n_), (4, rF 0), (5, rF 1), (6, ri ((gt l_ (0 : Int) dI4).2.2.1)), (22, rb (n_.1 == 1))], [[di 0, di 0, di 0], [di ((gt l_ (0 : Int) dI4).1), di ((gt l_ (0 : Int) dI4).2.1), di ((gt l_ (0 : Int) dI4).2.2.1)]], [], 117⟩ := by kernel_rfl
abbrev S52_8 : St := ⟨[(2, rC tsNode n_), (4, rF 0), (5, rF 1), (6, ri n_.2.2.2.2.2.1)], [[di 0, di 0, di 0], [di ((gt l_ (0 : Int) dI4).1), di ((gt l_ (0 : Int) dI4).2.1), di ((gt l_ (0 : Int) dI4).2.2.1)]], [], 117⟩
theorem ref03_made_r9 : R52 C52.r.r.l.r.b.r.t.r.l.r.t (S52_7 n_ l_) q = q .normal (S52_8 n_ l_) := by kernel_rfl
def ref03_made_j8_q (K : Int → β) : β := (bif (n_.1 == 1) then (K n_.2.2.2.2.2.1) else (K ((gt l_ (0 : Int) dI4).2.2.1)))
def ref03_made_j8_p : Int := ref03_made_j8_q n_ l_ (fun y => y)
theorem ref03_made_j8_n (K : Int → β) : ref03_made_j8_q n_ l_ K = K (ref03_made_j8_p n_ l_) := (bif_k K rfl rfl)
abbrev S52_9 : St := ⟨[(2, rC tsNode n_), (4, rF 0), (5, rF 1), (6, ri (ref03_made_j8_p n_ l_))], [[di 0, di 0, di 0], [di ((gt l_ (0 : Int) dI4).1), di ((gt l_ (0 : Int) dI4).2.1), di ((gt l_ (0 : Int) dI4).2.2.1)]], [], 117⟩
theorem ref03_made_j8 : R52 C52.r.r.l.r.b.r.t.r.l (S52_7 n_ l_) (Q52 C52.r.r.l.r.b.r.t.r.r q) = R52 C52.r.r.l.r.b.r.t.r.r (S52_9 n_ l_) q := by
  refine Eq.trans ?_ (ref03_made_j8_n n_ l_ (fun y505 : Int => R52 C52.r.r.l.r.b.r.t.r.r ⟨[(2, rC tsNode n_), (4, rF 0), (5, rF 1), (6, ri y505)], [[di 0, di 0, di 0], [di ((gt l_ (0 : Int) dI4).1), di ((gt l_ (0 : Int) dI4).2.1), di ((gt l_ (0 : Int) dI4).2.2.1)]], [], 117⟩ q))
  unfold ref03_made_j8_q
  refine (pre1 (ref03_made_f1000009 n_ l_ _)).trans ?_
  refine (cond_e (b := (n_.1 == 1)) (st' := (S52_7 n_ l_)) ).trans (bif_g ?_ ?_)
  · refine (ref03_made_r9 n_ l_ _).trans ?_
    refine (seqC_normal (st' := (S52_8 n_ l_))).trans ?_
    kernel_rfl
  · refine (skip_eq).trans ?_
    refine (seqC_normal (st' := (S52_7 n_ l_))).trans ?_
    kernel_rfl
def ref03_made_r10_p : Option (Int × Int) := (Option.bind (ref02_Out ((gt l_ (0 : Int) dI4).1) n_.2.2.1 n_.2.2.2.1 n_.2.2.2.2.1) (fun y518 : Int => (Option.bind (ref02_Out ((gt l_ (0 : Int) dI4).2.1) n_.2.2.1 n_.2.2.2.1 n_.2.2.2.2.1) (fun y519 : Int => (some (y518, y519))))))
theorem ref03_made_r10 : P52 1 C52.r.r.l.r.b.r.t.r.r (S52_9 n_ l_) k = Option.bind (ref03_made_r10_p n_ l_) (fun y520 : (Int × Int) => k ⟨[(4, rF 0)], [[di y520.1, di y520.2, di (ref03_made_j8_p n_ l_)], []], [], 117⟩) := .trans (by kernel_rfl) (bind_b fun y518 => (bind_b fun y519 => some_b))
theorem ref03_made_f1000012 : P52 1 C52.r.r.l.r.b.r.e (S52_6 n_ l_) k = k ⟨[(1, rl tsI4 l_), (2, rC tsNode n_), (4, rF 0), (5, rF 1), (12, ri n_.1), (45, rb (n_.1 == 3))], [[di 0, di 0, di 0], [di ((gt l_ (0 : Int) dI4).1), di ((gt l_ (0 : Int) dI4).2.1), di ((gt l_ (0 : Int) dI4).2.2.1)]], [], 117⟩ := by kernel_rfl
theorem ref03_made_fz : P52 1 C52.r.r.l.r.b.r.e.r.t (S52_1 n_ l_) k = k ⟨[(4, rF 0)], [[di 1, di 1, di n_.2.2.2.2.2.1], []], [], 117⟩ := by kernel_rfl
abbrev S52_10 : St := ⟨[(1, rl tsI4 l_), (2, rC tsNode n_), (4, rF 0), (5, rF 1), (12, ri n_.1), (50, rb (n_.1 == 6))], [[di 0, di 0, di 0], [di ((gt l_ (0 : Int) dI4).1), di ((gt l_ (0 : Int) dI4).2.1), di ((gt l_ (0 : Int) dI4).2.2.1)]], [], 117⟩
theorem ref03_made_f2000014 : P52 1 C52.r.r.l.r.b.r.e.r.e.l (S52_1 n_ l_) k = k (S52_10 n_ l_) := by kernel_rfl
abbrev S52_11 : St := ⟨[(1, rl tsI4 l_), (2, rC tsNode n_), (4, rF 0), (5, rF 1), (12, ri n_.1), (50, rb (n_.1 == 7))], [[di 0, di 0, di 0], [di ((gt l_ (0 : Int) dI4).1), di ((gt l_ (0 : Int) dI4).2.1), di ((gt l_ (0 : Int) dI4).2.2.1)]], [], 117⟩
theorem ref03_made_r14 : R52 C52.r.r.l.r.b.r.e.r.e.l.r.e (S52_10 n_ l_) q = q .normal (S52_11 n_ l_) := by kernel_rfl
def ref03_made_j13_q (K : Bool → β) : β := (bif (n_.1 == 6) then (K (n_.1 == 6)) else (K (n_.1 == 7)))
def ref03_made_j13_p : Bool := ref03_made_j13_q n_ (fun y => y)
theorem ref03_made_j13_n (K : Bool → β) : ref03_made_j13_q n_ K = K (ref03_made_j13_p n_) := (bif_k K rfl rfl)
abbrev S52_12 : St := ⟨[(1, rl tsI4 l_), (2, rC tsNode n_), (4, rF 0), (5, rF 1), (12, ri n_.1), (50, rb (ref03_made_j13_p n_))], [[di 0, di 0, di 0], [di ((gt l_ (0 : Int) dI4).1), di ((gt l_ (0 : Int) dI4).2.1), di ((gt l_ (0 : Int) dI4).2.2.1)]], [], 117⟩
theorem ref03_made_j13 : R52 C52.r.r.l.r.b.r.e.r.e.l (S52_1 n_ l_) (Q52 C52.r.r.l.r.b.r.e.r.e.r q) = R52 C52.r.r.l.r.b.r.e.r.e.r (S52_12 n_ l_) q := by
  refine Eq.trans ?_ (ref03_made_j13_n n_ (fun y521 : Bool => R52 C52.r.r.l.r.b.r.e.r.e.r ⟨[(1, rl tsI4 l_), (2, rC tsNode n_), (4, rF 0), (5, rF 1), (12, ri n_.1), (50, rb y521)], [[di 0, di 0, di 0], [di ((gt l_ (0 : Int) dI4).1), di ((gt l_ (0 : Int) dI4).2.1), di ((gt l_ (0 : Int) dI4).2.2.1)]], [], 117⟩ q))
  unfold ref03_made_j13_q
  refine (pre1 (ref03_made_f2000014 n_ l_ _)).trans ?_
  refine (cond_s (b := (n_.1 == 6)) ).trans (bif_g ?_ ?_)
  · refine (skip_eq).trans ?_
    refine (seqC_normal (st' := (S52_10 n_ l_))).trans ?_
    kernel_rfl
  · refine (ref03_made_r14 n_ l_ _).trans ?_
    refine (seqC_normal (st' := (S52_11 n_ l_))).trans ?_
    kernel_rfl
def ref03_made_r15_p : Option Bool := (bif (decide ((1 : Int) < (l_.length : Int))) then (some (!((((gt l_ (1 : Int) dI4).1) == ((gt l_ (0 : Int) dI4).1)) && ((((gt l_ (1 : Int) dI4).2.1) == ((gt l_ (0 : Int) dI4).2.1)) && ((((gt l_ (1 : Int) dI4).2.2.1) == ((gt l_ (0 : Int) dI4).2.2.1)) && true))))) else none)
theorem ref03_made_r15 : P52 1 C52.r.r.l.r.b.r.e.r.e.r.t (S52_12 n_ l_) k = Option.bind (ref03_made_r15_p l_) (fun y522 : Bool => k ⟨[(4, rF 0), (5, rF 1), (58, rb y522)], [[di 0, di 0, di 0], [di ((gt l_ (0 : Int) dI4).1), di ((gt l_ (0 : Int) dI4).2.1), di ((gt l_ (0 : Int) dI4).2.2.1)]], [], 117⟩) := .trans (by kernel_rfl) (bif_b some_b none_b)
abbrev S52_13 : St := ⟨[(4, rF 0), (5, rF 1)], [[di 0, di 0, di 0], [di ((gt l_ (0 : Int) dI4).1), di ((gt l_ (0 : Int) dI4).2.1), di ((gt l_ (0 : Int) dI4).2.2.1)]], [], 117⟩
abbrev S52_14 : St := ⟨[(4, rF 0)], [[di 0, di 0, di 0], []], [], 117⟩
theorem ref03_made_fzx1 : P52 1 C52.r.r.l.r.b.r.e.r.e.r.t.r.t (S52_13 l_) k = k S52_14 := by kernel_rfl
theorem ref03_made_f1000018 : P52 1 C52.r.r.l.r.b.r.e.r.e.r.e (S52_12 n_ l_) k = k ⟨[(1, rl tsI4 l_), (2, rC tsNode n_), (4, rF 0), (5, rF 1), (12, ri n_.1), (60, rb (n_.1 == 9))], [[di 0, di 0, di 0], [di ((gt l_ (0 : Int) dI4).1), di ((gt l_ (0 : Int) dI4).2.1), di ((gt l_ (0 : Int) dI4).2.2.1)]], [], 117⟩ := by kernel_rfl
theorem ref03_made_fzx2 : P52 1 C52.r.r.l.r.b.r.e.r.e.r.e.r.t (S52_1 n_ l_) k = k ⟨[(4, rF 0)], [[di (IntKind.wrap .i64 (((gt l_ (0 : Int) dI4).1) + 2)), di (IntKind.wrap .i64 (((gt l_ (0 : Int) dI4).2.1) + 2)), di ((gt l_ (0 : Int) dI4).2.2.1)], []], [], 117⟩ := by kernel_rfl
theorem ref03_made_f1000020 : P52 1 C52.r.r.l.r.b.r.e.r.e.r.e.r.e (S52_1 n_ l_) k = k ⟨[(1, rl tsI4 l_), (2, rC tsNode n_), (4, rF 0), (5, rF 1), (12, ri n_.1), (71, rb (n_.1 == 10))], [[di 0, di 0, di 0], [di ((gt l_ (0 : Int) dI4).1), di ((gt l_ (0 : Int) dI4).2.1), di ((gt l_ (0 : Int) dI4).2.2.1)]], [], 117⟩ := by kernel_rfl
def ref03_made_r20_p : Option Bool := (bif (decide ((1 : Int) < (l_.length : Int))) then (bif (((gt l_ (1 : Int) dI4).1) != ((gt l_ (0 : Int) dI4).1)) then (some true) else (bif (decide ((1 : Int) < (l_.length : Int))) then (some (((gt l_ (1 : Int) dI4).2.1) != ((gt l_ (0 : Int) dI4).2.1))) else none)) else none)
theorem ref03_made_r20 : P52 1 C52.r.r.l.r.b.r.e.r.e.r.e.r.e.r.t.l (S52_1 n_ l_) k = Option.bind (ref03_made_r20_p l_) (fun y524 : Bool => k ⟨[(1, rl tsI4 l_), (4, rF 0), (5, rF 1), (90, rb y524)], [[di 0, di 0, di 0], [di ((gt l_ (0 : Int) dI4).1), di ((gt l_ (0 : Int) dI4).2.1), di ((gt l_ (0 : Int) dI4).2.2.1)]], [], 117⟩) := .trans (by kernel_rfl) (bif_b (bif_b some_b (bif_b some_b none_b)) none_b)
abbrev S52_15 : St := ⟨[(1, rl tsI4 l_), (4, rF 0), (5, rF 1)], [[di 0, di 0, di 0], [di ((gt l_ (0 : Int) dI4).1), di ((gt l_ (0 : Int) dI4).2.1), di ((gt l_ (0 : Int) dI4).2.2.1)]], [], 117⟩
theorem ref03_made_fzx3 : P52 1 C52.r.r.l.r.b.r.e.r.e.r.e.r.e.r.t.l.r.t (S52_15 l_) k = k S52_14 := by kernel_rfl
def ref03_made_r22_p : Option Unit := (bif (decide ((1 : Int) < (l_.length : Int))) then (some ()) else none)
theorem ref03_made_r22 : P52 1 C52.r.r.l.r.b.r.e.r.e.r.e.r.e.r.t.r (S52_15 l_) k = Option.bind (ref03_made_r22_p l_) (fun y525 : Unit => k ⟨[(4, rF 0)], [[di ((gt l_ (0 : Int) dI4).1), di ((gt l_ (0 : Int) dI4).2.1), di (IntKind.wrap .i64 (((gt l_ (0 : Int) dI4).2.2.1) + ((gt l_ (1 : Int) dI4).2.2.1)))], []], [], 117⟩) := .trans (by kernel_rfl) (bif_b some_b none_b)
theorem ref03_made_f1000024 : P52 1 C52.r.r.l.r.b.r.e.r.e.r.e.r.e.r.e (S52_1 n_ l_) k = k ⟨[(2, rC tsNode n_), (4, rF 0), (5, rF 1), (105, rb (n_.1 == 11))], [[di 0, di 0, di 0], [di ((gt l_ (0 : Int) dI4).1), di ((gt l_ (0 : Int) dI4).2.1), di ((gt l_ (0 : Int) dI4).2.2.1)]], [], 117⟩ := by kernel_rfl
def ref03_made_r24_q (K : Bool → β) : β := (K ((ref02_Size (n_.2.2.2.2.2.2.2.2.2.1, n_.2.2.2.2.2.2.2.2.2.2.1, n_.2.2.2.2.2.2.2.2.2.2.2.1)) != (ref02_Size ((gt l_ (0 : Int) dI4).1, (gt l_ (0 : Int) dI4).2.1, (gt l_ (0 : Int) dI4).2.2.1))))
def ref03_made_r24_p : Bool := ref03_made_r24_q n_ l_ (fun y => y)
theorem ref03_made_r24_n (K : Bool → β) : ref03_made_r24_q n_ l_ K = K (ref03_made_r24_p n_ l_) := rfl
abbrev S52_16 : St := ⟨[(2, rC tsNode n_), (4, rF 0), (5, rF 1)], [[di 0, di 0, di 0], [di ((gt l_ (0 : Int) dI4).1), di ((gt l_ (0 : Int) dI4).2.1), di ((gt l_ (0 : Int) dI4).2.2.1)]], [], 117⟩
theorem ref03_made_r24 : P52 1 C52.r.r.l.r.b.r.e.r.e.r.e.r.e.r.e.r.t.l (S52_16 n_ l_) k = k ⟨[(2, rC tsNode n_), (4, rF 0), (112, rb (ref03_made_r24_p n_ l_))], [[di 0, di 0, di 0], []], [], 117⟩ := Eq.trans (by kernel_rfl) (ref03_made_r24_n n_ l_ (fun y527 : Bool => k ⟨[(2, rC tsNode n_), (4, rF 0), (112, rb y527)], [[di 0, di 0, di 0], []], [], 117⟩))
abbrev S52_17 : St := ⟨[(2, rC tsNode n_), (4, rF 0)], [[di 0, di 0, di 0], []], [], 117⟩
theorem ref03_made_fzx4 : P52 1 C52.r.r.l.r.b.r.e.r.e.r.e.r.e.r.e.r.t.l.r.t (S52_17 n_) k = k S52_14 := by kernel_rfl
theorem ref03_made_fzx5 : P52 1 C52.r.r.l.r.b.r.e.r.e.r.e.r.e.r.e.r.t.r (S52_17 n_) k = k ⟨[(4, rF 0)], [[di n_.2.2.2.2.2.2.2.2.2.1, di n_.2.2.2.2.2.2.2.2.2.2.1, di n_.2.2.2.2.2.2.2.2.2.2.2.1], []], [], 117⟩ := by kernel_rfl
def ref03_made_j2_p : Option (Unit ⊕ (Int × Int × Int)) := (bif (ref03_made_j3_p n_) then (Option.bind (ref03_made_r10_p n_ l_) (fun y520 : (Int × Int) => (some (Sum.inr (y520.1, y520.2, (ref03_made_j8_p n_ l_)))))) else (bif (n_.1 == 3) then (some (Sum.inr ((1 : Int), (1 : Int), n_.2.2.2.2.2.1))) else (bif (ref03_made_j13_p n_) then (Option.bind (ref03_made_r15_p l_) (fun y522 : Bool => (bif y522 then (some (Sum.inr ((0 : Int), (0 : Int), (0 : Int)))) else (some (Sum.inl ()))))) else (bif (n_.1 == 9) then (some (Sum.inr ((IntKind.wrap .i64 (((gt l_ (0 : Int) dI4).1) + 2)), (IntKind.wrap .i64 (((gt l_ (0 : Int) dI4).2.1) + 2)), (gt l_ (0 : Int) dI4).2.2.1))) else (bif (n_.1 == 10) then (Option.bind (ref03_made_r20_p l_) (fun y524 : Bool => (bif y524 then (some (Sum.inr ((0 : Int), (0 : Int), (0 : Int)))) else (Option.bind (ref03_made_r22_p l_) (fun y525 : Unit => (some (Sum.inr ((gt l_ (0 : Int) dI4).1, (gt l_ (0 : Int) dI4).2.1, (IntKind.wrap .i64 (((gt l_ (0 : Int) dI4).2.2.1) + ((gt l_ (1 : Int) dI4).2.2.1))))))))))) else (bif (n_.1 == 11) then (bif (ref03_made_r24_p n_ l_) then (some (Sum.inr ((0 : Int), (0 : Int), (0 : Int)))) else (some (Sum.inr (n_.2.2.2.2.2.2.2.2.2.1, n_.2.2.2.2.2.2.2.2.2.2.1, n_.2.2.2.2.2.2.2.2.2.2.2.1)))) else (some (Sum.inl ()))))))))
theorem ref03_made_j2 : R52 C52.r.r.l (S52_0 n_ l_) (Q52 C52.r.r.r q) = Option.bind (ref03_made_j2_p n_ l_) (either (fun y528 : Unit => R52 C52.r.r.r (S52_13 l_) q) (fun y529 : (Int × Int × Int) => q .ret ⟨[(4, rF 0)], [(tsI3.leaves y529), []], [], 117⟩)) := by
  refine .trans ?_ (bif_b (bind_b fun y520 => e2_1) (bif_b e2_1 (bif_b (bind_b fun y522 => (bif_b e2_1 e2_0)) (bif_b e2_1 (bif_b (bind_b fun y524 => (bif_b e2_1 (bind_b fun y525 => e2_1))) (bif_b (bif_b e2_1 e2_1) e2_0))))))
  refine (pre1 (ref03_made_f3 n_ l_ _)).trans ?_
  refine (block_push (id := 0)).trans ?_
  refine .trans seq_push ?_
  refine (ref03_made_j3 n_ l_ _).trans ?_
  refine (cond_s (b := (ref03_made_j3_p n_)) ).trans (bif_g ?_ ?_)
  · refine (pre1 (ref03_made_f8 n_ l_ _)).trans ?_
    refine .trans seq_push ?_
    refine (ref03_made_j8 n_ l_ _).trans ?_
    refine (pre1 (ref03_made_r10 n_ l_ _)).trans (bind_g fun y520 => ?_)
    refine (ret_eq).trans ?_
    refine block_ret.trans ?_
    refine seqC_ret.trans ?_
    kernel_rfl
  · refine (pre1 (ref03_made_f1000012 n_ l_ _)).trans ?_
    refine (cond_e (b := (n_.1 == 3)) (st' := (S52_1 n_ l_)) ).trans (bif_g ?_ ?_)
    · refine (pre1 (ref03_made_fz n_ l_ _)).trans ?_
      refine (ret_eq).trans ?_
      refine block_ret.trans ?_
      refine seqC_ret.trans ?_
      kernel_rfl
    · refine .trans seq_push ?_
      refine (ref03_made_j13 n_ l_ _).trans ?_
      refine (cond_s (b := (ref03_made_j13_p n_)) ).trans (bif_g ?_ ?_)
      · refine (pre1 (ref03_made_r15 n_ l_ _)).trans (bind_g fun y522 => ?_)
        refine (cond_e (b := y522) (st' := (S52_13 l_)) ).trans (bif_g ?_ ?_)
        · refine (pre1 (ref03_made_fzx1 l_ _)).trans ?_
          refine (ret_eq).trans ?_
          refine block_ret.trans ?_
          refine seqC_ret.trans ?_
          kernel_rfl
        · refine (skip_eq).trans ?_
          refine block_normal.trans ?_
          refine (seqC_normal (st' := (S52_13 l_))).trans ?_
          kernel_rfl
      · refine (pre1 (ref03_made_f1000018 n_ l_ _)).trans ?_
        refine (cond_e (b := (n_.1 == 9)) (st' := (S52_1 n_ l_)) ).trans (bif_g ?_ ?_)
        · refine (pre1 (ref03_made_fzx2 n_ l_ _)).trans ?_
          refine (ret_eq).trans ?_
          refine block_ret.trans ?_
          refine seqC_ret.trans ?_
          kernel_rfl
        · refine (pre1 (ref03_made_f1000020 n_ l_ _)).trans ?_
          refine (cond_e (b := (n_.1 == 10)) (st' := (S52_1 n_ l_)) ).trans (bif_g ?_ ?_)
          · refine .trans seq_push ?_
            refine (pre1 (ref03_made_r20 n_ l_ _)).trans (bind_g fun y524 => ?_)
            refine (cond_e (b := y524) (st' := (S52_15 l_)) ).trans (bif_g ?_ ?_)
            · refine (pre1 (ref03_made_fzx3 l_ _)).trans ?_
              refine (ret_eq).trans ?_
              refine seqC_ret.trans ?_
              refine block_ret.trans ?_
              refine seqC_ret.trans ?_
              kernel_rfl
            · refine (skip_eq).trans ?_
              refine (seqC_normal (st' := (S52_15 l_))).trans ?_
              refine (pre1 (ref03_made_r22 l_ _)).trans (bind_g fun y525 => ?_)
              refine (ret_eq).trans ?_
              refine block_ret.trans ?_
              refine seqC_ret.trans ?_
              kernel_rfl
          · refine (pre1 (ref03_made_f1000024 n_ l_ _)).trans ?_
            refine (cond_e (b := (n_.1 == 11)) (st' := (S52_16 n_ l_)) ).trans (bif_g ?_ ?_)
            · refine .trans seq_push ?_
              refine (pre1 (ref03_made_r24 n_ l_ _)).trans ?_
              refine (cond_e (b := (ref03_made_r24_p n_ l_)) (st' := (S52_17 n_)) ).trans (bif_g ?_ ?_)
              · refine (pre1 (ref03_made_fzx4 n_ _)).trans ?_
                refine (ret_eq).trans ?_
                refine seqC_ret.trans ?_
                refine block_ret.trans ?_
                refine seqC_ret.trans ?_
                kernel_rfl
              · refine (skip_eq).trans ?_
                refine (seqC_normal (st' := (S52_17 n_))).trans ?_
                refine (pre1 (ref03_made_fzx5 n_ _)).trans ?_
                refine (ret_eq).trans ?_
                refine block_ret.trans ?_
                refine seqC_ret.trans ?_
                kernel_rfl
            · refine (skip_eq).trans ?_
              refine block_normal.trans ?_
              refine (seqC_normal (st' := (S52_13 l_))).trans ?_
              kernel_rfl
theorem ref03_made_fzx6 : P52 1 C52.r.r.r (S52_13 l_) k = k ⟨[(4, rF 0)], [[di ((gt l_ (0 : Int) dI4).1), di ((gt l_ (0 : Int) dI4).2.1), di ((gt l_ (0 : Int) dI4).2.2.1)], []], [], 117⟩ := by kernel_rfl
/-- quilt/quiltref03.made -/
def ref03_made : Option I3 := (Option.bind (ref03_made_r1_p l_) (fun y503 : Unit => (Option.bind (ref03_made_j2_p n_ l_) (either (fun y528 : Unit => (some ((gt l_ (0 : Int) dI4).1, (gt l_ (0 : Int) dI4).2.1, (gt l_ (0 : Int) dI4).2.2.1))) (fun y529 : (Int × Int × Int) => (some y529))))))
theorem ref03_made_is : stepS E cp52 noE 27 [rA tsNode n_, rl tsI4 l_] = Option.bind (ref03_made n_ l_) (fun y : I3 => some (rA tsI3 y : R)) := by
  refine .trans ?_ (bind_b fun y503 => (bind_b (either_b (fun y528 => some_b) (fun y529 => some_b))))
  refine (stepG_is (nt := 117) (regs := [(0, rA tsNode n_), (1, rl tsI4 l_)])).trans ?_
  refine (pre2 (ref03_made_r1 n_ l_ _)).trans (bind_g fun y503 => ?_)
  refine .trans seq_push ?_
  refine (ref03_made_j2 n_ l_ _).trans (bind_g (either_g (fun y528 => ?_) (fun y529 => ?_)))
  · refine (pre1 (ref03_made_fzx6 l_ _)).trans ?_
    refine (ret_eq).trans ?_
    kernel_rfl
  · kernel_rfl
noncomputable def cp53 : CallP := withC cp52 27 [(.agg tsNode), (pL tsI4)] (.one (.agg tsI3)) (fun y : I3 => y) (fun x => ref03_made x.1 x.2.1)
theorem cp53_ok : PureOK E cp53 := conS eok cp52_ok noE_ok fun x => Eq.mp (by kernel_rfl) (ref03_made_is x.1 x.2.1)
end
section
variable {α β : Type} (n_ : Node) (s_ : I3) (k : St → Option α)
noncomputable abbrev C53 := codeOf E.P 28
noncomputable abbrev P53 := @preK α E 28 cp53 noE
abbrev S53_0 : St := ⟨[(2, rC tsNode n_), (3, rC tsI3 s_)], [], [], 46⟩
theorem ref03_many_f1 : P53 1 C53 ⟨[(0, rA tsNode n_), (1, rA tsI3 s_)], [], [], 46⟩ k = k (S53_0 n_ s_) := by kernel_rfl
abbrev S53_1 : St := ⟨[(2, rC tsNode n_), (3, rC tsI3 s_), (7, ri n_.1)], [], [], 46⟩
theorem ref03_many_f2 : P53 1 C53.r.l (S53_0 n_ s_) k = k (S53_1 n_ s_) := by kernel_rfl
theorem ref03_many_f1000003 : P53 1 C53.r.l.r.b (S53_1 n_ s_) k = k ⟨[(2, rC tsNode n_), (3, rC tsI3 s_), (7, ri n_.1), (8, rb (n_.1 == 1))], [], [], 46⟩ := by kernel_rfl
def ref03_many_r3_q (K : Int → β) : β := (K (IntKind.wrap .i64 ((IntKind.wrap .i64 ((IntKind.wrap .i64 (n_.2.2.1 * n_.2.2.1)) * s_.2.2)) * n_.2.2.2.2.2.1)))
def ref03_many_r3_p : Int := ref03_many_r3_q n_ s_ (fun y => y)
theorem ref03_many_r3_n (K : Int → β) : ref03_many_r3_q n_ s_ K = K (ref03_many_r3_p n_ s_) := rfl
theorem ref03_many_r3 : P53 1 C53.r.l.r.b.r.t (S53_1 n_ s_) k = k ⟨[(4, ri (ref03_many_r3_p n_ s_)), (5, ri n_.2.2.2.2.2.1)], [], [], 46⟩ := Eq.trans (by kernel_rfl) (ref03_many_r3_n n_ s_ (fun y532 : Int => k ⟨[(4, ri y532), (5, ri n_.2.2.2.2.2.1)], [], [], 46⟩))
theorem ref03_many_f1000005 : P53 1 C53.r.l.r.b.r.e (S53_1 n_ s_) k = k ⟨[(2, rC tsNode n_), (3, rC tsI3 s_), (7, ri n_.1), (23, rb (n_.1 == 2))], [], [], 46⟩ := by kernel_rfl
theorem ref03_many_fz : P53 1 C53.r.l.r.b.r.e.r.t (S53_1 n_ s_) k = k ⟨[(4, ri (IntKind.wrap .i64 ((IntKind.wrap .i64 (n_.2.2.1 * n_.2.2.1)) * s_.2.2))), (5, ri s_.2.2)], [], [], 46⟩ := by kernel_rfl
theorem ref03_many_f1000007 : P53 1 C53.r.l.r.b.r.e.r.e (S53_1 n_ s_) k = k ⟨[(2, rC tsNode n_), (3, rC tsI3 s_), (7, ri n_.1), (35, rb (n_.1 == 3))], [], [], 46⟩ := by kernel_rfl
theorem ref03_many_fzx1 : P53 1 C53.r.l.r.b.r.e.r.e.r.t (S53_1 n_ s_) k = k ⟨[(4, ri (IntKind.wrap .i64 ((ref02_Size s_) * n_.2.2.2.2.2.1))), (5, ri n_.2.2.2.2.2.1)], [], [], 46⟩ := by kernel_rfl
theorem ref03_many_f1000009 : P53 1 C53.r.l.r.b.r.e.r.e.r.e (S53_1 n_ s_) k = k ⟨[(44, rb (n_.1 == 12))], [], [], 46⟩ := by kernel_rfl
theorem ref03_many_fzx2 : P53 1 C53.r.l.r.b.r.e.r.e.r.e.r.t ⟨[], [], [], 46⟩ k = k ⟨[(4, ri 256), (5, ri 0)], [], [], 46⟩ := by kernel_rfl
theorem ref03_many_fzx3 : P53 1 C53.r.r ⟨[], [], [], 46⟩ k = k ⟨[(4, ri 0), (5, ri 0)], [], [], 46⟩ := by kernel_rfl
/-- quilt/quiltref03.many -/
def ref03_many_q (K : (Int × Int) → β) : β := (bif (n_.1 == 1) then (K ((ref03_many_r3_p n_ s_), n_.2.2.2.2.2.1)) else (bif (n_.1 == 2) then (K ((IntKind.wrap .i64 ((IntKind.wrap .i64 (n_.2.2.1 * n_.2.2.1)) * s_.2.2)), s_.2.2)) else (bif (n_.1 == 3) then (K ((IntKind.wrap .i64 ((ref02_Size s_) * n_.2.2.2.2.2.1)), n_.2.2.2.2.2.1)) else (bif (n_.1 == 12) then (K ((256 : Int), (0 : Int))) else (K ((0 : Int), (0 : Int)))))))
def ref03_many : (Int × Int) := ref03_many_q n_ s_ (fun y => y)
theorem ref03_many_n (K : (Int × Int) → β) : ref03_many_q n_ s_ K = K (ref03_many n_ s_) := (bif_k K rfl (bif_k K rfl (bif_k K rfl (bif_k K rfl rfl))))
theorem ref03_many_is : stepS E cp53 noE 28 [rA tsNode n_, rA tsI3 s_] = (fun y : (Int × Int) => some (.tup [ri y.1, ri y.2] : R)) (ref03_many n_ s_) := by
  refine Eq.trans ?_ (ref03_many_n n_ s_ (fun y : (Int × Int) => some (.tup [ri y.1, ri y.2] : R)))
  refine (stepG_is (nt := 46) (regs := [(0, rA tsNode n_), (1, rA tsI3 s_)])).trans ?_
  unfold ref03_many_q
  refine (pre1 (ref03_many_f1 n_ s_ _)).trans ?_
  refine .trans seq_push ?_
  refine (pre1 (ref03_many_f2 n_ s_ _)).trans ?_
  refine (block_push (id := 0)).trans ?_
  refine (pre1 (ref03_many_f1000003 n_ s_ _)).trans ?_
  refine (cond_e (b := (n_.1 == 1)) (st' := (S53_1 n_ s_)) ).trans (bif_g ?_ ?_)
  · refine (pre1 (ref03_many_r3 n_ s_ _)).trans ?_
    refine (ret_eq).trans ?_
    refine block_ret.trans ?_
    refine seqC_ret.trans ?_
    kernel_rfl
  · refine (pre1 (ref03_many_f1000005 n_ s_ _)).trans ?_
    refine (cond_e (b := (n_.1 == 2)) (st' := (S53_1 n_ s_)) ).trans (bif_g ?_ ?_)
    · refine (pre1 (ref03_many_fz n_ s_ _)).trans ?_
      refine (ret_eq).trans ?_
      refine block_ret.trans ?_
      refine seqC_ret.trans ?_
      kernel_rfl
    · refine (pre1 (ref03_many_f1000007 n_ s_ _)).trans ?_
      refine (cond_e (b := (n_.1 == 3)) (st' := (S53_1 n_ s_)) ).trans (bif_g ?_ ?_)
      · refine (pre1 (ref03_many_fzx1 n_ s_ _)).trans ?_
        refine (ret_eq).trans ?_
        refine block_ret.trans ?_
        refine seqC_ret.trans ?_
        kernel_rfl
      · refine (pre1 (ref03_many_f1000009 n_ s_ _)).trans ?_
        refine (cond_e (b := (n_.1 == 12)) (st' := ⟨[], [], [], 46⟩) ).trans (bif_g ?_ ?_)
        · refine (pre1 (ref03_many_fzx2 _)).trans ?_
          refine (ret_eq).trans ?_
          refine block_ret.trans ?_
          refine seqC_ret.trans ?_
          kernel_rfl
        · refine (skip_eq).trans ?_
          refine block_normal.trans ?_
          refine (seqC_normal (st' := ⟨[], [], [], 46⟩)).trans ?_
          refine (pre1 (ref03_many_fzx3 _)).trans ?_
          refine (ret_eq).trans ?_
          kernel_rfl
noncomputable def cp54 : CallP := withC cp53 28 [(.agg tsNode), (.agg tsI3)] (.tup [pI, pI]) (fun y : (Int × Int) => (y.1, y.2, ())) (fun x => some (ref03_many x.1 x.2.1))
theorem cp54_ok : PureOK E cp54 := conS eok cp53_ok noE_ok fun x => Eq.mp (by kernel_rfl) (ref03_many_is x.1 x.2.1)
end
section
variable {α β : Type} (n_ : Node) (l_ : (List I4)) (s480 : Int) (s498 : Int) (y530 : I3) (y533 : (Int × Int)) (s547 : Int) (k : St → Option α) (q : Kont α)
noncomputable abbrev C54 := codeOf E.P 14
noncomputable abbrev P54 := @preK α E 14 cp54 noE
noncomputable abbrev R54 := @runCode α E 14 cp54 noE
abbrev S54_0 : St := ⟨[(1, rl tsI4 l_), (2, rC tsNode n_), (4, rF 0)], [[di 0, di 0, di 0, di 0]], [], 101⟩
theorem ref03_Value_f1 : P54 1 C54 ⟨[(0, rA tsNode n_), (1, rl tsI4 l_)], [], [], 101⟩ k = k (S54_0 n_ l_) := by kernel_rfl
theorem ref03_Value_f1000002 : P54 1 C54.r.l (S54_0 n_ l_) k = k ⟨[(1, rl tsI4 l_), (2, rC tsNode n_), (4, rF 0), (16, rb (!(ref03_node n_ (l_.length : Int))))], [[di 0, di 0, di 0, di 0]], [], 101⟩ := by kernel_rfl
abbrev S54_1 : St := ⟨[(4, rF 0), (5, ri 11)], [[di 0, di 0, di 0, di 0]], [], 101⟩
theorem ref03_Value_fz : P54 1 C54.r.l.r.t (S54_0 n_ l_) k = k S54_1 := by kernel_rfl
abbrev S54_2 : St := ⟨[(1, rl tsI4 l_), (2, rC tsNode n_), (4, rF 0), (6, ri 0)], [[di 0, di 0, di 0, di 0]], [], 101⟩
theorem ref03_Value_f4 : P54 1 C54.r.r.l (S54_0 n_ l_) k = k (S54_2 n_ l_) := by kernel_rfl
abbrev S54_3 : St := ⟨[(1, rl tsI4 l_), (2, rC tsNode n_), (4, rF 0), (6, ri s480)], [[di 0, di 0, di 0, di 0]], [], 101⟩
theorem ref03_Value_fzx1 : P54 1 C54.r.r.l.r.b.b.l (S54_3 n_ l_ s480) k = k ⟨[(1, rl tsI4 l_), (2, rC tsNode n_), (4, rF 0), (6, ri s480), (21, rb (decide (s480 < (l_.length : Int))))], [[di 0, di 0, di 0, di 0]], [], 101⟩ := by kernel_rfl
def ref03_Value_r6_p : Option Bool := (bif (ref03_keeps n_.1) then (bif (decide ((0 : Int) ≤ s480)) then (bif (decide (s480 < (l_.length : Int))) then (some (((gt l_ s480 dI4).2.2.2) != n_.2.2.2.2.2.2.2.2.1)) else none) else none) else (some false))
theorem ref03_Value_r6 : P54 1 C54.r.r.l.r.b.b.r.l.b (S54_3 n_ l_ s480) k = Option.bind (ref03_Value_r6_p n_ l_ s480) (fun y482 : Bool => k ⟨[(1, rl tsI4 l_), (2, rC tsNode n_), (4, rF 0), (6, ri s480), (36, rb y482)], [[di 0, di 0, di 0, di 0]], [], 101⟩) := .trans (by kernel_rfl) (bif_b (bif_b (bif_b some_b none_b) none_b) some_b)
theorem ref03_Value_fzx2 : P54 1 C54.r.r.l.r.b.b.r.l.b.r.t (S54_3 n_ l_ s480) k = k S54_1 := by kernel_rfl
theorem ref03_Value_r5 : R54 C54.r.r.l.r.b.b.r.r (S54_3 n_ l_ s480) q = q .normal ⟨[(1, rl tsI4 l_), (2, rC tsNode n_), (4, rF 0), (6, ri (IntKind.wrap .i64 (s480 + 1)))], [[di 0, di 0, di 0, di 0]], [], 101⟩ := by kernel_rfl
def ref03_Value_l4_p : Option (Int ⊕ (Int ⊕ Unit)) := (bif (decide (s480 < (l_.length : Int))) then (Option.bind (ref03_Value_r6_p n_ l_ s480) (fun y482 : Bool => (bif y482 then (some (Sum.inr (Sum.inr ()))) else (some (Sum.inl (IntKind.wrap .i64 (s480 + 1))))))) else (some (Sum.inr (Sum.inl s480))))
abbrev S54_4 (y483 : Int) : St := ⟨[(1, rl tsI4 l_), (2, rC tsNode n_), (4, rF 0), (6, ri y483)], [[di 0, di 0, di 0, di 0]], [], 101⟩
theorem ref03_Value_l4_b : R54 C54.r.r.l.r.b.b (S54_3 n_ l_ s480) (loopKont 1 q) = Option.bind (ref03_Value_l4_p n_ l_ s480) (either (fun y : Int => q .normal ⟨[(1, rl tsI4 l_), (2, rC tsNode n_), (4, rF 0), (6, ri y)], [[di 0, di 0, di 0, di 0]], [], 101⟩) (either (fun y483 : Int => q (.exit 0) (S54_4 n_ l_ y483)) (fun y484 : Unit => q .ret S54_1))) := by
  refine .trans ?_ (bif_b (bind_b fun y482 => (bif_b e3_2 e3_0)) e3_1)
  refine .trans seq_push ?_
  refine (pre1 (ref03_Value_fzx1 n_ l_ s480 _)).trans ?_
  refine (cond_e (b := (decide (s480 < (l_.length : Int)))) (st' := (S54_3 n_ l_ s480)) ).trans (bif_g ?_ ?_)
  · refine (skip_eq).trans ?_
    refine (seqC_normal (st' := (S54_3 n_ l_ s480))).trans ?_
    refine .trans seq_push ?_
    refine (block_push (id := 1)).trans ?_
    refine (pre1 (ref03_Value_r6 n_ l_ s480 _)).trans (bind_g fun y482 => ?_)
    refine (cond_e (b := y482) (st' := (S54_3 n_ l_ s480)) ).trans (bif_g ?_ ?_)
    · refine (pre1 (ref03_Value_fzx2 n_ l_ s480 _)).trans ?_
      refine (ret_eq).trans ?_
      refine block_ret.trans ?_
      refine seqC_ret.trans ?_
      kernel_rfl
    · refine (skip_eq).trans ?_
      refine block_normal.trans ?_
      refine (seqC_normal (st' := (S54_3 n_ l_ s480))).trans ?_
      refine (ref03_Value_r5 n_ l_ s480 _).trans ?_
      kernel_rfl
  · refine ((exit_eq (j := 0))).trans ?_
    refine seqC_exit.trans ?_
    kernel_rfl
theorem ref03_Value_l4 : R54 C54.r.r.l.r.b (S54_2 n_ l_) q = Option.bind (iterN (ref03_Value_l4_p n_ l_) LL (0 : Int)) (either (fun y483 : Int => q (.exit 0) (S54_4 n_ l_ y483)) (fun y484 : Unit => q .ret S54_1)) :=
  Eq.trans (by kernel_rfl) (loop_iter2 (S := fun s480 : Int => (S54_3 n_ l_ s480)) (Y1 := fun y483 : Int => ((.exit 0), (S54_4 n_ l_ y483))) (Y2 := fun y484 : Unit => (.ret, S54_1)) (fun s q => ref03_Value_l4_b n_ l_ s q) (fun z => rfl) (fun z => rfl) LL (0 : Int))
abbrev S54_5 : St := ⟨[(1, rl tsI4 l_), (2, rC tsNode n_), (4, rF 0), (7, ri 0)], [[di 0, di 0, di 0, di 0]], [], 101⟩
theorem ref03_Value_f9 : P54 1 C54.r.r.r.l (S54_0 n_ l_) k = k (S54_5 n_ l_) := by kernel_rfl
abbrev S54_6 : St := ⟨[(1, rl tsI4 l_), (2, rC tsNode n_), (4, rF 0), (7, ri s498)], [[di 0, di 0, di 0, di 0]], [], 101⟩
theorem ref03_Value_fzx3 : P54 1 C54.r.r.r.l.r.b.b.l (S54_6 n_ l_ s498) k = k ⟨[(1, rl tsI4 l_), (2, rC tsNode n_), (4, rF 0), (7, ri s498), (41, rb (decide (s498 < (l_.length : Int))))], [[di 0, di 0, di 0, di 0]], [], 101⟩ := by kernel_rfl
def ref03_Value_r11_p : Option Bool := (bif (decide ((0 : Int) ≤ s498)) then (bif (decide (s498 < (l_.length : Int))) then (some ((ref02_May ((gt l_ s498 dI4).1, (gt l_ s498 dI4).2.1, (gt l_ s498 dI4).2.2.1)) != 0)) else none) else none)
theorem ref03_Value_r11 : P54 1 C54.r.r.r.l.r.b.b.r.l.b (S54_6 n_ l_ s498) k = Option.bind (ref03_Value_r11_p l_ s498) (fun y500 : Bool => k ⟨[(1, rl tsI4 l_), (2, rC tsNode n_), (4, rF 0), (7, ri s498), (50, rb y500)], [[di 0, di 0, di 0, di 0]], [], 101⟩) := .trans (by kernel_rfl) (bif_b (bif_b some_b none_b) none_b)
abbrev S54_7 : St := ⟨[(4, rF 0), (5, ri 10)], [[di 0, di 0, di 0, di 0]], [], 101⟩
theorem ref03_Value_fzx4 : P54 1 C54.r.r.r.l.r.b.b.r.l.b.r.t (S54_6 n_ l_ s498) k = k S54_7 := by kernel_rfl
theorem ref03_Value_r10 : R54 C54.r.r.r.l.r.b.b.r.r (S54_6 n_ l_ s498) q = q .normal ⟨[(1, rl tsI4 l_), (2, rC tsNode n_), (4, rF 0), (7, ri (IntKind.wrap .i64 (s498 + 1)))], [[di 0, di 0, di 0, di 0]], [], 101⟩ := by kernel_rfl
def ref03_Value_l9_p : Option (Int ⊕ (Int ⊕ Unit)) := (bif (decide (s498 < (l_.length : Int))) then (Option.bind (ref03_Value_r11_p l_ s498) (fun y500 : Bool => (bif y500 then (some (Sum.inr (Sum.inr ()))) else (some (Sum.inl (IntKind.wrap .i64 (s498 + 1))))))) else (some (Sum.inr (Sum.inl s498))))
abbrev S54_8 (y501 : Int) : St := ⟨[(1, rl tsI4 l_), (2, rC tsNode n_), (4, rF 0), (7, ri y501)], [[di 0, di 0, di 0, di 0]], [], 101⟩
theorem ref03_Value_l9_b : R54 C54.r.r.r.l.r.b.b (S54_6 n_ l_ s498) (loopKont 1 q) = Option.bind (ref03_Value_l9_p l_ s498) (either (fun y : Int => q .normal ⟨[(1, rl tsI4 l_), (2, rC tsNode n_), (4, rF 0), (7, ri y)], [[di 0, di 0, di 0, di 0]], [], 101⟩) (either (fun y501 : Int => q (.exit 2) (S54_8 n_ l_ y501)) (fun y502 : Unit => q .ret S54_7))) := by
  refine .trans ?_ (bif_b (bind_b fun y500 => (bif_b e3_2 e3_0)) e3_1)
  refine .trans seq_push ?_
  refine (pre1 (ref03_Value_fzx3 n_ l_ s498 _)).trans ?_
  refine (cond_e (b := (decide (s498 < (l_.length : Int)))) (st' := (S54_6 n_ l_ s498)) ).trans (bif_g ?_ ?_)
  · refine (skip_eq).trans ?_
    refine (seqC_normal (st' := (S54_6 n_ l_ s498))).trans ?_
    refine .trans seq_push ?_
    refine (block_push (id := 3)).trans ?_
    refine (pre1 (ref03_Value_r11 n_ l_ s498 _)).trans (bind_g fun y500 => ?_)
    refine (cond_e (b := y500) (st' := (S54_6 n_ l_ s498)) ).trans (bif_g ?_ ?_)
    · refine (pre1 (ref03_Value_fzx4 n_ l_ s498 _)).trans ?_
      refine (ret_eq).trans ?_
      refine block_ret.trans ?_
      refine seqC_ret.trans ?_
      kernel_rfl
    · refine (skip_eq).trans ?_
      refine block_normal.trans ?_
      refine (seqC_normal (st' := (S54_6 n_ l_ s498))).trans ?_
      refine (ref03_Value_r10 n_ l_ s498 _).trans ?_
      kernel_rfl
  · refine ((exit_eq (j := 2))).trans ?_
    refine seqC_exit.trans ?_
    kernel_rfl
theorem ref03_Value_l9 : R54 C54.r.r.r.l.r.b (S54_5 n_ l_) q = Option.bind (iterN (ref03_Value_l9_p l_) LL (0 : Int)) (either (fun y501 : Int => q (.exit 2) (S54_8 n_ l_ y501)) (fun y502 : Unit => q .ret S54_7)) :=
  Eq.trans (by kernel_rfl) (loop_iter2 (S := fun s498 : Int => (S54_6 n_ l_ s498)) (Y1 := fun y501 : Int => ((.exit 2), (S54_8 n_ l_ y501))) (Y2 := fun y502 : Unit => (.ret, S54_7)) (fun s q => ref03_Value_l9_b n_ l_ s q) (fun z => rfl) (fun z => rfl) LL (0 : Int))
abbrev S54_9 : St := ⟨[(1, rl tsI4 l_), (2, rC tsNode n_), (4, rF 0), (8, rF 1)], [[di 0, di 0, di 0, di 0], (tsI3.leaves y530)], [], 101⟩
theorem ref03_Value_r13 : P54 1 C54.r.r.r.r (S54_0 n_ l_) k = Option.bind (ref03_made n_ l_) fun y530 : I3 => k (S54_9 n_ l_ y530) := by kernel_rfl
theorem ref03_Value_f1000015 : P54 1 C54.r.r.r.r.r.l (S54_9 n_ l_ y530) k = k ⟨[(1, rl tsI4 l_), (2, rC tsNode n_), (4, rF 0), (8, rF 1), (57, rb ((ref02_May y530) != 0))], [[di 0, di 0, di 0, di 0], (tsI3.leaves y530)], [], 101⟩ := by kernel_rfl
theorem ref03_Value_fzx5 : P54 1 C54.r.r.r.r.r.l.r.t (S54_9 n_ l_ y530) k = k ⟨[(4, rF 0), (5, ri 10)], [[di 0, di 0, di 0, di 0], []], [], 101⟩ := by kernel_rfl
def ref03_Value_r16_p : Option (Int × Int) := (bif (decide ((0 : Int) < (l_.length : Int))) then (some (ref03_many n_ ((gt l_ (0 : Int) dI4).1, (gt l_ (0 : Int) dI4).2.1, (gt l_ (0 : Int) dI4).2.2.1))) else none)
abbrev S54_10 : St := ⟨[(2, rC tsNode n_), (4, rF 0), (8, rF 1), (9, ri y533.1), (10, ri y533.2)], [[di 0, di 0, di 0, di 0], (tsI3.leaves y530)], [], 101⟩
theorem ref03_Value_r16 : P54 1 C54.r.r.r.r.r.r (S54_9 n_ l_ y530) k = Option.bind (ref03_Value_r16_p n_ l_) (fun y533 : (Int × Int) => k (S54_10 n_ y530 y533)) := .trans (by kernel_rfl) (bif_b some_b none_b)
def ref03_Value_r17_q (K : Bool → β) : β := (bif ((n_.2.2.2.2.2.2.2.2.2.2.2.2.1.length : Int) != y533.1) then (K true) else (K ((n_.2.2.2.2.2.2.2.2.2.2.2.2.2.length : Int) != y533.2)))
def ref03_Value_r17_p : Bool := ref03_Value_r17_q n_ y533 (fun y => y)
theorem ref03_Value_r17_n (K : Bool → β) : ref03_Value_r17_q n_ y533 K = K (ref03_Value_r17_p n_ y533) := (bif_k K rfl rfl)
theorem ref03_Value_r17 : P54 1 C54.r.r.r.r.r.r.r.l (S54_10 n_ y530 y533) k = k ⟨[(2, rC tsNode n_), (4, rF 0), (8, rF 1), (79, rb (ref03_Value_r17_p n_ y533))], [[di 0, di 0, di 0, di 0], (tsI3.leaves y530)], [], 101⟩ := Eq.trans (by kernel_rfl) (ref03_Value_r17_n n_ y533 (fun y535 : Bool => k ⟨[(2, rC tsNode n_), (4, rF 0), (8, rF 1), (79, rb y535)], [[di 0, di 0, di 0, di 0], (tsI3.leaves y530)], [], 101⟩))
abbrev S54_11 : St := ⟨[(2, rC tsNode n_), (4, rF 0), (8, rF 1)], [[di 0, di 0, di 0, di 0], (tsI3.leaves y530)], [], 101⟩
abbrev S54_12 : St := ⟨[(4, rF 0), (5, ri 12)], [[di 0, di 0, di 0, di 0], []], [], 101⟩
theorem ref03_Value_fzx6 : P54 1 C54.r.r.r.r.r.r.r.l.r.t (S54_11 n_ y530) k = k S54_12 := by kernel_rfl
abbrev S54_13 : St := ⟨[(2, rC tsNode n_), (4, rF 0), (8, rF 1), (11, ri 0)], [[di 0, di 0, di 0, di 0], (tsI3.leaves y530)], [], 101⟩
theorem ref03_Value_f20 : P54 1 C54.r.r.r.r.r.r.r.r.l (S54_11 n_ y530) k = k (S54_13 n_ y530) := by kernel_rfl
abbrev S54_14 : St := ⟨[(2, rC tsNode n_), (4, rF 0), (8, rF 1), (11, ri s547)], [[di 0, di 0, di 0, di 0], (tsI3.leaves y530)], [], 101⟩
theorem ref03_Value_fzx7 : P54 1 C54.r.r.r.r.r.r.r.r.l.r.b.b.l (S54_14 n_ y530 s547) k = k ⟨[(2, rC tsNode n_), (4, rF 0), (8, rF 1), (11, ri s547), (85, rb (decide (s547 < (n_.2.2.2.2.2.2.2.2.2.2.2.2.2.length : Int))))], [[di 0, di 0, di 0, di 0], (tsI3.leaves y530)], [], 101⟩ := by kernel_rfl
def ref03_Value_r22_p : Option Bool := (bif (decide ((0 : Int) ≤ s547)) then (bif (decide (s547 < (n_.2.2.2.2.2.2.2.2.2.2.2.2.2.length : Int))) then (some (!(ref03_in (IntKind.wrap .i64 (gt n_.2.2.2.2.2.2.2.2.2.2.2.2.2 s547 (0 : Int))) (-16777216 : Int) (16777216 : Int)))) else none) else none)
theorem ref03_Value_r22 : P54 1 C54.r.r.r.r.r.r.r.r.l.r.b.b.r.l.b (S54_14 n_ y530 s547) k = Option.bind (ref03_Value_r22_p n_ s547) (fun y549 : Bool => k ⟨[(2, rC tsNode n_), (4, rF 0), (8, rF 1), (11, ri s547), (95, rb y549)], [[di 0, di 0, di 0, di 0], (tsI3.leaves y530)], [], 101⟩) := .trans (by kernel_rfl) (bif_b (bif_b some_b none_b) none_b)
theorem ref03_Value_fzx8 : P54 1 C54.r.r.r.r.r.r.r.r.l.r.b.b.r.l.b.r.t (S54_14 n_ y530 s547) k = k S54_12 := by kernel_rfl
theorem ref03_Value_r21 : R54 C54.r.r.r.r.r.r.r.r.l.r.b.b.r.r (S54_14 n_ y530 s547) q = q .normal ⟨[(2, rC tsNode n_), (4, rF 0), (8, rF 1), (11, ri (IntKind.wrap .i64 (s547 + 1)))], [[di 0, di 0, di 0, di 0], (tsI3.leaves y530)], [], 101⟩ := by kernel_rfl
def ref03_Value_l20_p : Option (Int ⊕ (Int ⊕ Unit)) := (bif (decide (s547 < (n_.2.2.2.2.2.2.2.2.2.2.2.2.2.length : Int))) then (Option.bind (ref03_Value_r22_p n_ s547) (fun y549 : Bool => (bif y549 then (some (Sum.inr (Sum.inr ()))) else (some (Sum.inl (IntKind.wrap .i64 (s547 + 1))))))) else (some (Sum.inr (Sum.inl s547))))
abbrev S54_15 (y550 : Int) : St := ⟨[(2, rC tsNode n_), (4, rF 0), (8, rF 1), (11, ri y550)], [[di 0, di 0, di 0, di 0], (tsI3.leaves y530)], [], 101⟩
theorem ref03_Value_l20_b : R54 C54.r.r.r.r.r.r.r.r.l.r.b.b (S54_14 n_ y530 s547) (loopKont 2 q) = Option.bind (ref03_Value_l20_p n_ s547) (either (fun y : Int => q .normal ⟨[(2, rC tsNode n_), (4, rF 0), (8, rF 1), (11, ri y)], [[di 0, di 0, di 0, di 0], (tsI3.leaves y530)], [], 101⟩) (either (fun y550 : Int => q (.exit 4) (S54_15 n_ y530 y550)) (fun y551 : Unit => q .ret S54_12))) := by
  refine .trans ?_ (bif_b (bind_b fun y549 => (bif_b e3_2 e3_0)) e3_1)
  refine .trans seq_push ?_
  refine (pre1 (ref03_Value_fzx7 n_ y530 s547 _)).trans ?_
  refine (cond_e (b := (decide (s547 < (n_.2.2.2.2.2.2.2.2.2.2.2.2.2.length : Int)))) (st' := (S54_14 n_ y530 s547)) ).trans (bif_g ?_ ?_)
  · refine (skip_eq).trans ?_
    refine (seqC_normal (st' := (S54_14 n_ y530 s547))).trans ?_
    refine .trans seq_push ?_
    refine (block_push (id := 5)).trans ?_
    refine (pre1 (ref03_Value_r22 n_ y530 s547 _)).trans (bind_g fun y549 => ?_)
    refine (cond_e (b := y549) (st' := (S54_14 n_ y530 s547)) ).trans (bif_g ?_ ?_)
    · refine (pre1 (ref03_Value_fzx8 n_ y530 s547 _)).trans ?_
      refine (ret_eq).trans ?_
      refine block_ret.trans ?_
      refine seqC_ret.trans ?_
      kernel_rfl
    · refine (skip_eq).trans ?_
      refine block_normal.trans ?_
      refine (seqC_normal (st' := (S54_14 n_ y530 s547))).trans ?_
      refine (ref03_Value_r21 n_ y530 s547 _).trans ?_
      kernel_rfl
  · refine ((exit_eq (j := 4))).trans ?_
    refine seqC_exit.trans ?_
    kernel_rfl
theorem ref03_Value_l20 : R54 C54.r.r.r.r.r.r.r.r.l.r.b (S54_13 n_ y530) q = Option.bind (iterN (ref03_Value_l20_p n_) LL (0 : Int)) (either (fun y550 : Int => q (.exit 4) (S54_15 n_ y530 y550)) (fun y551 : Unit => q .ret S54_12)) :=
  Eq.trans (by kernel_rfl) (loop_iter2 (S := fun s547 : Int => (S54_14 n_ y530 s547)) (Y1 := fun y550 : Int => ((.exit 4), (S54_15 n_ y530 y550))) (Y2 := fun y551 : Unit => (.ret, S54_12)) (fun s q => ref03_Value_l20_b n_ y530 s q) (fun z => rfl) (fun z => rfl) LL (0 : Int))
theorem ref03_Value_fzx9 : P54 1 C54.r.r.r.r.r.r.r.r.r (S54_11 n_ y530) k = k ⟨[(4, rF 0), (5, ri 0)], [[di y530.1, di y530.2.1, di y530.2.2, di n_.2.2.2.2.2.2.2.2.1], []], [], 101⟩ := by kernel_rfl
/-- quilt/quiltref03.Value -/
def ref03_Value : Option (I4 × Int) := (bif (!(ref03_node n_ (l_.length : Int))) then (some (((0 : Int), (0 : Int), (0 : Int), (0 : Int)), (11 : Int))) else (Option.bind (iterN (ref03_Value_l4_p n_ l_) LL (0 : Int)) (either (fun y483 : Int => (Option.bind (iterN (ref03_Value_l9_p l_) LL (0 : Int)) (either (fun y501 : Int => (Option.bind (ref03_made n_ l_) (fun y530 : I3 => (bif ((ref02_May y530) != 0) then (some (((0 : Int), (0 : Int), (0 : Int), (0 : Int)), (10 : Int))) else (Option.bind (ref03_Value_r16_p n_ l_) (fun y533 : (Int × Int) => (bif (ref03_Value_r17_p n_ y533) then (some (((0 : Int), (0 : Int), (0 : Int), (0 : Int)), (12 : Int))) else (Option.bind (iterN (ref03_Value_l20_p n_) LL (0 : Int)) (either (fun y550 : Int => (some ((y530.1, y530.2.1, y530.2.2, n_.2.2.2.2.2.2.2.2.1), (0 : Int)))) (fun y551 : Unit => (some (((0 : Int), (0 : Int), (0 : Int), (0 : Int)), (12 : Int))))))))))))) (fun y502 : Unit => (some (((0 : Int), (0 : Int), (0 : Int), (0 : Int)), (10 : Int))))))) (fun y484 : Unit => (some (((0 : Int), (0 : Int), (0 : Int), (0 : Int)), (11 : Int)))))))
theorem ref03_Value_is : stepS E cp54 noE 14 [rA tsNode n_, rl tsI4 l_] = Option.bind (ref03_Value n_ l_) (fun y : (I4 × Int) => some (.tup [rA tsI4 y.1, ri y.2] : R)) := by
  refine .trans ?_ (bif_b some_b (bind_b (either_b (fun y483 => (bind_b (either_b (fun y501 => (bind_b fun y530 => (bif_b some_b (bind_b fun y533 => (bif_b some_b (bind_b (either_b (fun y550 => some_b) (fun y551 => some_b)))))))) (fun y502 => some_b)))) (fun y484 => some_b))))
  refine (stepG_is (nt := 101) (regs := [(0, rA tsNode n_), (1, rl tsI4 l_)])).trans ?_
  refine (pre1 (ref03_Value_f1 n_ l_ _)).trans ?_
  refine .trans seq_push ?_
  refine (pre1 (ref03_Value_f1000002 n_ l_ _)).trans ?_
  refine (cond_e (b := (!(ref03_node n_ (l_.length : Int)))) (st' := (S54_0 n_ l_)) ).trans (bif_g ?_ ?_)
  · refine (pre1 (ref03_Value_fz n_ l_ _)).trans ?_
    refine (ret_eq).trans ?_
    refine seqC_ret.trans ?_
    kernel_rfl
  · refine (skip_eq).trans ?_
    refine (seqC_normal (st' := (S54_0 n_ l_))).trans ?_
    refine .trans seq_push ?_
    refine (pre1 (ref03_Value_f4 n_ l_ _)).trans ?_
    refine (block_push (id := 0)).trans ?_
    refine (ref03_Value_l4 n_ l_ _).trans (bind_g (either_g (fun y483 => ?_) (fun y484 => ?_)))
    · refine block_same.trans ?_
      refine (seqC_normal (st' := (S54_0 n_ l_))).trans ?_
      refine .trans seq_push ?_
      refine (pre1 (ref03_Value_f9 n_ l_ _)).trans ?_
      refine (block_push (id := 2)).trans ?_
      refine (ref03_Value_l9 n_ l_ _).trans (bind_g (either_g (fun y501 => ?_) (fun y502 => ?_)))
      · refine block_same.trans ?_
        refine (seqC_normal (st' := (S54_0 n_ l_))).trans ?_
        refine (pre1 (ref03_Value_r13 n_ l_ _)).trans (bind_g fun y530 => ?_)
        refine .trans seq_push ?_
        refine (pre1 (ref03_Value_f1000015 n_ l_ y530 _)).trans ?_
        refine (cond_e (b := ((ref02_May y530) != 0)) (st' := (S54_9 n_ l_ y530)) ).trans (bif_g ?_ ?_)
        · refine (pre1 (ref03_Value_fzx5 n_ l_ y530 _)).trans ?_
          refine (ret_eq).trans ?_
          refine seqC_ret.trans ?_
          kernel_rfl
        · refine (skip_eq).trans ?_
          refine (seqC_normal (st' := (S54_9 n_ l_ y530))).trans ?_
          refine (pre1 (ref03_Value_r16 n_ l_ y530 _)).trans (bind_g fun y533 => ?_)
          refine .trans seq_push ?_
          refine (pre1 (ref03_Value_r17 n_ y530 y533 _)).trans ?_
          refine (cond_e (b := (ref03_Value_r17_p n_ y533)) (st' := (S54_11 n_ y530)) ).trans (bif_g ?_ ?_)
          · refine (pre1 (ref03_Value_fzx6 n_ y530 _)).trans ?_
            refine (ret_eq).trans ?_
            refine seqC_ret.trans ?_
            kernel_rfl
          · refine (skip_eq).trans ?_
            refine (seqC_normal (st' := (S54_11 n_ y530))).trans ?_
            refine .trans seq_push ?_
            refine (pre1 (ref03_Value_f20 n_ y530 _)).trans ?_
            refine (block_push (id := 4)).trans ?_
            refine (ref03_Value_l20 n_ y530 _).trans (bind_g (either_g (fun y550 => ?_) (fun y551 => ?_)))
            · refine block_same.trans ?_
              refine (seqC_normal (st' := (S54_11 n_ y530))).trans ?_
              refine (pre1 (ref03_Value_fzx9 n_ y530 _)).trans ?_
              refine (ret_eq).trans ?_
              kernel_rfl
            · refine block_ret.trans ?_
              refine seqC_ret.trans ?_
              kernel_rfl
      · refine block_ret.trans ?_
        refine seqC_ret.trans ?_
        kernel_rfl
    · refine block_ret.trans ?_
      refine seqC_ret.trans ?_
      kernel_rfl
noncomputable def cp55 : CallP := withC cp54 14 [(.agg tsNode), (pL tsI4)] (.tup [(.agg tsI4), pI]) (fun y : (I4 × Int) => (y.1, y.2, ())) (fun x => ref03_Value x.1 x.2.1)
theorem cp55_ok : PureOK E cp55 := conS eok cp54_ok noE_ok fun x => Eq.mp (by kernel_rfl) (ref03_Value_is x.1 x.2.1)
end
end Go.V.P
