/- What functions compute. -/
import Derived.Test.YtelfooangijedaaHa5
namespace Go.V.P
open Go.RowKit Go.V Go.Proofs
set_option linter.unusedVariables false
set_option maxRecDepth 100000
noncomputable abbrev C47 : Code := codeOf E.P 24
noncomputable abbrev P47 {α : Type} (n : Nat) (c : Code) (st : St) (k : St → Option α) : Option α := preK E 24 cp47 noE n c st k
noncomputable abbrev R47 {α : Type} (c : Code) (st : St) (k : Kont α) : Option α := runCode E 24 cp47 noE c st k
noncomputable abbrev Q47 {α : Type} (c : Code) (k : Kont α) : Kont α := seqC E 24 cp47 noE c k
theorem ref03_node_f2 {α : Type} (n_ : Node) (many : Int) (k : St → Option α) : P47 2 C47 ⟨[(0, .agg (tsNode.leaves n_)), (1, ri many)], [], [], 119⟩ k = k ⟨[(1, ri many), (2, .one (.cell (tsNode.leaves n_))), (5, ri (1 : Int))], [], [], 119⟩ := by kernel_rfl
theorem ref03_node_f1000003 {α : Type} (n_ : Node) (many : Int) (k : St → Option α) : P47 1 C47.r.r.l ⟨[(1, ri many), (2, .one (.cell (tsNode.leaves n_))), (5, ri (1 : Int))], [], [], 119⟩ k = k ⟨[(1, ri many), (2, .one (.cell (tsNode.leaves n_))), (5, ri (1 : Int)), (13, rb (ref03_Two n_.1))], [], [], 119⟩ := by kernel_rfl
theorem ref03_node_r3 {α : Type} (n_ : Node) (many : Int) (k : Kont α) : R47 C47.r.r.l.r.t ⟨[(1, ri many), (2, .one (.cell (tsNode.leaves n_))), (5, ri (1 : Int))], [], [], 119⟩ k = k .normal ⟨[(1, ri many), (2, .one (.cell (tsNode.leaves n_))), (5, ri (2 : Int))], [], [], 119⟩ := by kernel_rfl
def ref03_node_j2_q {β : Type} (n_ : Node) (K : Int → β) : β := (bif (ref03_Two n_.1) then (K (2 : Int)) else (K (1 : Int)))
def ref03_node_j2_p (n_ : Node) : Int := ref03_node_j2_q n_ (fun y => y)
theorem ref03_node_j2_n {β : Type} (n_ : Node) (K : Int → β) : ref03_node_j2_q n_ K = K (ref03_node_j2_p n_) := (bif_k K rfl rfl)
theorem ref03_node_j2 {α : Type} (n_ : Node) (many : Int) (k : Kont α) : R47 C47.r.r.l ⟨[(1, ri many), (2, .one (.cell (tsNode.leaves n_))), (5, ri (1 : Int))], [], [], 119⟩ (Q47 C47.r.r.r k) = R47 C47.r.r.r ⟨[(1, ri many), (2, .one (.cell (tsNode.leaves n_))), (5, ri (ref03_node_j2_p n_))], [], [], 119⟩ k := by
  refine Eq.trans ?_ (ref03_node_j2_n n_ (fun y453 : Int => R47 C47.r.r.r ⟨[(1, ri many), (2, .one (.cell (tsNode.leaves n_))), (5, ri y453)], [], [], 119⟩ k))
  unfold ref03_node_j2_q
  refine (pre (n := 1) (c' := C47.r.r.l.r) (by kernel_rfl) (by kernel_rfl) (ref03_node_f1000003 n_ many _)).trans ?_
  refine (cond_eq (b := (ref03_Two n_.1)) (st' := ⟨[(1, ri many), (2, .one (.cell (tsNode.leaves n_))), (5, ri (1 : Int))], [], [], 119⟩) (by kernel_rfl) (by kernel_rfl) (by kernel_rfl)).trans (bif_g ?_ ?_)
  · refine (ref03_node_r3 n_ many _).trans ?_
    refine (seqC_normal (st' := ⟨[(1, ri many), (2, .one (.cell (tsNode.leaves n_))), (5, ri (2 : Int))], [], [], 119⟩) (by kernel_rfl)).trans ?_
    kernel_rfl
  · refine (skip_eq (by kernel_rfl)).trans ?_
    refine (seqC_normal (st' := ⟨[(1, ri many), (2, .one (.cell (tsNode.leaves n_))), (5, ri (1 : Int))], [], [], 119⟩) (by kernel_rfl)).trans ?_
    kernel_rfl
def ref03_node_r4_q {β : Type} (n_ : Node) (K : Bool → β) : β := (bif (n_.2.2.1 == (0 : Int)) then (K (n_.2.2.2.1 == (0 : Int))) else (K false))
def ref03_node_r4_p (n_ : Node) : Bool := ref03_node_r4_q n_ (fun y => y)
theorem ref03_node_r4_n {β : Type} (n_ : Node) (K : Bool → β) : ref03_node_r4_q n_ K = K (ref03_node_r4_p n_) := (bif_k K rfl rfl)
theorem ref03_node_r4 {α : Type} (n_ : Node) (many : Int) (k : St → Option α) : P47 1 C47.r.r.r ⟨[(1, ri many), (2, .one (.cell (tsNode.leaves n_))), (5, ri (ref03_node_j2_p n_))], [], [], 119⟩ k = k ⟨[(1, ri many), (2, .one (.cell (tsNode.leaves n_))), (5, ri (ref03_node_j2_p n_)), (6, rb (ref03_node_r4_p n_))], [], [], 119⟩ := Eq.trans (by kernel_rfl) (ref03_node_r4_n n_ (fun y454 : Bool => k ⟨[(1, ri many), (2, .one (.cell (tsNode.leaves n_))), (5, ri (ref03_node_j2_p n_)), (6, rb y454)], [], [], 119⟩))
theorem ref03_node_f1000006 {α : Type} (n_ : Node) (many : Int) (k : St → Option α) : P47 1 C47.r.r.r.r.l ⟨[(1, ri many), (2, .one (.cell (tsNode.leaves n_))), (5, ri (ref03_node_j2_p n_)), (6, rb (ref03_node_r4_p n_))], [], [], 119⟩ k = k ⟨[(1, ri many), (2, .one (.cell (tsNode.leaves n_))), (5, ri (ref03_node_j2_p n_)), (6, rb (ref03_node_r4_p n_)), (24, rb (ref03_Window n_.1))], [], [], 119⟩ := by kernel_rfl
def ref03_node_r6_q {β : Type} (n_ : Node) (K : Bool → β) : β := (bif (ref03_in n_.2.2.1 (1 : Int) (3 : Int)) then (K (ref03_in n_.2.2.2.1 (1 : Int) (2 : Int))) else (K false))
def ref03_node_r6_p (n_ : Node) : Bool := ref03_node_r6_q n_ (fun y => y)
theorem ref03_node_r6_n {β : Type} (n_ : Node) (K : Bool → β) : ref03_node_r6_q n_ K = K (ref03_node_r6_p n_) := (bif_k K rfl rfl)
theorem ref03_node_r6 {α : Type} (n_ : Node) (many : Int) (k : Kont α) : R47 C47.r.r.r.r.l.r.t ⟨[(1, ri many), (2, .one (.cell (tsNode.leaves n_))), (5, ri (ref03_node_j2_p n_)), (6, rb (ref03_node_r4_p n_))], [], [], 119⟩ k = k .normal ⟨[(1, ri many), (2, .one (.cell (tsNode.leaves n_))), (5, ri (ref03_node_j2_p n_)), (6, rb (ref03_node_r6_p n_))], [], [], 119⟩ := Eq.trans (by kernel_rfl) (ref03_node_r6_n n_ (fun y457 : Bool => k .normal ⟨[(1, ri many), (2, .one (.cell (tsNode.leaves n_))), (5, ri (ref03_node_j2_p n_)), (6, rb y457)], [], [], 119⟩))
def ref03_node_j5_q {β : Type} (n_ : Node) (K : Bool → β) : β := (bif (ref03_Window n_.1) then (K (ref03_node_r6_p n_)) else (K (ref03_node_r4_p n_)))
def ref03_node_j5_p (n_ : Node) : Bool := ref03_node_j5_q n_ (fun y => y)
theorem ref03_node_j5_n {β : Type} (n_ : Node) (K : Bool → β) : ref03_node_j5_q n_ K = K (ref03_node_j5_p n_) := (bif_k K rfl rfl)
theorem ref03_node_j5 {α : Type} (n_ : Node) (many : Int) (k : Kont α) : R47 C47.r.r.r.r.l ⟨[(1, ri many), (2, .one (.cell (tsNode.leaves n_))), (5, ri (ref03_node_j2_p n_)), (6, rb (ref03_node_r4_p n_))], [], [], 119⟩ (Q47 C47.r.r.r.r.r k) = R47 C47.r.r.r.r.r ⟨[(1, ri many), (2, .one (.cell (tsNode.leaves n_))), (5, ri (ref03_node_j2_p n_)), (6, rb (ref03_node_j5_p n_))], [], [], 119⟩ k := by
  refine Eq.trans ?_ (ref03_node_j5_n n_ (fun y458 : Bool => R47 C47.r.r.r.r.r ⟨[(1, ri many), (2, .one (.cell (tsNode.leaves n_))), (5, ri (ref03_node_j2_p n_)), (6, rb y458)], [], [], 119⟩ k))
  unfold ref03_node_j5_q
  refine (pre (n := 1) (c' := C47.r.r.r.r.l.r) (by kernel_rfl) (by kernel_rfl) (ref03_node_f1000006 n_ many _)).trans ?_
  refine (cond_eq (b := (ref03_Window n_.1)) (st' := ⟨[(1, ri many), (2, .one (.cell (tsNode.leaves n_))), (5, ri (ref03_node_j2_p n_)), (6, rb (ref03_node_r4_p n_))], [], [], 119⟩) (by kernel_rfl) (by kernel_rfl) (by kernel_rfl)).trans (bif_g ?_ ?_)
  · refine (ref03_node_r6 n_ many _).trans ?_
    refine (seqC_normal (st' := ⟨[(1, ri many), (2, .one (.cell (tsNode.leaves n_))), (5, ri (ref03_node_j2_p n_)), (6, rb (ref03_node_r6_p n_))], [], [], 119⟩) (by kernel_rfl)).trans ?_
    kernel_rfl
  · refine (skip_eq (by kernel_rfl)).trans ?_
    refine (seqC_normal (st' := ⟨[(1, ri many), (2, .one (.cell (tsNode.leaves n_))), (5, ri (ref03_node_j2_p n_)), (6, rb (ref03_node_r4_p n_))], [], [], 119⟩) (by kernel_rfl)).trans ?_
    kernel_rfl
theorem ref03_node_f8 {α : Type} (n_ : Node) (many : Int) (k : St → Option α) : P47 1 C47.r.r.r.r.r ⟨[(1, ri many), (2, .one (.cell (tsNode.leaves n_))), (5, ri (ref03_node_j2_p n_)), (6, rb (ref03_node_j5_p n_))], [], [], 119⟩ k = k ⟨[(1, ri many), (2, .one (.cell (tsNode.leaves n_))), (5, ri (ref03_node_j2_p n_)), (6, rb (ref03_node_j5_p n_)), (7, rb (n_.2.2.2.2.1 == (0 : Int)))], [], [], 119⟩ := by kernel_rfl
def ref03_node_r8_q {β : Type} (n_ : Node) (K : Bool → β) : β := (bif (n_.1 == (1 : Int)) then (K true) else (K (n_.1 == (2 : Int))))
def ref03_node_r8_p (n_ : Node) : Bool := ref03_node_r8_q n_ (fun y => y)
theorem ref03_node_r8_n {β : Type} (n_ : Node) (K : Bool → β) : ref03_node_r8_q n_ K = K (ref03_node_r8_p n_) := (bif_k K rfl rfl)
theorem ref03_node_r8 {α : Type} (n_ : Node) (many : Int) (k : St → Option α) : P47 1 C47.r.r.r.r.r.r.l ⟨[(1, ri many), (2, .one (.cell (tsNode.leaves n_))), (5, ri (ref03_node_j2_p n_)), (6, rb (ref03_node_j5_p n_)), (7, rb (n_.2.2.2.2.1 == (0 : Int)))], [], [], 119⟩ k = k ⟨[(1, ri many), (2, .one (.cell (tsNode.leaves n_))), (5, ri (ref03_node_j2_p n_)), (6, rb (ref03_node_j5_p n_)), (7, rb (n_.2.2.2.2.1 == (0 : Int))), (43, rb (ref03_node_r8_p n_))], [], [], 119⟩ := Eq.trans (by kernel_rfl) (ref03_node_r8_n n_ (fun y459 : Bool => k ⟨[(1, ri many), (2, .one (.cell (tsNode.leaves n_))), (5, ri (ref03_node_j2_p n_)), (6, rb (ref03_node_j5_p n_)), (7, rb (n_.2.2.2.2.1 == (0 : Int))), (43, rb y459)], [], [], 119⟩))
def ref03_node_r9_q {β : Type} (n_ : Node) (K : Bool → β) : β := (bif (ref03_in n_.2.2.2.2.1 (0 : Int) (1 : Int)) then (K (decide (n_.2.2.2.2.1 < n_.2.2.1))) else (K false))
def ref03_node_r9_p (n_ : Node) : Bool := ref03_node_r9_q n_ (fun y => y)
theorem ref03_node_r9_n {β : Type} (n_ : Node) (K : Bool → β) : ref03_node_r9_q n_ K = K (ref03_node_r9_p n_) := (bif_k K rfl rfl)
theorem ref03_node_r9 {α : Type} (n_ : Node) (many : Int) (k : Kont α) : R47 C47.r.r.r.r.r.r.l.r.t ⟨[(1, ri many), (2, .one (.cell (tsNode.leaves n_))), (5, ri (ref03_node_j2_p n_)), (6, rb (ref03_node_j5_p n_)), (7, rb (n_.2.2.2.2.1 == (0 : Int)))], [], [], 119⟩ k = k .normal ⟨[(1, ri many), (2, .one (.cell (tsNode.leaves n_))), (5, ri (ref03_node_j2_p n_)), (6, rb (ref03_node_j5_p n_)), (7, rb (ref03_node_r9_p n_))], [], [], 119⟩ := Eq.trans (by kernel_rfl) (ref03_node_r9_n n_ (fun y460 : Bool => k .normal ⟨[(1, ri many), (2, .one (.cell (tsNode.leaves n_))), (5, ri (ref03_node_j2_p n_)), (6, rb (ref03_node_j5_p n_)), (7, rb y460)], [], [], 119⟩))
def ref03_node_j8_q {β : Type} (n_ : Node) (K : Bool → β) : β := (bif (ref03_node_r8_p n_) then (K (ref03_node_r9_p n_)) else (K (n_.2.2.2.2.1 == (0 : Int))))
def ref03_node_j8_p (n_ : Node) : Bool := ref03_node_j8_q n_ (fun y => y)
theorem ref03_node_j8_n {β : Type} (n_ : Node) (K : Bool → β) : ref03_node_j8_q n_ K = K (ref03_node_j8_p n_) := (bif_k K rfl rfl)
theorem ref03_node_j8 {α : Type} (n_ : Node) (many : Int) (k : Kont α) : R47 C47.r.r.r.r.r.r.l ⟨[(1, ri many), (2, .one (.cell (tsNode.leaves n_))), (5, ri (ref03_node_j2_p n_)), (6, rb (ref03_node_j5_p n_)), (7, rb (n_.2.2.2.2.1 == (0 : Int)))], [], [], 119⟩ (Q47 C47.r.r.r.r.r.r.r k) = R47 C47.r.r.r.r.r.r.r ⟨[(1, ri many), (2, .one (.cell (tsNode.leaves n_))), (5, ri (ref03_node_j2_p n_)), (6, rb (ref03_node_j5_p n_)), (7, rb (ref03_node_j8_p n_))], [], [], 119⟩ k := by
  refine Eq.trans ?_ (ref03_node_j8_n n_ (fun y461 : Bool => R47 C47.r.r.r.r.r.r.r ⟨[(1, ri many), (2, .one (.cell (tsNode.leaves n_))), (5, ri (ref03_node_j2_p n_)), (6, rb (ref03_node_j5_p n_)), (7, rb y461)], [], [], 119⟩ k))
  unfold ref03_node_j8_q
  refine (pre (n := 1) (c' := C47.r.r.r.r.r.r.l.r) (by kernel_rfl) (by kernel_rfl) (ref03_node_r8 n_ many _)).trans ?_
  refine (cond_eq (b := (ref03_node_r8_p n_)) (st' := ⟨[(1, ri many), (2, .one (.cell (tsNode.leaves n_))), (5, ri (ref03_node_j2_p n_)), (6, rb (ref03_node_j5_p n_)), (7, rb (n_.2.2.2.2.1 == (0 : Int)))], [], [], 119⟩) (by kernel_rfl) (by kernel_rfl) (by kernel_rfl)).trans (bif_g ?_ ?_)
  · refine (ref03_node_r9 n_ many _).trans ?_
    refine (seqC_normal (st' := ⟨[(1, ri many), (2, .one (.cell (tsNode.leaves n_))), (5, ri (ref03_node_j2_p n_)), (6, rb (ref03_node_j5_p n_)), (7, rb (ref03_node_r9_p n_))], [], [], 119⟩) (by kernel_rfl)).trans ?_
    kernel_rfl
  · refine (skip_eq (by kernel_rfl)).trans ?_
    refine (seqC_normal (st' := ⟨[(1, ri many), (2, .one (.cell (tsNode.leaves n_))), (5, ri (ref03_node_j2_p n_)), (6, rb (ref03_node_j5_p n_)), (7, rb (n_.2.2.2.2.1 == (0 : Int)))], [], [], 119⟩) (by kernel_rfl)).trans ?_
    kernel_rfl
theorem ref03_node_f1000011 {α : Type} (n_ : Node) (many : Int) (k : St → Option α) : P47 1 C47.r.r.r.r.r.r.r.l ⟨[(1, ri many), (2, .one (.cell (tsNode.leaves n_))), (5, ri (ref03_node_j2_p n_)), (6, rb (ref03_node_j5_p n_)), (7, rb (ref03_node_j8_p n_))], [], [], 119⟩ k = k ⟨[(1, ri many), (2, .one (.cell (tsNode.leaves n_))), (5, ri (ref03_node_j2_p n_)), (6, rb (ref03_node_j5_p n_)), (7, rb (ref03_node_j8_p n_)), (56, rb (n_.1 == (9 : Int)))], [], [], 119⟩ := by kernel_rfl
theorem ref03_node_r11 {α : Type} (n_ : Node) (many : Int) (k : Kont α) : R47 C47.r.r.r.r.r.r.r.l.r.t ⟨[(1, ri many), (2, .one (.cell (tsNode.leaves n_))), (5, ri (ref03_node_j2_p n_)), (6, rb (ref03_node_j5_p n_)), (7, rb (ref03_node_j8_p n_))], [], [], 119⟩ k = k .normal ⟨[(1, ri many), (2, .one (.cell (tsNode.leaves n_))), (5, ri (ref03_node_j2_p n_)), (6, rb (ref03_node_j5_p n_)), (7, rb (n_.2.2.2.2.1 == (1 : Int)))], [], [], 119⟩ := by kernel_rfl
def ref03_node_j10_q {β : Type} (n_ : Node) (K : Bool → β) : β := (bif (n_.1 == (9 : Int)) then (K (n_.2.2.2.2.1 == (1 : Int))) else (K (ref03_node_j8_p n_)))
def ref03_node_j10_p (n_ : Node) : Bool := ref03_node_j10_q n_ (fun y => y)
theorem ref03_node_j10_n {β : Type} (n_ : Node) (K : Bool → β) : ref03_node_j10_q n_ K = K (ref03_node_j10_p n_) := (bif_k K rfl rfl)
theorem ref03_node_j10 {α : Type} (n_ : Node) (many : Int) (k : Kont α) : R47 C47.r.r.r.r.r.r.r.l ⟨[(1, ri many), (2, .one (.cell (tsNode.leaves n_))), (5, ri (ref03_node_j2_p n_)), (6, rb (ref03_node_j5_p n_)), (7, rb (ref03_node_j8_p n_))], [], [], 119⟩ (Q47 C47.r.r.r.r.r.r.r.r k) = R47 C47.r.r.r.r.r.r.r.r ⟨[(1, ri many), (2, .one (.cell (tsNode.leaves n_))), (5, ri (ref03_node_j2_p n_)), (6, rb (ref03_node_j5_p n_)), (7, rb (ref03_node_j10_p n_))], [], [], 119⟩ k := by
  refine Eq.trans ?_ (ref03_node_j10_n n_ (fun y462 : Bool => R47 C47.r.r.r.r.r.r.r.r ⟨[(1, ri many), (2, .one (.cell (tsNode.leaves n_))), (5, ri (ref03_node_j2_p n_)), (6, rb (ref03_node_j5_p n_)), (7, rb y462)], [], [], 119⟩ k))
  unfold ref03_node_j10_q
  refine (pre (n := 1) (c' := C47.r.r.r.r.r.r.r.l.r) (by kernel_rfl) (by kernel_rfl) (ref03_node_f1000011 n_ many _)).trans ?_
  refine (cond_eq (b := (n_.1 == (9 : Int))) (st' := ⟨[(1, ri many), (2, .one (.cell (tsNode.leaves n_))), (5, ri (ref03_node_j2_p n_)), (6, rb (ref03_node_j5_p n_)), (7, rb (ref03_node_j8_p n_))], [], [], 119⟩) (by kernel_rfl) (by kernel_rfl) (by kernel_rfl)).trans (bif_g ?_ ?_)
  · refine (ref03_node_r11 n_ many _).trans ?_
    refine (seqC_normal (st' := ⟨[(1, ri many), (2, .one (.cell (tsNode.leaves n_))), (5, ri (ref03_node_j2_p n_)), (6, rb (ref03_node_j5_p n_)), (7, rb (n_.2.2.2.2.1 == (1 : Int)))], [], [], 119⟩) (by kernel_rfl)).trans ?_
    kernel_rfl
  · refine (skip_eq (by kernel_rfl)).trans ?_
    refine (seqC_normal (st' := ⟨[(1, ri many), (2, .one (.cell (tsNode.leaves n_))), (5, ri (ref03_node_j2_p n_)), (6, rb (ref03_node_j5_p n_)), (7, rb (ref03_node_j8_p n_))], [], [], 119⟩) (by kernel_rfl)).trans ?_
    kernel_rfl
theorem ref03_node_f13 {α : Type} (n_ : Node) (many : Int) (k : St → Option α) : P47 1 C47.r.r.r.r.r.r.r.r ⟨[(1, ri many), (2, .one (.cell (tsNode.leaves n_))), (5, ri (ref03_node_j2_p n_)), (6, rb (ref03_node_j5_p n_)), (7, rb (ref03_node_j10_p n_))], [], [], 119⟩ k = k ⟨[(1, ri many), (2, .one (.cell (tsNode.leaves n_))), (5, ri (ref03_node_j2_p n_)), (6, rb (ref03_node_j5_p n_)), (7, rb (ref03_node_j10_p n_)), (8, rb (n_.2.2.2.2.2.1 == (0 : Int)))], [], [], 119⟩ := by kernel_rfl
def ref03_node_r13_q {β : Type} (n_ : Node) (K : Bool → β) : β := (bif (n_.1 == (1 : Int)) then (K true) else (K (n_.1 == (3 : Int))))
def ref03_node_r13_p (n_ : Node) : Bool := ref03_node_r13_q n_ (fun y => y)
theorem ref03_node_r13_n {β : Type} (n_ : Node) (K : Bool → β) : ref03_node_r13_q n_ K = K (ref03_node_r13_p n_) := (bif_k K rfl rfl)
theorem ref03_node_r13 {α : Type} (n_ : Node) (many : Int) (k : St → Option α) : P47 1 C47.r.r.r.r.r.r.r.r.r.l ⟨[(1, ri many), (2, .one (.cell (tsNode.leaves n_))), (5, ri (ref03_node_j2_p n_)), (6, rb (ref03_node_j5_p n_)), (7, rb (ref03_node_j10_p n_)), (8, rb (n_.2.2.2.2.2.1 == (0 : Int)))], [], [], 119⟩ k = k ⟨[(1, ri many), (2, .one (.cell (tsNode.leaves n_))), (5, ri (ref03_node_j2_p n_)), (6, rb (ref03_node_j5_p n_)), (7, rb (ref03_node_j10_p n_)), (8, rb (n_.2.2.2.2.2.1 == (0 : Int))), (70, rb (ref03_node_r13_p n_))], [], [], 119⟩ := Eq.trans (by kernel_rfl) (ref03_node_r13_n n_ (fun y463 : Bool => k ⟨[(1, ri many), (2, .one (.cell (tsNode.leaves n_))), (5, ri (ref03_node_j2_p n_)), (6, rb (ref03_node_j5_p n_)), (7, rb (ref03_node_j10_p n_)), (8, rb (n_.2.2.2.2.2.1 == (0 : Int))), (70, rb y463)], [], [], 119⟩))
theorem ref03_node_r14 {α : Type} (n_ : Node) (many : Int) (k : Kont α) : R47 C47.r.r.r.r.r.r.r.r.r.l.r.t ⟨[(1, ri many), (2, .one (.cell (tsNode.leaves n_))), (5, ri (ref03_node_j2_p n_)), (6, rb (ref03_node_j5_p n_)), (7, rb (ref03_node_j10_p n_)), (8, rb (n_.2.2.2.2.2.1 == (0 : Int)))], [], [], 119⟩ k = k .normal ⟨[(1, ri many), (2, .one (.cell (tsNode.leaves n_))), (5, ri (ref03_node_j2_p n_)), (6, rb (ref03_node_j5_p n_)), (7, rb (ref03_node_j10_p n_)), (8, rb (ref03_in n_.2.2.2.2.2.1 (1 : Int) (8 : Int)))], [], [], 119⟩ := by kernel_rfl
def ref03_node_j13_q {β : Type} (n_ : Node) (K : Bool → β) : β := (bif (ref03_node_r13_p n_) then (K (ref03_in n_.2.2.2.2.2.1 (1 : Int) (8 : Int))) else (K (n_.2.2.2.2.2.1 == (0 : Int))))
def ref03_node_j13_p (n_ : Node) : Bool := ref03_node_j13_q n_ (fun y => y)
theorem ref03_node_j13_n {β : Type} (n_ : Node) (K : Bool → β) : ref03_node_j13_q n_ K = K (ref03_node_j13_p n_) := (bif_k K rfl rfl)
theorem ref03_node_j13 {α : Type} (n_ : Node) (many : Int) (k : Kont α) : R47 C47.r.r.r.r.r.r.r.r.r.l ⟨[(1, ri many), (2, .one (.cell (tsNode.leaves n_))), (5, ri (ref03_node_j2_p n_)), (6, rb (ref03_node_j5_p n_)), (7, rb (ref03_node_j10_p n_)), (8, rb (n_.2.2.2.2.2.1 == (0 : Int)))], [], [], 119⟩ (Q47 C47.r.r.r.r.r.r.r.r.r.r k) = R47 C47.r.r.r.r.r.r.r.r.r.r ⟨[(1, ri many), (2, .one (.cell (tsNode.leaves n_))), (5, ri (ref03_node_j2_p n_)), (6, rb (ref03_node_j5_p n_)), (7, rb (ref03_node_j10_p n_)), (8, rb (ref03_node_j13_p n_))], [], [], 119⟩ k := by
  refine Eq.trans ?_ (ref03_node_j13_n n_ (fun y464 : Bool => R47 C47.r.r.r.r.r.r.r.r.r.r ⟨[(1, ri many), (2, .one (.cell (tsNode.leaves n_))), (5, ri (ref03_node_j2_p n_)), (6, rb (ref03_node_j5_p n_)), (7, rb (ref03_node_j10_p n_)), (8, rb y464)], [], [], 119⟩ k))
  unfold ref03_node_j13_q
  refine (pre (n := 1) (c' := C47.r.r.r.r.r.r.r.r.r.l.r) (by kernel_rfl) (by kernel_rfl) (ref03_node_r13 n_ many _)).trans ?_
  refine (cond_eq (b := (ref03_node_r13_p n_)) (st' := ⟨[(1, ri many), (2, .one (.cell (tsNode.leaves n_))), (5, ri (ref03_node_j2_p n_)), (6, rb (ref03_node_j5_p n_)), (7, rb (ref03_node_j10_p n_)), (8, rb (n_.2.2.2.2.2.1 == (0 : Int)))], [], [], 119⟩) (by kernel_rfl) (by kernel_rfl) (by kernel_rfl)).trans (bif_g ?_ ?_)
  · refine (ref03_node_r14 n_ many _).trans ?_
    refine (seqC_normal (st' := ⟨[(1, ri many), (2, .one (.cell (tsNode.leaves n_))), (5, ri (ref03_node_j2_p n_)), (6, rb (ref03_node_j5_p n_)), (7, rb (ref03_node_j10_p n_)), (8, rb (ref03_in n_.2.2.2.2.2.1 (1 : Int) (8 : Int)))], [], [], 119⟩) (by kernel_rfl)).trans ?_
    kernel_rfl
  · refine (skip_eq (by kernel_rfl)).trans ?_
    refine (seqC_normal (st' := ⟨[(1, ri many), (2, .one (.cell (tsNode.leaves n_))), (5, ri (ref03_node_j2_p n_)), (6, rb (ref03_node_j5_p n_)), (7, rb (ref03_node_j10_p n_)), (8, rb (n_.2.2.2.2.2.1 == (0 : Int)))], [], [], 119⟩) (by kernel_rfl)).trans ?_
    kernel_rfl
def ref03_node_r15_q {β : Type} (n_ : Node) (K : Bool → β) : β := (bif ((n_.2.2.2.2.2.2.2.2.2.1 == (0 : Int)) && ((n_.2.2.2.2.2.2.2.2.2.2.1 == (0 : Int)) && ((n_.2.2.2.2.2.2.2.2.2.2.2.1 == (0 : Int)) && true))) then (K true) else (K (n_.1 == (11 : Int))))
def ref03_node_r15_p (n_ : Node) : Bool := ref03_node_r15_q n_ (fun y => y)
theorem ref03_node_r15_n {β : Type} (n_ : Node) (K : Bool → β) : ref03_node_r15_q n_ K = K (ref03_node_r15_p n_) := (bif_k K rfl rfl)
theorem ref03_node_r15 {α : Type} (n_ : Node) (many : Int) (k : St → Option α) : P47 1 C47.r.r.r.r.r.r.r.r.r.r ⟨[(1, ri many), (2, .one (.cell (tsNode.leaves n_))), (5, ri (ref03_node_j2_p n_)), (6, rb (ref03_node_j5_p n_)), (7, rb (ref03_node_j10_p n_)), (8, rb (ref03_node_j13_p n_))], [], [], 119⟩ k = k ⟨[(1, ri many), (2, .one (.cell (tsNode.leaves n_))), (5, ri (ref03_node_j2_p n_)), (6, rb (ref03_node_j5_p n_)), (7, rb (ref03_node_j10_p n_)), (8, rb (ref03_node_j13_p n_)), (9, rb (ref03_node_r15_p n_))], [], [], 119⟩ := Eq.trans (by kernel_rfl) (ref03_node_r15_n n_ (fun y465 : Bool => k ⟨[(1, ri many), (2, .one (.cell (tsNode.leaves n_))), (5, ri (ref03_node_j2_p n_)), (6, rb (ref03_node_j5_p n_)), (7, rb (ref03_node_j10_p n_)), (8, rb (ref03_node_j13_p n_)), (9, rb y465)], [], [], 119⟩))
def ref03_node_r16_q {β : Type} (n_ : Node) (K : Bool → β) : β := (bif (ref03_in n_.2.2.2.2.2.2.1 (1 : Int) (32767 : Int)) then (bif (ref03_in n_.2.2.2.2.2.2.2.1 (0 : Int) (31 : Int)) then (K (ref03_in n_.2.2.2.2.2.2.2.2.1 (-128 : Int) (127 : Int))) else (K false)) else (K false))
def ref03_node_r16_p (n_ : Node) : Bool := ref03_node_r16_q n_ (fun y => y)
theorem ref03_node_r16_n {β : Type} (n_ : Node) (K : Bool → β) : ref03_node_r16_q n_ K = K (ref03_node_r16_p n_) := (bif_k K (bif_k K rfl rfl) rfl)
theorem ref03_node_r16 {α : Type} (n_ : Node) (many : Int) (k : St → Option α) : P47 1 C47.r.r.r.r.r.r.r.r.r.r.r ⟨[(1, ri many), (2, .one (.cell (tsNode.leaves n_))), (5, ri (ref03_node_j2_p n_)), (6, rb (ref03_node_j5_p n_)), (7, rb (ref03_node_j10_p n_)), (8, rb (ref03_node_j13_p n_)), (9, rb (ref03_node_r15_p n_))], [], [], 119⟩ k = k ⟨[(1, ri many), (2, .one (.cell (tsNode.leaves n_))), (5, ri (ref03_node_j2_p n_)), (6, rb (ref03_node_j5_p n_)), (7, rb (ref03_node_j10_p n_)), (8, rb (ref03_node_j13_p n_)), (9, rb (ref03_node_r15_p n_)), (10, rb (ref03_node_r16_p n_))], [], [], 119⟩ := Eq.trans (by kernel_rfl) (ref03_node_r16_n n_ (fun y466 : Bool => k ⟨[(1, ri many), (2, .one (.cell (tsNode.leaves n_))), (5, ri (ref03_node_j2_p n_)), (6, rb (ref03_node_j5_p n_)), (7, rb (ref03_node_j10_p n_)), (8, rb (ref03_node_j13_p n_)), (9, rb (ref03_node_r15_p n_)), (10, rb y466)], [], [], 119⟩))
def ref03_node_r17_q {β : Type} (n_ : Node) (many : Int) (K : Bool → β) : β := (bif (ref03_in n_.1 (1 : Int) (12 : Int)) then (bif (many == (ref03_node_j2_p n_)) then (bif (ref03_node_j5_p n_) then (bif (ref03_node_j10_p n_) then (bif (ref03_node_j13_p n_) then (bif (ref03_node_r15_p n_) then (K (ref03_node_r16_p n_)) else (K false)) else (K false)) else (K false)) else (K false)) else (K false)) else (K false))
def ref03_node_r17_p (n_ : Node) (many : Int) : Bool := ref03_node_r17_q n_ many (fun y => y)
theorem ref03_node_r17_n {β : Type} (n_ : Node) (many : Int) (K : Bool → β) : ref03_node_r17_q n_ many K = K (ref03_node_r17_p n_ many) := (bif_k K (bif_k K (bif_k K (bif_k K (bif_k K (bif_k K rfl rfl) rfl) rfl) rfl) rfl) rfl)
theorem ref03_node_r17 {α : Type} (n_ : Node) (many : Int) (k : St → Option α) : P47 1 C47.r.r.r.r.r.r.r.r.r.r.r.r ⟨[(1, ri many), (2, .one (.cell (tsNode.leaves n_))), (5, ri (ref03_node_j2_p n_)), (6, rb (ref03_node_j5_p n_)), (7, rb (ref03_node_j10_p n_)), (8, rb (ref03_node_j13_p n_)), (9, rb (ref03_node_r15_p n_)), (10, rb (ref03_node_r16_p n_))], [], [], 119⟩ k = k ⟨[(4, rb (ref03_node_r17_p n_ many))], [], [], 119⟩ := Eq.trans (by kernel_rfl) (ref03_node_r17_n n_ many (fun y467 : Bool => k ⟨[(4, rb y467)], [], [], 119⟩))
/-- quilt/quiltref03.node -/
def ref03_node_q {β : Type} (n_ : Node) (many : Int) (K : Bool → β) : β := (K (ref03_node_r17_p n_ many))
def ref03_node (n_ : Node) (many : Int) : Bool := ref03_node_q n_ many (fun y => y)
theorem ref03_node_n {β : Type} (n_ : Node) (many : Int) (K : Bool → β) : ref03_node_q n_ many K = K (ref03_node n_ many) := rfl
theorem ref03_node_is (n_ : Node) (many : Int) : stepS E cp47 noE 24 [.agg (tsNode.leaves n_), ri many] = (fun y : Bool => some (rb y : R)) (ref03_node n_ many) := by
  refine Eq.trans ?_ (ref03_node_n n_ many (fun y : Bool => some (rb y : R)))
  refine (stepG_is (nt := 119) (regs := [(0, .agg (tsNode.leaves n_)), (1, ri many)]) (by kernel_rfl) (by kernel_rfl)).trans ?_
  unfold ref03_node_q
  refine (pre (n := 2) (c' := C47.r.r) (by kernel_rfl) (by kernel_rfl) (ref03_node_f2 n_ many _)).trans ?_
  refine (seq_push (by kernel_rfl)).trans ?_
  refine (ref03_node_j2 n_ many _).trans ?_
  refine (pre (n := 1) (c' := C47.r.r.r.r) (by kernel_rfl) (by kernel_rfl) (ref03_node_r4 n_ many _)).trans ?_
  refine (seq_push (by kernel_rfl)).trans ?_
  refine (ref03_node_j5 n_ many _).trans ?_
  refine (pre (n := 1) (c' := C47.r.r.r.r.r.r) (by kernel_rfl) (by kernel_rfl) (ref03_node_f8 n_ many _)).trans ?_
  refine (seq_push (by kernel_rfl)).trans ?_
  refine (ref03_node_j8 n_ many _).trans ?_
  refine (seq_push (by kernel_rfl)).trans ?_
  refine (ref03_node_j10 n_ many _).trans ?_
  refine (pre (n := 1) (c' := C47.r.r.r.r.r.r.r.r.r) (by kernel_rfl) (by kernel_rfl) (ref03_node_f13 n_ many _)).trans ?_
  refine (seq_push (by kernel_rfl)).trans ?_
  refine (ref03_node_j13 n_ many _).trans ?_
  refine (pre (n := 1) (c' := C47.r.r.r.r.r.r.r.r.r.r.r) (by kernel_rfl) (by kernel_rfl) (ref03_node_r15 n_ many _)).trans ?_
  refine (pre (n := 1) (c' := C47.r.r.r.r.r.r.r.r.r.r.r.r) (by kernel_rfl) (by kernel_rfl) (ref03_node_r16 n_ many _)).trans ?_
  refine (pre (n := 1) (c' := C47.r.r.r.r.r.r.r.r.r.r.r.r.r) (by kernel_rfl) (by kernel_rfl) (ref03_node_r17 n_ many _)).trans ?_
  refine (ret_eq (by kernel_rfl)).trans ?_
  kernel_rfl
theorem ref03_node_c (x : denL [(.agg tsNode), (.one (.g (.int .i64)))]) : stepS E cp47 noE 24 (encL [(.agg tsNode), (.one (.g (.int .i64)))] x) = ((fun x => some (ref03_node x.1 x.2.1)) x).bind fun y => some (Po.enc (.one (.one (.g .bool))) ((fun y : Bool => y) y)) := Eq.mp (by kernel_rfl) (ref03_node_is x.1 x.2.1)
noncomputable def cp48 : CallP := withC cp47 24 [(.agg tsNode), (.one (.g (.int .i64)))] (.one (.one (.g .bool))) (fun y : Bool => y) (fun x => some (ref03_node x.1 x.2.1))
theorem cp48_ok : PureOK E cp48 := withC_ok cp47_ok (stepS_ok eok cp47_ok noE_ok) fun x => con_of (enc := fun y => Po.enc (.one (.one (.g .bool))) ((fun y : Bool => y) y)) (ref03_node_c x)
noncomputable abbrev C48 : Code := codeOf E.P 25
noncomputable abbrev P48 {α : Type} (n : Nat) (c : Code) (st : St) (k : St → Option α) : Option α := preK E 25 cp48 noE n c st k
noncomputable abbrev R48 {α : Type} (c : Code) (st : St) (k : Kont α) : Option α := runCode E 25 cp48 noE c st k
noncomputable abbrev Q48 {α : Type} (c : Code) (k : Kont α) : Kont α := seqC E 25 cp48 noE c k
def ref03_keeps_r1_q {β : Type} (op : Int) (K : Bool → β) : β := (bif (op == (4 : Int)) then (K true) else (bif (op == (5 : Int)) then (K true) else (bif (op == (8 : Int)) then (K true) else (bif (op == (9 : Int)) then (K true) else (bif (op == (10 : Int)) then (K true) else (K (op == (11 : Int))))))))
def ref03_keeps_r1_p (op : Int) : Bool := ref03_keeps_r1_q op (fun y => y)
theorem ref03_keeps_r1_n {β : Type} (op : Int) (K : Bool → β) : ref03_keeps_r1_q op K = K (ref03_keeps_r1_p op) := (bif_k K rfl (bif_k K rfl (bif_k K rfl (bif_k K rfl (bif_k K rfl rfl)))))
theorem ref03_keeps_r1 {α : Type} (op : Int) (k : St → Option α) : P48 2 C48 ⟨[(0, ri op)], [], [], 25⟩ k = k ⟨[(2, rb (ref03_keeps_r1_p op))], [], [], 25⟩ := Eq.trans (by kernel_rfl) (ref03_keeps_r1_n op (fun y469 : Bool => k ⟨[(2, rb y469)], [], [], 25⟩))
/-- quilt/quiltref03.keeps -/
def ref03_keeps_q {β : Type} (op : Int) (K : Bool → β) : β := (K (ref03_keeps_r1_p op))
def ref03_keeps (op : Int) : Bool := ref03_keeps_q op (fun y => y)
theorem ref03_keeps_n {β : Type} (op : Int) (K : Bool → β) : ref03_keeps_q op K = K (ref03_keeps op) := rfl
theorem ref03_keeps_is (op : Int) : stepS E cp48 noE 25 [ri op] = (fun y : Bool => some (rb y : R)) (ref03_keeps op) := by
  refine Eq.trans ?_ (ref03_keeps_n op (fun y : Bool => some (rb y : R)))
  refine (stepG_is (nt := 25) (regs := [(0, ri op)]) (by kernel_rfl) (by kernel_rfl)).trans ?_
  unfold ref03_keeps_q
  refine (pre (n := 2) (c' := C48.r.r) (by kernel_rfl) (by kernel_rfl) (ref03_keeps_r1 op _)).trans ?_
  refine (ret_eq (by kernel_rfl)).trans ?_
  kernel_rfl
theorem ref03_keeps_c (x : denL [(.one (.g (.int .i64)))]) : stepS E cp48 noE 25 (encL [(.one (.g (.int .i64)))] x) = ((fun x => some (ref03_keeps x.1)) x).bind fun y => some (Po.enc (.one (.one (.g .bool))) ((fun y : Bool => y) y)) := Eq.mp (by kernel_rfl) (ref03_keeps_is x.1)
noncomputable def cp49 : CallP := withC cp48 25 [(.one (.g (.int .i64)))] (.one (.one (.g .bool))) (fun y : Bool => y) (fun x => some (ref03_keeps x.1))
theorem cp49_ok : PureOK E cp49 := withC_ok cp48_ok (stepS_ok eok cp48_ok noE_ok) fun x => con_of (enc := fun y => Po.enc (.one (.one (.g .bool))) ((fun y : Bool => y) y)) (ref03_keeps_c x)
noncomputable abbrev C49 : Code := codeOf E.P 26
noncomputable abbrev P49 {α : Type} (n : Nat) (c : Code) (st : St) (k : St → Option α) : Option α := preK E 26 cp49 noE n c st k
noncomputable abbrev R49 {α : Type} (c : Code) (st : St) (k : Kont α) : Option α := runCode E 26 cp49 noE c st k
noncomputable abbrev Q49 {α : Type} (c : Code) (k : Kont α) : Kont α := seqC E 26 cp49 noE c k
theorem ref02_May_f1 {α : Type} (s_ : I3) (k : St → Option α) : P49 1 C49 ⟨[(0, .agg (tsI3.leaves s_))], [], [], 31⟩ k = k ⟨[(1, .one (.cell (tsI3.leaves s_)))], [], [], 31⟩ := by kernel_rfl
def ref02_May_r1_q {β : Type} (s_ : I3) (K : Bool → β) : β := (bif (decide (s_.1 < (1 : Int))) then (K true) else (bif (decide (s_.1 > (16 : Int))) then (K true) else (bif (decide (s_.2.1 < (1 : Int))) then (K true) else (bif (decide (s_.2.1 > (16 : Int))) then (K true) else (bif (decide (s_.2.2 < (1 : Int))) then (K true) else (K (decide (s_.2.2 > (8 : Int)))))))))
def ref02_May_r1_p (s_ : I3) : Bool := ref02_May_r1_q s_ (fun y => y)
theorem ref02_May_r1_n {β : Type} (s_ : I3) (K : Bool → β) : ref02_May_r1_q s_ K = K (ref02_May_r1_p s_) := (bif_k K rfl (bif_k K rfl (bif_k K rfl (bif_k K rfl (bif_k K rfl rfl)))))
theorem ref02_May_r1 {α : Type} (s_ : I3) (k : St → Option α) : P49 1 C49.r.l ⟨[(1, .one (.cell (tsI3.leaves s_)))], [], [], 31⟩ k = k ⟨[(30, rb (ref02_May_r1_p s_))], [], [], 31⟩ := Eq.trans (by kernel_rfl) (ref02_May_r1_n s_ (fun y487 : Bool => k ⟨[(30, rb y487)], [], [], 31⟩))
theorem ref02_May_fz {α : Type} (k : St → Option α) : P49 1 C49.r.l.r.t ⟨[], [], [], 31⟩ k = k ⟨[(2, ri (10 : Int))], [], [], 31⟩ := by kernel_rfl
theorem ref02_May_fzx1 {α : Type} (k : St → Option α) : P49 1 C49.r.r ⟨[], [], [], 31⟩ k = k ⟨[(2, ri (0 : Int))], [], [], 31⟩ := by kernel_rfl
/-- quilt/quiltref02.May -/
def ref02_May_q {β : Type} (s_ : I3) (K : Int → β) : β := (bif (ref02_May_r1_p s_) then (K (10 : Int)) else (K (0 : Int)))
def ref02_May (s_ : I3) : Int := ref02_May_q s_ (fun y => y)
theorem ref02_May_n {β : Type} (s_ : I3) (K : Int → β) : ref02_May_q s_ K = K (ref02_May s_) := (bif_k K rfl rfl)
theorem ref02_May_is (s_ : I3) : stepS E cp49 noE 26 [.agg (tsI3.leaves s_)] = (fun y : Int => some (ri y : R)) (ref02_May s_) := by
  refine Eq.trans ?_ (ref02_May_n s_ (fun y : Int => some (ri y : R)))
  refine (stepG_is (nt := 31) (regs := [(0, .agg (tsI3.leaves s_))]) (by kernel_rfl) (by kernel_rfl)).trans ?_
  unfold ref02_May_q
  refine (pre (n := 1) (c' := C49.r) (by kernel_rfl) (by kernel_rfl) (ref02_May_f1 s_ _)).trans ?_
  refine (seq_push (by kernel_rfl)).trans ?_
  refine (pre (n := 1) (c' := C49.r.l.r) (by kernel_rfl) (by kernel_rfl) (ref02_May_r1 s_ _)).trans ?_
  refine (cond_eq (b := (ref02_May_r1_p s_)) (st' := ⟨[], [], [], 31⟩) (by kernel_rfl) (by kernel_rfl) (by kernel_rfl)).trans (bif_g ?_ ?_)
  · refine (pre (n := 1) (c' := C49.r.l.r.t.r) (by kernel_rfl) (by kernel_rfl) (ref02_May_fz _)).trans ?_
    refine (ret_eq (by kernel_rfl)).trans ?_
    refine seqC_ret.trans ?_
    kernel_rfl
  · refine (skip_eq (by kernel_rfl)).trans ?_
    refine (seqC_normal (st' := ⟨[], [], [], 31⟩) (by kernel_rfl)).trans ?_
    refine (pre (n := 1) (c' := C49.r.r.r) (by kernel_rfl) (by kernel_rfl) (ref02_May_fzx1 _)).trans ?_
    refine (ret_eq (by kernel_rfl)).trans ?_
    kernel_rfl
theorem ref02_May_c (x : denL [(.agg tsI3)]) : stepS E cp49 noE 26 (encL [(.agg tsI3)] x) = ((fun x => some (ref02_May x.1)) x).bind fun y => some (Po.enc (.one (.one (.g (.int .i64)))) ((fun y : Int => y) y)) := Eq.mp (by kernel_rfl) (ref02_May_is x.1)
noncomputable def cp50 : CallP := withC cp49 26 [(.agg tsI3)] (.one (.one (.g (.int .i64)))) (fun y : Int => y) (fun x => some (ref02_May x.1))
theorem cp50_ok : PureOK E cp50 := withC_ok cp49_ok (stepS_ok eok cp49_ok noE_ok) fun x => con_of (enc := fun y => Po.enc (.one (.one (.g (.int .i64)))) ((fun y : Int => y) y)) (ref02_May_c x)
noncomputable abbrev C50 : Code := codeOf E.P 45
noncomputable abbrev P50 {α : Type} (n : Nat) (c : Code) (st : St) (k : St → Option α) : Option α := preK E 45 cp50 noE n c st k
noncomputable abbrev R50 {α : Type} (c : Code) (st : St) (k : Kont α) : Option α := runCode E 45 cp50 noE c st k
noncomputable abbrev Q50 {α : Type} (c : Code) (k : Kont α) : Kont α := seqC E 45 cp50 noE c k
theorem ref02_Out_f1 {α : Type} (size : Int) (k_ : Int) (stride : Int) (pad : Int) (k : St → Option α) : P50 1 C50 ⟨[(0, ri size), (1, ri k_), (2, ri stride), (3, ri pad)], [], [], 56⟩ k = k ⟨[(0, ri size), (1, ri k_), (2, ri stride), (3, ri pad)], [], [], 56⟩ := by kernel_rfl
def ref02_Out_r1_q {β : Type} (size : Int) (k_ : Int) (stride : Int) (pad : Int) (K : Bool → β) : β := (bif (decide (size < (1 : Int))) then (K true) else (bif (decide (size > (64 : Int))) then (K true) else (bif (decide (k_ < (1 : Int))) then (K true) else (bif (decide (k_ > (16 : Int))) then (K true) else (bif (decide (stride < (1 : Int))) then (K true) else (bif (decide (stride > (16 : Int))) then (K true) else (bif (decide (pad < (0 : Int))) then (K true) else (K (decide (pad > (16 : Int)))))))))))
def ref02_Out_r1_p (size : Int) (k_ : Int) (stride : Int) (pad : Int) : Bool := ref02_Out_r1_q size k_ stride pad (fun y => y)
theorem ref02_Out_r1_n {β : Type} (size : Int) (k_ : Int) (stride : Int) (pad : Int) (K : Bool → β) : ref02_Out_r1_q size k_ stride pad K = K (ref02_Out_r1_p size k_ stride pad) := (bif_k K rfl (bif_k K rfl (bif_k K rfl (bif_k K rfl (bif_k K rfl (bif_k K rfl (bif_k K rfl rfl)))))))
theorem ref02_Out_r1 {α : Type} (size : Int) (k_ : Int) (stride : Int) (pad : Int) (k : St → Option α) : P50 1 C50.r.l ⟨[(0, ri size), (1, ri k_), (2, ri stride), (3, ri pad)], [], [], 56⟩ k = k ⟨[(0, ri size), (1, ri k_), (2, ri stride), (3, ri pad), (40, rb (ref02_Out_r1_p size k_ stride pad))], [], [], 56⟩ := Eq.trans (by kernel_rfl) (ref02_Out_r1_n size k_ stride pad (fun y507 : Bool => k ⟨[(0, ri size), (1, ri k_), (2, ri stride), (3, ri pad), (40, rb y507)], [], [], 56⟩))
theorem ref02_Out_fz {α : Type} (size : Int) (k_ : Int) (stride : Int) (pad : Int) (k : St → Option α) : P50 1 C50.r.l.r.t ⟨[(0, ri size), (1, ri k_), (2, ri stride), (3, ri pad)], [], [], 56⟩ k = k ⟨[(8, ri (0 : Int))], [], [], 56⟩ := by kernel_rfl
theorem ref02_Out_f4 {α : Type} (size : Int) (k_ : Int) (stride : Int) (pad : Int) (k : St → Option α) : P50 1 C50.r.r ⟨[(0, ri size), (1, ri k_), (2, ri stride), (3, ri pad)], [], [], 56⟩ k = k ⟨[(0, ri size), (1, ri k_), (2, ri stride), (3, ri pad), (9, ri (0 : Int))], [], [], 56⟩ := by kernel_rfl
theorem ref02_Out_f5 {α : Type} (size : Int) (k_ : Int) (stride : Int) (pad : Int) (k : St → Option α) : P50 1 C50.r.r.r.l ⟨[(0, ri size), (1, ri k_), (2, ri stride), (3, ri pad), (9, ri (0 : Int))], [], [], 56⟩ k = k ⟨[(0, ri size), (1, ri k_), (2, ri stride), (3, ri pad), (9, ri (0 : Int)), (10, ri (IntKind.wrap .i64 (0 - pad)))], [], [], 56⟩ := by kernel_rfl
theorem ref02_Out_fzx1 {α : Type} (size : Int) (k_ : Int) (stride : Int) (pad : Int) (s516 : (Int × Int)) (k : St → Option α) : P50 1 (bodyOf (bodyOf C50.r.r.r.l.r)).l ⟨[(0, ri size), (1, ri k_), (2, ri stride), (3, ri pad), (9, ri s516.1), (10, ri s516.2)], [], [], 56⟩ k = k ⟨[(0, ri size), (1, ri k_), (2, ri stride), (3, ri pad), (9, ri s516.1), (10, ri s516.2), (49, rb (decide ((IntKind.wrap .i64 (s516.2 + k_)) ≤ (IntKind.wrap .i64 (size + pad)))))], [], [], 56⟩ := by kernel_rfl
theorem ref02_Out_r7 {α : Type} (size : Int) (k_ : Int) (stride : Int) (pad : Int) (s516 : (Int × Int)) (k : Kont α) : R50 (bodyOf (bodyOf (bodyOf C50.r.r.r.l.r)).r.l) ⟨[(0, ri size), (1, ri k_), (2, ri stride), (3, ri pad), (9, ri s516.1), (10, ri s516.2)], [], [], 56⟩ k = k .normal ⟨[(0, ri size), (1, ri k_), (2, ri stride), (3, ri pad), (9, ri (IntKind.wrap .i64 (s516.1 + (1 : Int)))), (10, ri s516.2)], [], [], 56⟩ := by kernel_rfl
theorem ref02_Out_r6 {α : Type} (size : Int) (k_ : Int) (stride : Int) (pad : Int) (s516 : (Int × Int)) (k : Kont α) : R50 (bodyOf (bodyOf C50.r.r.r.l.r)).r.r ⟨[(0, ri size), (1, ri k_), (2, ri stride), (3, ri pad), (9, ri (IntKind.wrap .i64 (s516.1 + (1 : Int)))), (10, ri s516.2)], [], [], 56⟩ k = k .normal ⟨[(0, ri size), (1, ri k_), (2, ri stride), (3, ri pad), (9, ri (IntKind.wrap .i64 (s516.1 + (1 : Int)))), (10, ri (IntKind.wrap .i64 (s516.2 + stride)))], [], [], 56⟩ := by kernel_rfl
def ref02_Out_l5_q {β : Type} (size : Int) (k_ : Int) (stride : Int) (pad : Int) (s516 : (Int × Int)) (K0 : (Int × Int) → Option β) (K1 : (Int × Int) → Option β) : Option β := (bif (decide ((IntKind.wrap .i64 (s516.2 + k_)) ≤ (IntKind.wrap .i64 (size + pad)))) then (K0 ((IntKind.wrap .i64 (s516.1 + (1 : Int))), (IntKind.wrap .i64 (s516.2 + stride)))) else (K1 s516))
def ref02_Out_l5_p (size : Int) (k_ : Int) (stride : Int) (pad : Int) (s516 : (Int × Int)) : Option ((Int × Int) ⊕ ((Int × Int))) := ref02_Out_l5_q size k_ stride pad s516 (fun y => some (Sum.inl y)) (fun y => some (Sum.inr y))
theorem ref02_Out_l5_n {β : Type} (size : Int) (k_ : Int) (stride : Int) (pad : Int) (s516 : (Int × Int)) (K0 : (Int × Int) → Option β) (K1 : (Int × Int) → Option β) : ref02_Out_l5_q size k_ stride pad s516 K0 K1 = (ref02_Out_l5_p size k_ stride pad s516).bind (either K0 K1) := (bif_b e2_0 e2_1)
theorem ref02_Out_l5_b {α : Type} (size : Int) (k_ : Int) (stride : Int) (pad : Int) (s516 : (Int × Int)) (k : Kont α) : R50 (bodyOf (bodyOf C50.r.r.r.l.r)) ⟨[(0, ri size), (1, ri k_), (2, ri stride), (3, ri pad), (9, ri s516.1), (10, ri s516.2)], [], [], 56⟩ (loopKont 0 k) = Option.bind (ref02_Out_l5_p size k_ stride pad s516) (either (fun y : (Int × Int) => k .normal ⟨[(0, ri size), (1, ri k_), (2, ri stride), (3, ri pad), (9, ri y.1), (10, ri y.2)], [], [], 56⟩) (fun y517 : (Int × Int) => k (.exit 0) ⟨[(0, ri size), (1, ri k_), (2, ri stride), (3, ri pad), (9, ri y517.1), (10, ri y517.2)], [], [], 56⟩)) := by
  refine Eq.trans ?_ (ref02_Out_l5_n size k_ stride pad s516 _ _)
  unfold ref02_Out_l5_q
  refine (seq_push (by kernel_rfl)).trans ?_
  refine (pre (n := 1) (c' := (bodyOf (bodyOf C50.r.r.r.l.r)).l.r) (by kernel_rfl) (by kernel_rfl) (ref02_Out_fzx1 size k_ stride pad s516 _)).trans ?_
  refine (cond_eq (b := (decide ((IntKind.wrap .i64 (s516.2 + k_)) ≤ (IntKind.wrap .i64 (size + pad))))) (st' := ⟨[(0, ri size), (1, ri k_), (2, ri stride), (3, ri pad), (9, ri s516.1), (10, ri s516.2)], [], [], 56⟩) (by kernel_rfl) (by kernel_rfl) (by kernel_rfl)).trans (bif_g ?_ ?_)
  · refine (skip_eq (by kernel_rfl)).trans ?_
    refine (seqC_normal (st' := ⟨[(0, ri size), (1, ri k_), (2, ri stride), (3, ri pad), (9, ri s516.1), (10, ri s516.2)], [], [], 56⟩) (by kernel_rfl)).trans ?_
    refine (seq_push (by kernel_rfl)).trans ?_
    refine (block_push (id := 1) (by kernel_rfl)).trans ?_
    refine (ref02_Out_r7 size k_ stride pad s516 _).trans ?_
    refine block_normal.trans ?_
    refine (seqC_normal (st' := ⟨[(0, ri size), (1, ri k_), (2, ri stride), (3, ri pad), (9, ri (IntKind.wrap .i64 (s516.1 + (1 : Int)))), (10, ri s516.2)], [], [], 56⟩) (by kernel_rfl)).trans ?_
    refine (ref02_Out_r6 size k_ stride pad s516 _).trans ?_
    kernel_rfl
  · refine (exit_eq (j := 0) (by kernel_rfl)).trans ?_
    refine seqC_exit.trans ?_
    kernel_rfl
theorem ref02_Out_l5 {α : Type} (size : Int) (k_ : Int) (stride : Int) (pad : Int) (k : Kont α) : R50 (bodyOf C50.r.r.r.l.r) ⟨[(0, ri size), (1, ri k_), (2, ri stride), (3, ri pad), (9, ri (0 : Int)), (10, ri (IntKind.wrap .i64 (0 - pad)))], [], [], 56⟩ k = Option.bind (iterN (ref02_Out_l5_p size k_ stride pad) LL ((0 : Int), (IntKind.wrap .i64 (0 - pad)))) (fun y517 : (Int × Int) => k (.exit 0) ⟨[(0, ri size), (1, ri k_), (2, ri stride), (3, ri pad), (9, ri y517.1), (10, ri y517.2)], [], [], 56⟩) :=
  Eq.trans (by kernel_rfl) (loop_iter1 (S := fun s516 : (Int × Int) => ⟨[(0, ri size), (1, ri k_), (2, ri stride), (3, ri pad), (9, ri s516.1), (10, ri s516.2)], [], [], 56⟩) (Y1 := fun y517 : (Int × Int) => ((.exit 0), ⟨[(0, ri size), (1, ri k_), (2, ri stride), (3, ri pad), (9, ri y517.1), (10, ri y517.2)], [], [], 56⟩)) (fun s k => ref02_Out_l5_b size k_ stride pad s k) (fun z => rfl) LL ((0 : Int), (IntKind.wrap .i64 (0 - pad))))
theorem ref02_Out_fzx2 {α : Type} (y517 : (Int × Int)) (k : St → Option α) : P50 1 C50.r.r.r.r ⟨[(9, ri y517.1)], [], [], 56⟩ k = k ⟨[(8, ri y517.1)], [], [], 56⟩ := by kernel_rfl
/-- quilt/quiltref02.Out -/
def ref02_Out_q {β : Type} (size : Int) (k_ : Int) (stride : Int) (pad : Int) (K : Int → Option β) : Option β := (bif (ref02_Out_r1_p size k_ stride pad) then (K (0 : Int)) else (Option.bind (iterN (ref02_Out_l5_p size k_ stride pad) LL ((0 : Int), (IntKind.wrap .i64 (0 - pad)))) (fun y517 : (Int × Int) => (K y517.1))))
def ref02_Out (size : Int) (k_ : Int) (stride : Int) (pad : Int) : Option Int := ref02_Out_q size k_ stride pad some
theorem ref02_Out_n {β : Type} (size : Int) (k_ : Int) (stride : Int) (pad : Int) (K : Int → Option β) : ref02_Out_q size k_ stride pad K = (ref02_Out size k_ stride pad).bind K := (bif_b some_b (bind_b fun y517 => some_b))
theorem ref02_Out_is (size : Int) (k_ : Int) (stride : Int) (pad : Int) : stepS E cp50 noE 45 [ri size, ri k_, ri stride, ri pad] = Option.bind (ref02_Out size k_ stride pad) (fun y : Int => some (ri y : R)) := by
  refine Eq.trans ?_ (ref02_Out_n size k_ stride pad (fun y : Int => some (ri y : R)))
  refine (stepG_is (nt := 56) (regs := [(0, ri size), (1, ri k_), (2, ri stride), (3, ri pad)]) (by kernel_rfl) (by kernel_rfl)).trans ?_
  unfold ref02_Out_q
  refine (pre (n := 1) (c' := C50.r) (by kernel_rfl) (by kernel_rfl) (ref02_Out_f1 size k_ stride pad _)).trans ?_
  refine (seq_push (by kernel_rfl)).trans ?_
  refine (pre (n := 1) (c' := C50.r.l.r) (by kernel_rfl) (by kernel_rfl) (ref02_Out_r1 size k_ stride pad _)).trans ?_
  refine (cond_eq (b := (ref02_Out_r1_p size k_ stride pad)) (st' := ⟨[(0, ri size), (1, ri k_), (2, ri stride), (3, ri pad)], [], [], 56⟩) (by kernel_rfl) (by kernel_rfl) (by kernel_rfl)).trans (bif_g ?_ ?_)
  · refine (pre (n := 1) (c' := C50.r.l.r.t.r) (by kernel_rfl) (by kernel_rfl) (ref02_Out_fz size k_ stride pad _)).trans ?_
    refine (ret_eq (by kernel_rfl)).trans ?_
    refine seqC_ret.trans ?_
    kernel_rfl
  · refine (skip_eq (by kernel_rfl)).trans ?_
    refine (seqC_normal (st' := ⟨[(0, ri size), (1, ri k_), (2, ri stride), (3, ri pad)], [], [], 56⟩) (by kernel_rfl)).trans ?_
    refine (pre (n := 1) (c' := C50.r.r.r) (by kernel_rfl) (by kernel_rfl) (ref02_Out_f4 size k_ stride pad _)).trans ?_
    refine (seq_push (by kernel_rfl)).trans ?_
    refine (pre (n := 1) (c' := C50.r.r.r.l.r) (by kernel_rfl) (by kernel_rfl) (ref02_Out_f5 size k_ stride pad _)).trans ?_
    refine (block_push (id := 0) (by kernel_rfl)).trans ?_
    refine (ref02_Out_l5 size k_ stride pad _).trans (bind_g fun y517 => ?_)
    refine block_same.trans ?_
    refine (seqC_normal (st' := ⟨[(9, ri y517.1)], [], [], 56⟩) (by kernel_rfl)).trans ?_
    refine (pre (n := 1) (c' := C50.r.r.r.r.r) (by kernel_rfl) (by kernel_rfl) (ref02_Out_fzx2 y517 _)).trans ?_
    refine (ret_eq (by kernel_rfl)).trans ?_
    kernel_rfl
theorem ref02_Out_c (x : denL [(.one (.g (.int .i64))), (.one (.g (.int .i64))), (.one (.g (.int .i64))), (.one (.g (.int .i64)))]) : stepS E cp50 noE 45 (encL [(.one (.g (.int .i64))), (.one (.g (.int .i64))), (.one (.g (.int .i64))), (.one (.g (.int .i64)))] x) = ((fun x => ref02_Out x.1 x.2.1 x.2.2.1 x.2.2.2.1) x).bind fun y => some (Po.enc (.one (.one (.g (.int .i64)))) ((fun y : Int => y) y)) := Eq.mp (by kernel_rfl) (ref02_Out_is x.1 x.2.1 x.2.2.1 x.2.2.2.1)
noncomputable def cp51 : CallP := withC cp50 45 [(.one (.g (.int .i64))), (.one (.g (.int .i64))), (.one (.g (.int .i64))), (.one (.g (.int .i64)))] (.one (.one (.g (.int .i64)))) (fun y : Int => y) (fun x => ref02_Out x.1 x.2.1 x.2.2.1 x.2.2.2.1)
theorem cp51_ok : PureOK E cp51 := withC_ok cp50_ok (stepS_ok eok cp50_ok noE_ok) fun x => con_of (enc := fun y => Po.enc (.one (.one (.g (.int .i64)))) ((fun y : Int => y) y)) (ref02_Out_c x)
noncomputable abbrev C51 : Code := codeOf E.P 16
noncomputable abbrev P51 {α : Type} (n : Nat) (c : Code) (st : St) (k : St → Option α) : Option α := preK E 16 cp51 noE n c st k
noncomputable abbrev R51 {α : Type} (c : Code) (st : St) (k : Kont α) : Option α := runCode E 16 cp51 noE c st k
noncomputable abbrev Q51 {α : Type} (c : Code) (k : Kont α) : Kont α := seqC E 16 cp51 noE c k
theorem ref02_Size_f1 {α : Type} (s_ : I3) (k : St → Option α) : P51 1 C51 ⟨[(0, .agg (tsI3.leaves s_))], [], [], 14⟩ k = k ⟨[(1, .one (.cell (tsI3.leaves s_)))], [], [], 14⟩ := by kernel_rfl
theorem ref02_Size_f1000002 {α : Type} (s_ : I3) (k : St → Option α) : P51 1 C51.r.l ⟨[(1, .one (.cell (tsI3.leaves s_)))], [], [], 14⟩ k = k ⟨[(1, .one (.cell (tsI3.leaves s_))), (5, rb ((ref02_May s_) != (0 : Int)))], [], [], 14⟩ := by kernel_rfl
theorem ref02_Size_fz {α : Type} (s_ : I3) (k : St → Option α) : P51 1 C51.r.l.r.t ⟨[(1, .one (.cell (tsI3.leaves s_)))], [], [], 14⟩ k = k ⟨[(2, ri (0 : Int))], [], [], 14⟩ := by kernel_rfl
theorem ref02_Size_fzx1 {α : Type} (s_ : I3) (k : St → Option α) : P51 1 C51.r.r ⟨[(1, .one (.cell (tsI3.leaves s_)))], [], [], 14⟩ k = k ⟨[(2, ri (IntKind.wrap .i64 ((IntKind.wrap .i64 (s_.1 * s_.2.1)) * s_.2.2)))], [], [], 14⟩ := by kernel_rfl
/-- quilt/quiltref02.Size -/
def ref02_Size_q {β : Type} (s_ : I3) (K : Int → β) : β := (bif ((ref02_May s_) != (0 : Int)) then (K (0 : Int)) else (K (IntKind.wrap .i64 ((IntKind.wrap .i64 (s_.1 * s_.2.1)) * s_.2.2))))
def ref02_Size (s_ : I3) : Int := ref02_Size_q s_ (fun y => y)
theorem ref02_Size_n {β : Type} (s_ : I3) (K : Int → β) : ref02_Size_q s_ K = K (ref02_Size s_) := (bif_k K rfl rfl)
theorem ref02_Size_is (s_ : I3) : stepS E cp51 noE 16 [.agg (tsI3.leaves s_)] = (fun y : Int => some (ri y : R)) (ref02_Size s_) := by
  refine Eq.trans ?_ (ref02_Size_n s_ (fun y : Int => some (ri y : R)))
  refine (stepG_is (nt := 14) (regs := [(0, .agg (tsI3.leaves s_))]) (by kernel_rfl) (by kernel_rfl)).trans ?_
  unfold ref02_Size_q
  refine (pre (n := 1) (c' := C51.r) (by kernel_rfl) (by kernel_rfl) (ref02_Size_f1 s_ _)).trans ?_
  refine (seq_push (by kernel_rfl)).trans ?_
  refine (pre (n := 1) (c' := C51.r.l.r) (by kernel_rfl) (by kernel_rfl) (ref02_Size_f1000002 s_ _)).trans ?_
  refine (cond_eq (b := ((ref02_May s_) != (0 : Int))) (st' := ⟨[(1, .one (.cell (tsI3.leaves s_)))], [], [], 14⟩) (by kernel_rfl) (by kernel_rfl) (by kernel_rfl)).trans (bif_g ?_ ?_)
  · refine (pre (n := 1) (c' := C51.r.l.r.t.r) (by kernel_rfl) (by kernel_rfl) (ref02_Size_fz s_ _)).trans ?_
    refine (ret_eq (by kernel_rfl)).trans ?_
    refine seqC_ret.trans ?_
    kernel_rfl
  · refine (skip_eq (by kernel_rfl)).trans ?_
    refine (seqC_normal (st' := ⟨[(1, .one (.cell (tsI3.leaves s_)))], [], [], 14⟩) (by kernel_rfl)).trans ?_
    refine (pre (n := 1) (c' := C51.r.r.r) (by kernel_rfl) (by kernel_rfl) (ref02_Size_fzx1 s_ _)).trans ?_
    refine (ret_eq (by kernel_rfl)).trans ?_
    kernel_rfl
theorem ref02_Size_c (x : denL [(.agg tsI3)]) : stepS E cp51 noE 16 (encL [(.agg tsI3)] x) = ((fun x => some (ref02_Size x.1)) x).bind fun y => some (Po.enc (.one (.one (.g (.int .i64)))) ((fun y : Int => y) y)) := Eq.mp (by kernel_rfl) (ref02_Size_is x.1)
noncomputable def cp52 : CallP := withC cp51 16 [(.agg tsI3)] (.one (.one (.g (.int .i64)))) (fun y : Int => y) (fun x => some (ref02_Size x.1))
theorem cp52_ok : PureOK E cp52 := withC_ok cp51_ok (stepS_ok eok cp51_ok noE_ok) fun x => con_of (enc := fun y => Po.enc (.one (.one (.g (.int .i64)))) ((fun y : Int => y) y)) (ref02_Size_c x)
end Go.V.P
