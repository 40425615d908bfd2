/- What functions compute. -/
import Derived.Test.YtcmckbcpeocokaaGv3
namespace Go.V.P
open Go.RowKit Go.V Go.Proofs
set_option linter.unusedVariables false
set_option maxRecDepth 100000
noncomputable abbrev C36 : Code := codeOf E.P 66
noncomputable abbrev P36 {α : Type} (n : Nat) (c : Code) (st : St) (k : St → Option α) : Option α := preK E 66 cp36 noE n c st k
noncomputable abbrev R36 {α : Type} (c : Code) (st : St) (k : Kont α) : Option α := runCode E 66 cp36 noE c st k
noncomputable abbrev Q36 {α : Type} (c : Code) (k : Kont α) : Kont α := seqC E 66 cp36 noE c k
def ref03_Two_r1_q {β : Type} (op : Int) (K : Bool → β) : β := (bif (op == (6 : Int)) then (K true) else (bif (op == (7 : Int)) then (K true) else (K (op == (10 : Int)))))
def ref03_Two_r1_p (op : Int) : Bool := ref03_Two_r1_q op (fun y => y)
theorem ref03_Two_r1_n {β : Type} (op : Int) (K : Bool → β) : ref03_Two_r1_q op K = K (ref03_Two_r1_p op) := (bif_k K rfl (bif_k K rfl rfl))
theorem ref03_Two_r1 {α : Type} (op : Int) (k : St → Option α) : P36 2 C36 ⟨[(0, ri op)], [], [], 13⟩ k = k ⟨[(2, rb (ref03_Two_r1_p op))], [], [], 13⟩ := Eq.trans (by kernel_rfl) (ref03_Two_r1_n op (fun y262 : Bool => k ⟨[(2, rb y262)], [], [], 13⟩))
/-- quilt/quiltref03.Two -/
def ref03_Two_q {β : Type} (op : Int) (K : Bool → β) : β := (K (ref03_Two_r1_p op))
def ref03_Two (op : Int) : Bool := ref03_Two_q op (fun y => y)
theorem ref03_Two_n {β : Type} (op : Int) (K : Bool → β) : ref03_Two_q op K = K (ref03_Two op) := rfl
theorem ref03_Two_is (op : Int) : stepS E cp36 noE 66 [ri op] = (fun y : Bool => some (rb y : R)) (ref03_Two op) := by
  refine Eq.trans ?_ (ref03_Two_n op (fun y : Bool => some (rb y : R)))
  refine (stepG_is (nt := 13) (regs := [(0, ri op)]) (by kernel_rfl) (by kernel_rfl)).trans ?_
  unfold ref03_Two_q
  refine (pre (n := 2) (c' := C36.r.r) (by kernel_rfl) (by kernel_rfl) (ref03_Two_r1 op _)).trans ?_
  refine (ret_eq (by kernel_rfl)).trans ?_
  kernel_rfl
theorem ref03_Two_c (x : denL [(.one (.g (.int .i64)))]) : stepS E cp36 noE 66 (encL [(.one (.g (.int .i64)))] x) = ((fun x => some (ref03_Two x.1)) x).bind fun y => some (Po.enc (.one (.one (.g .bool))) ((fun y : Bool => y) y)) := Eq.mp (by kernel_rfl) (ref03_Two_is x.1)
noncomputable def cp37 : CallP := withC cp36 66 [(.one (.g (.int .i64)))] (.one (.one (.g .bool))) (fun y : Bool => y) (fun x => some (ref03_Two x.1))
theorem cp37_ok : PureOK E cp37 := withC_ok cp36_ok (stepS_ok eok cp36_ok noE_ok) fun x => con_of (enc := fun y => Po.enc (.one (.one (.g .bool))) ((fun y : Bool => y) y)) (ref03_Two_c x)
noncomputable abbrev C37 : Code := codeOf E.P 67
noncomputable abbrev P37 {α : Type} (n : Nat) (c : Code) (st : St) (k : St → Option α) : Option α := preK E 67 cp37 noE n c st k
noncomputable abbrev R37 {α : Type} (c : Code) (st : St) (k : Kont α) : Option α := runCode E 67 cp37 noE c st k
noncomputable abbrev Q37 {α : Type} (c : Code) (k : Kont α) : Kont α := seqC E 67 cp37 noE c k
def ref03_Window_r1_q {β : Type} (op : Int) (K : Bool → β) : β := (bif (decide (op ≥ (1 : Int))) then (bif (decide (op ≤ (5 : Int))) then (K (op != (3 : Int))) else (K false)) else (K false))
def ref03_Window_r1_p (op : Int) : Bool := ref03_Window_r1_q op (fun y => y)
theorem ref03_Window_r1_n {β : Type} (op : Int) (K : Bool → β) : ref03_Window_r1_q op K = K (ref03_Window_r1_p op) := (bif_k K (bif_k K rfl rfl) rfl)
theorem ref03_Window_r1 {α : Type} (op : Int) (k : St → Option α) : P37 2 C37 ⟨[(0, ri op)], [], [], 13⟩ k = k ⟨[(2, rb (ref03_Window_r1_p op))], [], [], 13⟩ := Eq.trans (by kernel_rfl) (ref03_Window_r1_n op (fun y265 : Bool => k ⟨[(2, rb y265)], [], [], 13⟩))
/-- quilt/quiltref03.Window -/
def ref03_Window_q {β : Type} (op : Int) (K : Bool → β) : β := (K (ref03_Window_r1_p op))
def ref03_Window (op : Int) : Bool := ref03_Window_q op (fun y => y)
theorem ref03_Window_n {β : Type} (op : Int) (K : Bool → β) : ref03_Window_q op K = K (ref03_Window op) := rfl
theorem ref03_Window_is (op : Int) : stepS E cp37 noE 67 [ri op] = (fun y : Bool => some (rb y : R)) (ref03_Window op) := by
  refine Eq.trans ?_ (ref03_Window_n op (fun y : Bool => some (rb y : R)))
  refine (stepG_is (nt := 13) (regs := [(0, ri op)]) (by kernel_rfl) (by kernel_rfl)).trans ?_
  unfold ref03_Window_q
  refine (pre (n := 2) (c' := C37.r.r) (by kernel_rfl) (by kernel_rfl) (ref03_Window_r1 op _)).trans ?_
  refine (ret_eq (by kernel_rfl)).trans ?_
  kernel_rfl
theorem ref03_Window_c (x : denL [(.one (.g (.int .i64)))]) : stepS E cp37 noE 67 (encL [(.one (.g (.int .i64)))] x) = ((fun x => some (ref03_Window x.1)) x).bind fun y => some (Po.enc (.one (.one (.g .bool))) ((fun y : Bool => y) y)) := Eq.mp (by kernel_rfl) (ref03_Window_is x.1)
noncomputable def cp38 : CallP := withC cp37 67 [(.one (.g (.int .i64)))] (.one (.one (.g .bool))) (fun y : Bool => y) (fun x => some (ref03_Window x.1))
theorem cp38_ok : PureOK E cp38 := withC_ok cp37_ok (stepS_ok eok cp37_ok noE_ok) fun x => con_of (enc := fun y => Po.enc (.one (.one (.g .bool))) ((fun y : Bool => y) y)) (ref03_Window_c x)
noncomputable abbrev C38 : Code := codeOf E.P 35
noncomputable abbrev P38 {α : Type} (n : Nat) (c : Code) (st : St) (k : St → Option α) : Option α := preK E 35 cp38 noE n c st k
noncomputable abbrev R38 {α : Type} (c : Code) (st : St) (k : Kont α) : Option α := runCode E 35 cp38 noE c st k
noncomputable abbrev Q38 {α : Type} (c : Code) (k : Kont α) : Kont α := seqC E 35 cp38 noE c k
def ref03_in_r1_q {β : Type} (x_ : Int) (low : Int) (high : Int) (K : Bool → β) : β := (bif (decide (x_ ≥ low)) then (K (decide (x_ ≤ high))) else (K false))
def ref03_in_r1_p (x_ : Int) (low : Int) (high : Int) : Bool := ref03_in_r1_q x_ low high (fun y => y)
theorem ref03_in_r1_n {β : Type} (x_ : Int) (low : Int) (high : Int) (K : Bool → β) : ref03_in_r1_q x_ low high K = K (ref03_in_r1_p x_ low high) := (bif_k K rfl rfl)
theorem ref03_in_r1 {α : Type} (x_ : Int) (low : Int) (high : Int) (k : St → Option α) : P38 2 C38 ⟨[(0, ri x_), (1, ri low), (2, ri high)], [], [], 15⟩ k = k ⟨[(6, rb (ref03_in_r1_p x_ low high))], [], [], 15⟩ := Eq.trans (by kernel_rfl) (ref03_in_r1_n x_ low high (fun y266 : Bool => k ⟨[(6, rb y266)], [], [], 15⟩))
/-- quilt/quiltref03.in -/
def ref03_in_q {β : Type} (x_ : Int) (low : Int) (high : Int) (K : Bool → β) : β := (K (ref03_in_r1_p x_ low high))
def ref03_in (x_ : Int) (low : Int) (high : Int) : Bool := ref03_in_q x_ low high (fun y => y)
theorem ref03_in_n {β : Type} (x_ : Int) (low : Int) (high : Int) (K : Bool → β) : ref03_in_q x_ low high K = K (ref03_in x_ low high) := rfl
theorem ref03_in_is (x_ : Int) (low : Int) (high : Int) : stepS E cp38 noE 35 [ri x_, ri low, ri high] = (fun y : Bool => some (rb y : R)) (ref03_in x_ low high) := by
  refine Eq.trans ?_ (ref03_in_n x_ low high (fun y : Bool => some (rb y : R)))
  refine (stepG_is (nt := 15) (regs := [(0, ri x_), (1, ri low), (2, ri high)]) (by kernel_rfl) (by kernel_rfl)).trans ?_
  unfold ref03_in_q
  refine (pre (n := 2) (c' := C38.r.r) (by kernel_rfl) (by kernel_rfl) (ref03_in_r1 x_ low high _)).trans ?_
  refine (ret_eq (by kernel_rfl)).trans ?_
  kernel_rfl
theorem ref03_in_c (x : denL [(.one (.g (.int .i64))), (.one (.g (.int .i64))), (.one (.g (.int .i64)))]) : stepS E cp38 noE 35 (encL [(.one (.g (.int .i64))), (.one (.g (.int .i64))), (.one (.g (.int .i64)))] x) = ((fun x => some (ref03_in x.1 x.2.1 x.2.2.1)) x).bind fun y => some (Po.enc (.one (.one (.g .bool))) ((fun y : Bool => y) y)) := Eq.mp (by kernel_rfl) (ref03_in_is x.1 x.2.1 x.2.2.1)
noncomputable def cp39 : CallP := withC cp38 35 [(.one (.g (.int .i64))), (.one (.g (.int .i64))), (.one (.g (.int .i64)))] (.one (.one (.g .bool))) (fun y : Bool => y) (fun x => some (ref03_in x.1 x.2.1 x.2.2.1))
theorem cp39_ok : PureOK E cp39 := withC_ok cp38_ok (stepS_ok eok cp38_ok noE_ok) fun x => con_of (enc := fun y => Po.enc (.one (.one (.g .bool))) ((fun y : Bool => y) y)) (ref03_in_c x)
noncomputable abbrev C39 : Code := codeOf E.P 31
noncomputable abbrev P39 {α : Type} (n : Nat) (c : Code) (st : St) (k : St → Option α) : Option α := preK E 31 cp39 noE n c st k
noncomputable abbrev R39 {α : Type} (c : Code) (st : St) (k : Kont α) : Option α := runCode E 31 cp39 noE c st k
noncomputable abbrev Q39 {α : Type} (c : Code) (k : Kont α) : Kont α := seqC E 31 cp39 noE c k
theorem ref03_node_f2 {α : Type} (n_ : Node) (many : Int) (k : St → Option α) : P39 2 C39 ⟨[(0, .agg (tsNode.leaves n_)), (1, ri many)], [], [], 119⟩ k = k ⟨[(1, ri many), (2, .one (.cell (tsNode.leaves n_))), (5, ri (1 : Int))], [], [], 119⟩ := by kernel_rfl
theorem ref03_node_f1000003 {α : Type} (n_ : Node) (many : Int) (k : St → Option α) : P39 1 C39.r.r.l ⟨[(1, ri many), (2, .one (.cell (tsNode.leaves n_))), (5, ri (1 : Int))], [], [], 119⟩ k = k ⟨[(1, ri many), (2, .one (.cell (tsNode.leaves n_))), (5, ri (1 : Int)), (13, rb (ref03_Two n_.1))], [], [], 119⟩ := by kernel_rfl
theorem ref03_node_r3 {α : Type} (n_ : Node) (many : Int) (k : Kont α) : R39 C39.r.r.l.r.t ⟨[(1, ri many), (2, .one (.cell (tsNode.leaves n_))), (5, ri (1 : Int))], [], [], 119⟩ k = k .normal ⟨[(1, ri many), (2, .one (.cell (tsNode.leaves n_))), (5, ri (2 : Int))], [], [], 119⟩ := by kernel_rfl
def ref03_node_j2_q {β : Type} (n_ : Node) (K : Int → β) : β := (bif (ref03_Two n_.1) then (K (2 : Int)) else (K (1 : Int)))
def ref03_node_j2_p (n_ : Node) : Int := ref03_node_j2_q n_ (fun y => y)
theorem ref03_node_j2_n {β : Type} (n_ : Node) (K : Int → β) : ref03_node_j2_q n_ K = K (ref03_node_j2_p n_) := (bif_k K rfl rfl)
theorem ref03_node_j2 {α : Type} (n_ : Node) (many : Int) (k : Kont α) : R39 C39.r.r.l ⟨[(1, ri many), (2, .one (.cell (tsNode.leaves n_))), (5, ri (1 : Int))], [], [], 119⟩ (Q39 C39.r.r.r k) = R39 C39.r.r.r ⟨[(1, ri many), (2, .one (.cell (tsNode.leaves n_))), (5, ri (ref03_node_j2_p n_))], [], [], 119⟩ k := by
  refine Eq.trans ?_ (ref03_node_j2_n n_ (fun y263 : Int => R39 C39.r.r.r ⟨[(1, ri many), (2, .one (.cell (tsNode.leaves n_))), (5, ri y263)], [], [], 119⟩ k))
  unfold ref03_node_j2_q
  refine (pre (n := 1) (c' := C39.r.r.l.r) (by kernel_rfl) (by kernel_rfl) (ref03_node_f1000003 n_ many _)).trans ?_
  refine (cond_eq (b := (ref03_Two n_.1)) (st' := ⟨[(1, ri many), (2, .one (.cell (tsNode.leaves n_))), (5, ri (1 : Int))], [], [], 119⟩) (by kernel_rfl) (by kernel_rfl) (by kernel_rfl)).trans (bif_g ?_ ?_)
  · refine (ref03_node_r3 n_ many _).trans ?_
    refine (seqC_normal (st' := ⟨[(1, ri many), (2, .one (.cell (tsNode.leaves n_))), (5, ri (2 : Int))], [], [], 119⟩) (by kernel_rfl)).trans ?_
    kernel_rfl
  · refine (skip_eq (by kernel_rfl)).trans ?_
    refine (seqC_normal (st' := ⟨[(1, ri many), (2, .one (.cell (tsNode.leaves n_))), (5, ri (1 : Int))], [], [], 119⟩) (by kernel_rfl)).trans ?_
    kernel_rfl
def ref03_node_r4_q {β : Type} (n_ : Node) (K : Bool → β) : β := (bif (n_.2.2.1 == (0 : Int)) then (K (n_.2.2.2.1 == (0 : Int))) else (K false))
def ref03_node_r4_p (n_ : Node) : Bool := ref03_node_r4_q n_ (fun y => y)
theorem ref03_node_r4_n {β : Type} (n_ : Node) (K : Bool → β) : ref03_node_r4_q n_ K = K (ref03_node_r4_p n_) := (bif_k K rfl rfl)
theorem ref03_node_r4 {α : Type} (n_ : Node) (many : Int) (k : St → Option α) : P39 1 C39.r.r.r ⟨[(1, ri many), (2, .one (.cell (tsNode.leaves n_))), (5, ri (ref03_node_j2_p n_))], [], [], 119⟩ k = k ⟨[(1, ri many), (2, .one (.cell (tsNode.leaves n_))), (5, ri (ref03_node_j2_p n_)), (6, rb (ref03_node_r4_p n_))], [], [], 119⟩ := Eq.trans (by kernel_rfl) (ref03_node_r4_n n_ (fun y264 : Bool => k ⟨[(1, ri many), (2, .one (.cell (tsNode.leaves n_))), (5, ri (ref03_node_j2_p n_)), (6, rb y264)], [], [], 119⟩))
theorem ref03_node_f1000006 {α : Type} (n_ : Node) (many : Int) (k : St → Option α) : P39 1 C39.r.r.r.r.l ⟨[(1, ri many), (2, .one (.cell (tsNode.leaves n_))), (5, ri (ref03_node_j2_p n_)), (6, rb (ref03_node_r4_p n_))], [], [], 119⟩ k = k ⟨[(1, ri many), (2, .one (.cell (tsNode.leaves n_))), (5, ri (ref03_node_j2_p n_)), (6, rb (ref03_node_r4_p n_)), (24, rb (ref03_Window n_.1))], [], [], 119⟩ := by kernel_rfl
def ref03_node_r6_q {β : Type} (n_ : Node) (K : Bool → β) : β := (bif (ref03_in n_.2.2.1 (1 : Int) (3 : Int)) then (K (ref03_in n_.2.2.2.1 (1 : Int) (2 : Int))) else (K false))
def ref03_node_r6_p (n_ : Node) : Bool := ref03_node_r6_q n_ (fun y => y)
theorem ref03_node_r6_n {β : Type} (n_ : Node) (K : Bool → β) : ref03_node_r6_q n_ K = K (ref03_node_r6_p n_) := (bif_k K rfl rfl)
theorem ref03_node_r6 {α : Type} (n_ : Node) (many : Int) (k : Kont α) : R39 C39.r.r.r.r.l.r.t ⟨[(1, ri many), (2, .one (.cell (tsNode.leaves n_))), (5, ri (ref03_node_j2_p n_)), (6, rb (ref03_node_r4_p n_))], [], [], 119⟩ k = k .normal ⟨[(1, ri many), (2, .one (.cell (tsNode.leaves n_))), (5, ri (ref03_node_j2_p n_)), (6, rb (ref03_node_r6_p n_))], [], [], 119⟩ := Eq.trans (by kernel_rfl) (ref03_node_r6_n n_ (fun y267 : Bool => k .normal ⟨[(1, ri many), (2, .one (.cell (tsNode.leaves n_))), (5, ri (ref03_node_j2_p n_)), (6, rb y267)], [], [], 119⟩))
def ref03_node_j5_q {β : Type} (n_ : Node) (K : Bool → β) : β := (bif (ref03_Window n_.1) then (K (ref03_node_r6_p n_)) else (K (ref03_node_r4_p n_)))
def ref03_node_j5_p (n_ : Node) : Bool := ref03_node_j5_q n_ (fun y => y)
theorem ref03_node_j5_n {β : Type} (n_ : Node) (K : Bool → β) : ref03_node_j5_q n_ K = K (ref03_node_j5_p n_) := (bif_k K rfl rfl)
theorem ref03_node_j5 {α : Type} (n_ : Node) (many : Int) (k : Kont α) : R39 C39.r.r.r.r.l ⟨[(1, ri many), (2, .one (.cell (tsNode.leaves n_))), (5, ri (ref03_node_j2_p n_)), (6, rb (ref03_node_r4_p n_))], [], [], 119⟩ (Q39 C39.r.r.r.r.r k) = R39 C39.r.r.r.r.r ⟨[(1, ri many), (2, .one (.cell (tsNode.leaves n_))), (5, ri (ref03_node_j2_p n_)), (6, rb (ref03_node_j5_p n_))], [], [], 119⟩ k := by
  refine Eq.trans ?_ (ref03_node_j5_n n_ (fun y268 : Bool => R39 C39.r.r.r.r.r ⟨[(1, ri many), (2, .one (.cell (tsNode.leaves n_))), (5, ri (ref03_node_j2_p n_)), (6, rb y268)], [], [], 119⟩ k))
  unfold ref03_node_j5_q
  refine (pre (n := 1) (c' := C39.r.r.r.r.l.r) (by kernel_rfl) (by kernel_rfl) (ref03_node_f1000006 n_ many _)).trans ?_
  refine (cond_eq (b := (ref03_Window n_.1)) (st' := ⟨[(1, ri many), (2, .one (.cell (tsNode.leaves n_))), (5, ri (ref03_node_j2_p n_)), (6, rb (ref03_node_r4_p n_))], [], [], 119⟩) (by kernel_rfl) (by kernel_rfl) (by kernel_rfl)).trans (bif_g ?_ ?_)
  · refine (ref03_node_r6 n_ many _).trans ?_
    refine (seqC_normal (st' := ⟨[(1, ri many), (2, .one (.cell (tsNode.leaves n_))), (5, ri (ref03_node_j2_p n_)), (6, rb (ref03_node_r6_p n_))], [], [], 119⟩) (by kernel_rfl)).trans ?_
    kernel_rfl
  · refine (skip_eq (by kernel_rfl)).trans ?_
    refine (seqC_normal (st' := ⟨[(1, ri many), (2, .one (.cell (tsNode.leaves n_))), (5, ri (ref03_node_j2_p n_)), (6, rb (ref03_node_r4_p n_))], [], [], 119⟩) (by kernel_rfl)).trans ?_
    kernel_rfl
theorem ref03_node_f8 {α : Type} (n_ : Node) (many : Int) (k : St → Option α) : P39 1 C39.r.r.r.r.r ⟨[(1, ri many), (2, .one (.cell (tsNode.leaves n_))), (5, ri (ref03_node_j2_p n_)), (6, rb (ref03_node_j5_p n_))], [], [], 119⟩ k = k ⟨[(1, ri many), (2, .one (.cell (tsNode.leaves n_))), (5, ri (ref03_node_j2_p n_)), (6, rb (ref03_node_j5_p n_)), (7, rb (n_.2.2.2.2.1 == (0 : Int)))], [], [], 119⟩ := by kernel_rfl
def ref03_node_r8_q {β : Type} (n_ : Node) (K : Bool → β) : β := (bif (n_.1 == (1 : Int)) then (K true) else (K (n_.1 == (2 : Int))))
def ref03_node_r8_p (n_ : Node) : Bool := ref03_node_r8_q n_ (fun y => y)
theorem ref03_node_r8_n {β : Type} (n_ : Node) (K : Bool → β) : ref03_node_r8_q n_ K = K (ref03_node_r8_p n_) := (bif_k K rfl rfl)
theorem ref03_node_r8 {α : Type} (n_ : Node) (many : Int) (k : St → Option α) : P39 1 C39.r.r.r.r.r.r.l ⟨[(1, ri many), (2, .one (.cell (tsNode.leaves n_))), (5, ri (ref03_node_j2_p n_)), (6, rb (ref03_node_j5_p n_)), (7, rb (n_.2.2.2.2.1 == (0 : Int)))], [], [], 119⟩ k = k ⟨[(1, ri many), (2, .one (.cell (tsNode.leaves n_))), (5, ri (ref03_node_j2_p n_)), (6, rb (ref03_node_j5_p n_)), (7, rb (n_.2.2.2.2.1 == (0 : Int))), (43, rb (ref03_node_r8_p n_))], [], [], 119⟩ := Eq.trans (by kernel_rfl) (ref03_node_r8_n n_ (fun y269 : Bool => k ⟨[(1, ri many), (2, .one (.cell (tsNode.leaves n_))), (5, ri (ref03_node_j2_p n_)), (6, rb (ref03_node_j5_p n_)), (7, rb (n_.2.2.2.2.1 == (0 : Int))), (43, rb y269)], [], [], 119⟩))
def ref03_node_r9_q {β : Type} (n_ : Node) (K : Bool → β) : β := (bif (ref03_in n_.2.2.2.2.1 (0 : Int) (1 : Int)) then (K (decide (n_.2.2.2.2.1 < n_.2.2.1))) else (K false))
def ref03_node_r9_p (n_ : Node) : Bool := ref03_node_r9_q n_ (fun y => y)
theorem ref03_node_r9_n {β : Type} (n_ : Node) (K : Bool → β) : ref03_node_r9_q n_ K = K (ref03_node_r9_p n_) := (bif_k K rfl rfl)
theorem ref03_node_r9 {α : Type} (n_ : Node) (many : Int) (k : Kont α) : R39 C39.r.r.r.r.r.r.l.r.t ⟨[(1, ri many), (2, .one (.cell (tsNode.leaves n_))), (5, ri (ref03_node_j2_p n_)), (6, rb (ref03_node_j5_p n_)), (7, rb (n_.2.2.2.2.1 == (0 : Int)))], [], [], 119⟩ k = k .normal ⟨[(1, ri many), (2, .one (.cell (tsNode.leaves n_))), (5, ri (ref03_node_j2_p n_)), (6, rb (ref03_node_j5_p n_)), (7, rb (ref03_node_r9_p n_))], [], [], 119⟩ := Eq.trans (by kernel_rfl) (ref03_node_r9_n n_ (fun y270 : Bool => k .normal ⟨[(1, ri many), (2, .one (.cell (tsNode.leaves n_))), (5, ri (ref03_node_j2_p n_)), (6, rb (ref03_node_j5_p n_)), (7, rb y270)], [], [], 119⟩))
def ref03_node_j8_q {β : Type} (n_ : Node) (K : Bool → β) : β := (bif (ref03_node_r8_p n_) then (K (ref03_node_r9_p n_)) else (K (n_.2.2.2.2.1 == (0 : Int))))
def ref03_node_j8_p (n_ : Node) : Bool := ref03_node_j8_q n_ (fun y => y)
theorem ref03_node_j8_n {β : Type} (n_ : Node) (K : Bool → β) : ref03_node_j8_q n_ K = K (ref03_node_j8_p n_) := (bif_k K rfl rfl)
theorem ref03_node_j8 {α : Type} (n_ : Node) (many : Int) (k : Kont α) : R39 C39.r.r.r.r.r.r.l ⟨[(1, ri many), (2, .one (.cell (tsNode.leaves n_))), (5, ri (ref03_node_j2_p n_)), (6, rb (ref03_node_j5_p n_)), (7, rb (n_.2.2.2.2.1 == (0 : Int)))], [], [], 119⟩ (Q39 C39.r.r.r.r.r.r.r k) = R39 C39.r.r.r.r.r.r.r ⟨[(1, ri many), (2, .one (.cell (tsNode.leaves n_))), (5, ri (ref03_node_j2_p n_)), (6, rb (ref03_node_j5_p n_)), (7, rb (ref03_node_j8_p n_))], [], [], 119⟩ k := by
  refine Eq.trans ?_ (ref03_node_j8_n n_ (fun y271 : Bool => R39 C39.r.r.r.r.r.r.r ⟨[(1, ri many), (2, .one (.cell (tsNode.leaves n_))), (5, ri (ref03_node_j2_p n_)), (6, rb (ref03_node_j5_p n_)), (7, rb y271)], [], [], 119⟩ k))
  unfold ref03_node_j8_q
  refine (pre (n := 1) (c' := C39.r.r.r.r.r.r.l.r) (by kernel_rfl) (by kernel_rfl) (ref03_node_r8 n_ many _)).trans ?_
  refine (cond_eq (b := (ref03_node_r8_p n_)) (st' := ⟨[(1, ri many), (2, .one (.cell (tsNode.leaves n_))), (5, ri (ref03_node_j2_p n_)), (6, rb (ref03_node_j5_p n_)), (7, rb (n_.2.2.2.2.1 == (0 : Int)))], [], [], 119⟩) (by kernel_rfl) (by kernel_rfl) (by kernel_rfl)).trans (bif_g ?_ ?_)
  · refine (ref03_node_r9 n_ many _).trans ?_
    refine (seqC_normal (st' := ⟨[(1, ri many), (2, .one (.cell (tsNode.leaves n_))), (5, ri (ref03_node_j2_p n_)), (6, rb (ref03_node_j5_p n_)), (7, rb (ref03_node_r9_p n_))], [], [], 119⟩) (by kernel_rfl)).trans ?_
    kernel_rfl
  · refine (skip_eq (by kernel_rfl)).trans ?_
    refine (seqC_normal (st' := ⟨[(1, ri many), (2, .one (.cell (tsNode.leaves n_))), (5, ri (ref03_node_j2_p n_)), (6, rb (ref03_node_j5_p n_)), (7, rb (n_.2.2.2.2.1 == (0 : Int)))], [], [], 119⟩) (by kernel_rfl)).trans ?_
    kernel_rfl
theorem ref03_node_f1000011 {α : Type} (n_ : Node) (many : Int) (k : St → Option α) : P39 1 C39.r.r.r.r.r.r.r.l ⟨[(1, ri many), (2, .one (.cell (tsNode.leaves n_))), (5, ri (ref03_node_j2_p n_)), (6, rb (ref03_node_j5_p n_)), (7, rb (ref03_node_j8_p n_))], [], [], 119⟩ k = k ⟨[(1, ri many), (2, .one (.cell (tsNode.leaves n_))), (5, ri (ref03_node_j2_p n_)), (6, rb (ref03_node_j5_p n_)), (7, rb (ref03_node_j8_p n_)), (56, rb (n_.1 == (9 : Int)))], [], [], 119⟩ := by kernel_rfl
theorem ref03_node_r11 {α : Type} (n_ : Node) (many : Int) (k : Kont α) : R39 C39.r.r.r.r.r.r.r.l.r.t ⟨[(1, ri many), (2, .one (.cell (tsNode.leaves n_))), (5, ri (ref03_node_j2_p n_)), (6, rb (ref03_node_j5_p n_)), (7, rb (ref03_node_j8_p n_))], [], [], 119⟩ k = k .normal ⟨[(1, ri many), (2, .one (.cell (tsNode.leaves n_))), (5, ri (ref03_node_j2_p n_)), (6, rb (ref03_node_j5_p n_)), (7, rb (n_.2.2.2.2.1 == (1 : Int)))], [], [], 119⟩ := by kernel_rfl
def ref03_node_j10_q {β : Type} (n_ : Node) (K : Bool → β) : β := (bif (n_.1 == (9 : Int)) then (K (n_.2.2.2.2.1 == (1 : Int))) else (K (ref03_node_j8_p n_)))
def ref03_node_j10_p (n_ : Node) : Bool := ref03_node_j10_q n_ (fun y => y)
theorem ref03_node_j10_n {β : Type} (n_ : Node) (K : Bool → β) : ref03_node_j10_q n_ K = K (ref03_node_j10_p n_) := (bif_k K rfl rfl)
theorem ref03_node_j10 {α : Type} (n_ : Node) (many : Int) (k : Kont α) : R39 C39.r.r.r.r.r.r.r.l ⟨[(1, ri many), (2, .one (.cell (tsNode.leaves n_))), (5, ri (ref03_node_j2_p n_)), (6, rb (ref03_node_j5_p n_)), (7, rb (ref03_node_j8_p n_))], [], [], 119⟩ (Q39 C39.r.r.r.r.r.r.r.r k) = R39 C39.r.r.r.r.r.r.r.r ⟨[(1, ri many), (2, .one (.cell (tsNode.leaves n_))), (5, ri (ref03_node_j2_p n_)), (6, rb (ref03_node_j5_p n_)), (7, rb (ref03_node_j10_p n_))], [], [], 119⟩ k := by
  refine Eq.trans ?_ (ref03_node_j10_n n_ (fun y272 : Bool => R39 C39.r.r.r.r.r.r.r.r ⟨[(1, ri many), (2, .one (.cell (tsNode.leaves n_))), (5, ri (ref03_node_j2_p n_)), (6, rb (ref03_node_j5_p n_)), (7, rb y272)], [], [], 119⟩ k))
  unfold ref03_node_j10_q
  refine (pre (n := 1) (c' := C39.r.r.r.r.r.r.r.l.r) (by kernel_rfl) (by kernel_rfl) (ref03_node_f1000011 n_ many _)).trans ?_
  refine (cond_eq (b := (n_.1 == (9 : Int))) (st' := ⟨[(1, ri many), (2, .one (.cell (tsNode.leaves n_))), (5, ri (ref03_node_j2_p n_)), (6, rb (ref03_node_j5_p n_)), (7, rb (ref03_node_j8_p n_))], [], [], 119⟩) (by kernel_rfl) (by kernel_rfl) (by kernel_rfl)).trans (bif_g ?_ ?_)
  · refine (ref03_node_r11 n_ many _).trans ?_
    refine (seqC_normal (st' := ⟨[(1, ri many), (2, .one (.cell (tsNode.leaves n_))), (5, ri (ref03_node_j2_p n_)), (6, rb (ref03_node_j5_p n_)), (7, rb (n_.2.2.2.2.1 == (1 : Int)))], [], [], 119⟩) (by kernel_rfl)).trans ?_
    kernel_rfl
  · refine (skip_eq (by kernel_rfl)).trans ?_
    refine (seqC_normal (st' := ⟨[(1, ri many), (2, .one (.cell (tsNode.leaves n_))), (5, ri (ref03_node_j2_p n_)), (6, rb (ref03_node_j5_p n_)), (7, rb (ref03_node_j8_p n_))], [], [], 119⟩) (by kernel_rfl)).trans ?_
    kernel_rfl
theorem ref03_node_f13 {α : Type} (n_ : Node) (many : Int) (k : St → Option α) : P39 1 C39.r.r.r.r.r.r.r.r ⟨[(1, ri many), (2, .one (.cell (tsNode.leaves n_))), (5, ri (ref03_node_j2_p n_)), (6, rb (ref03_node_j5_p n_)), (7, rb (ref03_node_j10_p n_))], [], [], 119⟩ k = k ⟨[(1, ri many), (2, .one (.cell (tsNode.leaves n_))), (5, ri (ref03_node_j2_p n_)), (6, rb (ref03_node_j5_p n_)), (7, rb (ref03_node_j10_p n_)), (8, rb (n_.2.2.2.2.2.1 == (0 : Int)))], [], [], 119⟩ := by kernel_rfl
def ref03_node_r13_q {β : Type} (n_ : Node) (K : Bool → β) : β := (bif (n_.1 == (1 : Int)) then (K true) else (K (n_.1 == (3 : Int))))
def ref03_node_r13_p (n_ : Node) : Bool := ref03_node_r13_q n_ (fun y => y)
theorem ref03_node_r13_n {β : Type} (n_ : Node) (K : Bool → β) : ref03_node_r13_q n_ K = K (ref03_node_r13_p n_) := (bif_k K rfl rfl)
theorem ref03_node_r13 {α : Type} (n_ : Node) (many : Int) (k : St → Option α) : P39 1 C39.r.r.r.r.r.r.r.r.r.l ⟨[(1, ri many), (2, .one (.cell (tsNode.leaves n_))), (5, ri (ref03_node_j2_p n_)), (6, rb (ref03_node_j5_p n_)), (7, rb (ref03_node_j10_p n_)), (8, rb (n_.2.2.2.2.2.1 == (0 : Int)))], [], [], 119⟩ k = k ⟨[(1, ri many), (2, .one (.cell (tsNode.leaves n_))), (5, ri (ref03_node_j2_p n_)), (6, rb (ref03_node_j5_p n_)), (7, rb (ref03_node_j10_p n_)), (8, rb (n_.2.2.2.2.2.1 == (0 : Int))), (70, rb (ref03_node_r13_p n_))], [], [], 119⟩ := Eq.trans (by kernel_rfl) (ref03_node_r13_n n_ (fun y273 : Bool => k ⟨[(1, ri many), (2, .one (.cell (tsNode.leaves n_))), (5, ri (ref03_node_j2_p n_)), (6, rb (ref03_node_j5_p n_)), (7, rb (ref03_node_j10_p n_)), (8, rb (n_.2.2.2.2.2.1 == (0 : Int))), (70, rb y273)], [], [], 119⟩))
theorem ref03_node_r14 {α : Type} (n_ : Node) (many : Int) (k : Kont α) : R39 C39.r.r.r.r.r.r.r.r.r.l.r.t ⟨[(1, ri many), (2, .one (.cell (tsNode.leaves n_))), (5, ri (ref03_node_j2_p n_)), (6, rb (ref03_node_j5_p n_)), (7, rb (ref03_node_j10_p n_)), (8, rb (n_.2.2.2.2.2.1 == (0 : Int)))], [], [], 119⟩ k = k .normal ⟨[(1, ri many), (2, .one (.cell (tsNode.leaves n_))), (5, ri (ref03_node_j2_p n_)), (6, rb (ref03_node_j5_p n_)), (7, rb (ref03_node_j10_p n_)), (8, rb (ref03_in n_.2.2.2.2.2.1 (1 : Int) (8 : Int)))], [], [], 119⟩ := by kernel_rfl
def ref03_node_j13_q {β : Type} (n_ : Node) (K : Bool → β) : β := (bif (ref03_node_r13_p n_) then (K (ref03_in n_.2.2.2.2.2.1 (1 : Int) (8 : Int))) else (K (n_.2.2.2.2.2.1 == (0 : Int))))
def ref03_node_j13_p (n_ : Node) : Bool := ref03_node_j13_q n_ (fun y => y)
theorem ref03_node_j13_n {β : Type} (n_ : Node) (K : Bool → β) : ref03_node_j13_q n_ K = K (ref03_node_j13_p n_) := (bif_k K rfl rfl)
theorem ref03_node_j13 {α : Type} (n_ : Node) (many : Int) (k : Kont α) : R39 C39.r.r.r.r.r.r.r.r.r.l ⟨[(1, ri many), (2, .one (.cell (tsNode.leaves n_))), (5, ri (ref03_node_j2_p n_)), (6, rb (ref03_node_j5_p n_)), (7, rb (ref03_node_j10_p n_)), (8, rb (n_.2.2.2.2.2.1 == (0 : Int)))], [], [], 119⟩ (Q39 C39.r.r.r.r.r.r.r.r.r.r k) = R39 C39.r.r.r.r.r.r.r.r.r.r ⟨[(1, ri many), (2, .one (.cell (tsNode.leaves n_))), (5, ri (ref03_node_j2_p n_)), (6, rb (ref03_node_j5_p n_)), (7, rb (ref03_node_j10_p n_)), (8, rb (ref03_node_j13_p n_))], [], [], 119⟩ k := by
  refine Eq.trans ?_ (ref03_node_j13_n n_ (fun y274 : Bool => R39 C39.r.r.r.r.r.r.r.r.r.r ⟨[(1, ri many), (2, .one (.cell (tsNode.leaves n_))), (5, ri (ref03_node_j2_p n_)), (6, rb (ref03_node_j5_p n_)), (7, rb (ref03_node_j10_p n_)), (8, rb y274)], [], [], 119⟩ k))
  unfold ref03_node_j13_q
  refine (pre (n := 1) (c' := C39.r.r.r.r.r.r.r.r.r.l.r) (by kernel_rfl) (by kernel_rfl) (ref03_node_r13 n_ many _)).trans ?_
  refine (cond_eq (b := (ref03_node_r13_p n_)) (st' := ⟨[(1, ri many), (2, .one (.cell (tsNode.leaves n_))), (5, ri (ref03_node_j2_p n_)), (6, rb (ref03_node_j5_p n_)), (7, rb (ref03_node_j10_p n_)), (8, rb (n_.2.2.2.2.2.1 == (0 : Int)))], [], [], 119⟩) (by kernel_rfl) (by kernel_rfl) (by kernel_rfl)).trans (bif_g ?_ ?_)
  · refine (ref03_node_r14 n_ many _).trans ?_
    refine (seqC_normal (st' := ⟨[(1, ri many), (2, .one (.cell (tsNode.leaves n_))), (5, ri (ref03_node_j2_p n_)), (6, rb (ref03_node_j5_p n_)), (7, rb (ref03_node_j10_p n_)), (8, rb (ref03_in n_.2.2.2.2.2.1 (1 : Int) (8 : Int)))], [], [], 119⟩) (by kernel_rfl)).trans ?_
    kernel_rfl
  · refine (skip_eq (by kernel_rfl)).trans ?_
    refine (seqC_normal (st' := ⟨[(1, ri many), (2, .one (.cell (tsNode.leaves n_))), (5, ri (ref03_node_j2_p n_)), (6, rb (ref03_node_j5_p n_)), (7, rb (ref03_node_j10_p n_)), (8, rb (n_.2.2.2.2.2.1 == (0 : Int)))], [], [], 119⟩) (by kernel_rfl)).trans ?_
    kernel_rfl
def ref03_node_r15_q {β : Type} (n_ : Node) (K : Bool → β) : β := (bif ((n_.2.2.2.2.2.2.2.2.2.1 == (0 : Int)) && ((n_.2.2.2.2.2.2.2.2.2.2.1 == (0 : Int)) && ((n_.2.2.2.2.2.2.2.2.2.2.2.1 == (0 : Int)) && true))) then (K true) else (K (n_.1 == (11 : Int))))
def ref03_node_r15_p (n_ : Node) : Bool := ref03_node_r15_q n_ (fun y => y)
theorem ref03_node_r15_n {β : Type} (n_ : Node) (K : Bool → β) : ref03_node_r15_q n_ K = K (ref03_node_r15_p n_) := (bif_k K rfl rfl)
theorem ref03_node_r15 {α : Type} (n_ : Node) (many : Int) (k : St → Option α) : P39 1 C39.r.r.r.r.r.r.r.r.r.r ⟨[(1, ri many), (2, .one (.cell (tsNode.leaves n_))), (5, ri (ref03_node_j2_p n_)), (6, rb (ref03_node_j5_p n_)), (7, rb (ref03_node_j10_p n_)), (8, rb (ref03_node_j13_p n_))], [], [], 119⟩ k = k ⟨[(1, ri many), (2, .one (.cell (tsNode.leaves n_))), (5, ri (ref03_node_j2_p n_)), (6, rb (ref03_node_j5_p n_)), (7, rb (ref03_node_j10_p n_)), (8, rb (ref03_node_j13_p n_)), (9, rb (ref03_node_r15_p n_))], [], [], 119⟩ := Eq.trans (by kernel_rfl) (ref03_node_r15_n n_ (fun y275 : Bool => k ⟨[(1, ri many), (2, .one (.cell (tsNode.leaves n_))), (5, ri (ref03_node_j2_p n_)), (6, rb (ref03_node_j5_p n_)), (7, rb (ref03_node_j10_p n_)), (8, rb (ref03_node_j13_p n_)), (9, rb y275)], [], [], 119⟩))
def ref03_node_r16_q {β : Type} (n_ : Node) (K : Bool → β) : β := (bif (ref03_in n_.2.2.2.2.2.2.1 (1 : Int) (32767 : Int)) then (bif (ref03_in n_.2.2.2.2.2.2.2.1 (0 : Int) (31 : Int)) then (K (ref03_in n_.2.2.2.2.2.2.2.2.1 (-128 : Int) (127 : Int))) else (K false)) else (K false))
def ref03_node_r16_p (n_ : Node) : Bool := ref03_node_r16_q n_ (fun y => y)
theorem ref03_node_r16_n {β : Type} (n_ : Node) (K : Bool → β) : ref03_node_r16_q n_ K = K (ref03_node_r16_p n_) := (bif_k K (bif_k K rfl rfl) rfl)
theorem ref03_node_r16 {α : Type} (n_ : Node) (many : Int) (k : St → Option α) : P39 1 C39.r.r.r.r.r.r.r.r.r.r.r ⟨[(1, ri many), (2, .one (.cell (tsNode.leaves n_))), (5, ri (ref03_node_j2_p n_)), (6, rb (ref03_node_j5_p n_)), (7, rb (ref03_node_j10_p n_)), (8, rb (ref03_node_j13_p n_)), (9, rb (ref03_node_r15_p n_))], [], [], 119⟩ k = k ⟨[(1, ri many), (2, .one (.cell (tsNode.leaves n_))), (5, ri (ref03_node_j2_p n_)), (6, rb (ref03_node_j5_p n_)), (7, rb (ref03_node_j10_p n_)), (8, rb (ref03_node_j13_p n_)), (9, rb (ref03_node_r15_p n_)), (10, rb (ref03_node_r16_p n_))], [], [], 119⟩ := Eq.trans (by kernel_rfl) (ref03_node_r16_n n_ (fun y276 : Bool => k ⟨[(1, ri many), (2, .one (.cell (tsNode.leaves n_))), (5, ri (ref03_node_j2_p n_)), (6, rb (ref03_node_j5_p n_)), (7, rb (ref03_node_j10_p n_)), (8, rb (ref03_node_j13_p n_)), (9, rb (ref03_node_r15_p n_)), (10, rb y276)], [], [], 119⟩))
def ref03_node_r17_q {β : Type} (n_ : Node) (many : Int) (K : Bool → β) : β := (bif (ref03_in n_.1 (1 : Int) (12 : Int)) then (bif (many == (ref03_node_j2_p n_)) then (bif (ref03_node_j5_p n_) then (bif (ref03_node_j10_p n_) then (bif (ref03_node_j13_p n_) then (bif (ref03_node_r15_p n_) then (K (ref03_node_r16_p n_)) else (K false)) else (K false)) else (K false)) else (K false)) else (K false)) else (K false))
def ref03_node_r17_p (n_ : Node) (many : Int) : Bool := ref03_node_r17_q n_ many (fun y => y)
theorem ref03_node_r17_n {β : Type} (n_ : Node) (many : Int) (K : Bool → β) : ref03_node_r17_q n_ many K = K (ref03_node_r17_p n_ many) := (bif_k K (bif_k K (bif_k K (bif_k K (bif_k K (bif_k K rfl rfl) rfl) rfl) rfl) rfl) rfl)
theorem ref03_node_r17 {α : Type} (n_ : Node) (many : Int) (k : St → Option α) : P39 1 C39.r.r.r.r.r.r.r.r.r.r.r.r ⟨[(1, ri many), (2, .one (.cell (tsNode.leaves n_))), (5, ri (ref03_node_j2_p n_)), (6, rb (ref03_node_j5_p n_)), (7, rb (ref03_node_j10_p n_)), (8, rb (ref03_node_j13_p n_)), (9, rb (ref03_node_r15_p n_)), (10, rb (ref03_node_r16_p n_))], [], [], 119⟩ k = k ⟨[(4, rb (ref03_node_r17_p n_ many))], [], [], 119⟩ := Eq.trans (by kernel_rfl) (ref03_node_r17_n n_ many (fun y277 : Bool => k ⟨[(4, rb y277)], [], [], 119⟩))
/-- quilt/quiltref03.node -/
def ref03_node_q {β : Type} (n_ : Node) (many : Int) (K : Bool → β) : β := (K (ref03_node_r17_p n_ many))
def ref03_node (n_ : Node) (many : Int) : Bool := ref03_node_q n_ many (fun y => y)
theorem ref03_node_n {β : Type} (n_ : Node) (many : Int) (K : Bool → β) : ref03_node_q n_ many K = K (ref03_node n_ many) := rfl
theorem ref03_node_is (n_ : Node) (many : Int) : stepS E cp39 noE 31 [.agg (tsNode.leaves n_), ri many] = (fun y : Bool => some (rb y : R)) (ref03_node n_ many) := by
  refine Eq.trans ?_ (ref03_node_n n_ many (fun y : Bool => some (rb y : R)))
  refine (stepG_is (nt := 119) (regs := [(0, .agg (tsNode.leaves n_)), (1, ri many)]) (by kernel_rfl) (by kernel_rfl)).trans ?_
  unfold ref03_node_q
  refine (pre (n := 2) (c' := C39.r.r) (by kernel_rfl) (by kernel_rfl) (ref03_node_f2 n_ many _)).trans ?_
  refine (seq_push (by kernel_rfl)).trans ?_
  refine (ref03_node_j2 n_ many _).trans ?_
  refine (pre (n := 1) (c' := C39.r.r.r.r) (by kernel_rfl) (by kernel_rfl) (ref03_node_r4 n_ many _)).trans ?_
  refine (seq_push (by kernel_rfl)).trans ?_
  refine (ref03_node_j5 n_ many _).trans ?_
  refine (pre (n := 1) (c' := C39.r.r.r.r.r.r) (by kernel_rfl) (by kernel_rfl) (ref03_node_f8 n_ many _)).trans ?_
  refine (seq_push (by kernel_rfl)).trans ?_
  refine (ref03_node_j8 n_ many _).trans ?_
  refine (seq_push (by kernel_rfl)).trans ?_
  refine (ref03_node_j10 n_ many _).trans ?_
  refine (pre (n := 1) (c' := C39.r.r.r.r.r.r.r.r.r) (by kernel_rfl) (by kernel_rfl) (ref03_node_f13 n_ many _)).trans ?_
  refine (seq_push (by kernel_rfl)).trans ?_
  refine (ref03_node_j13 n_ many _).trans ?_
  refine (pre (n := 1) (c' := C39.r.r.r.r.r.r.r.r.r.r.r) (by kernel_rfl) (by kernel_rfl) (ref03_node_r15 n_ many _)).trans ?_
  refine (pre (n := 1) (c' := C39.r.r.r.r.r.r.r.r.r.r.r.r) (by kernel_rfl) (by kernel_rfl) (ref03_node_r16 n_ many _)).trans ?_
  refine (pre (n := 1) (c' := C39.r.r.r.r.r.r.r.r.r.r.r.r.r) (by kernel_rfl) (by kernel_rfl) (ref03_node_r17 n_ many _)).trans ?_
  refine (ret_eq (by kernel_rfl)).trans ?_
  kernel_rfl
theorem ref03_node_c (x : denL [(.agg tsNode), (.one (.g (.int .i64)))]) : stepS E cp39 noE 31 (encL [(.agg tsNode), (.one (.g (.int .i64)))] x) = ((fun x => some (ref03_node x.1 x.2.1)) x).bind fun y => some (Po.enc (.one (.one (.g .bool))) ((fun y : Bool => y) y)) := Eq.mp (by kernel_rfl) (ref03_node_is x.1 x.2.1)
noncomputable def cp40 : CallP := withC cp39 31 [(.agg tsNode), (.one (.g (.int .i64)))] (.one (.one (.g .bool))) (fun y : Bool => y) (fun x => some (ref03_node x.1 x.2.1))
theorem cp40_ok : PureOK E cp40 := withC_ok cp39_ok (stepS_ok eok cp39_ok noE_ok) fun x => con_of (enc := fun y => Po.enc (.one (.one (.g .bool))) ((fun y : Bool => y) y)) (ref03_node_c x)
noncomputable abbrev C40 : Code := codeOf E.P 32
noncomputable abbrev P40 {α : Type} (n : Nat) (c : Code) (st : St) (k : St → Option α) : Option α := preK E 32 cp40 noE n c st k
noncomputable abbrev R40 {α : Type} (c : Code) (st : St) (k : Kont α) : Option α := runCode E 32 cp40 noE c st k
noncomputable abbrev Q40 {α : Type} (c : Code) (k : Kont α) : Kont α := seqC E 32 cp40 noE c k
def ref03_keeps_r1_q {β : Type} (op : Int) (K : Bool → β) : β := (bif (op == (4 : Int)) then (K true) else (bif (op == (5 : Int)) then (K true) else (bif (op == (8 : Int)) then (K true) else (bif (op == (9 : Int)) then (K true) else (bif (op == (10 : Int)) then (K true) else (K (op == (11 : Int))))))))
def ref03_keeps_r1_p (op : Int) : Bool := ref03_keeps_r1_q op (fun y => y)
theorem ref03_keeps_r1_n {β : Type} (op : Int) (K : Bool → β) : ref03_keeps_r1_q op K = K (ref03_keeps_r1_p op) := (bif_k K rfl (bif_k K rfl (bif_k K rfl (bif_k K rfl (bif_k K rfl rfl)))))
theorem ref03_keeps_r1 {α : Type} (op : Int) (k : St → Option α) : P40 2 C40 ⟨[(0, ri op)], [], [], 25⟩ k = k ⟨[(2, rb (ref03_keeps_r1_p op))], [], [], 25⟩ := Eq.trans (by kernel_rfl) (ref03_keeps_r1_n op (fun y279 : Bool => k ⟨[(2, rb y279)], [], [], 25⟩))
/-- quilt/quiltref03.keeps -/
def ref03_keeps_q {β : Type} (op : Int) (K : Bool → β) : β := (K (ref03_keeps_r1_p op))
def ref03_keeps (op : Int) : Bool := ref03_keeps_q op (fun y => y)
theorem ref03_keeps_n {β : Type} (op : Int) (K : Bool → β) : ref03_keeps_q op K = K (ref03_keeps op) := rfl
theorem ref03_keeps_is (op : Int) : stepS E cp40 noE 32 [ri op] = (fun y : Bool => some (rb y : R)) (ref03_keeps op) := by
  refine Eq.trans ?_ (ref03_keeps_n op (fun y : Bool => some (rb y : R)))
  refine (stepG_is (nt := 25) (regs := [(0, ri op)]) (by kernel_rfl) (by kernel_rfl)).trans ?_
  unfold ref03_keeps_q
  refine (pre (n := 2) (c' := C40.r.r) (by kernel_rfl) (by kernel_rfl) (ref03_keeps_r1 op _)).trans ?_
  refine (ret_eq (by kernel_rfl)).trans ?_
  kernel_rfl
theorem ref03_keeps_c (x : denL [(.one (.g (.int .i64)))]) : stepS E cp40 noE 32 (encL [(.one (.g (.int .i64)))] x) = ((fun x => some (ref03_keeps x.1)) x).bind fun y => some (Po.enc (.one (.one (.g .bool))) ((fun y : Bool => y) y)) := Eq.mp (by kernel_rfl) (ref03_keeps_is x.1)
noncomputable def cp41 : CallP := withC cp40 32 [(.one (.g (.int .i64)))] (.one (.one (.g .bool))) (fun y : Bool => y) (fun x => some (ref03_keeps x.1))
theorem cp41_ok : PureOK E cp41 := withC_ok cp40_ok (stepS_ok eok cp40_ok noE_ok) fun x => con_of (enc := fun y => Po.enc (.one (.one (.g .bool))) ((fun y : Bool => y) y)) (ref03_keeps_c x)
noncomputable abbrev C41 : Code := codeOf E.P 14
noncomputable abbrev P41 {α : Type} (n : Nat) (c : Code) (st : St) (k : St → Option α) : Option α := preK E 14 cp41 noE n c st k
noncomputable abbrev R41 {α : Type} (c : Code) (st : St) (k : Kont α) : Option α := runCode E 14 cp41 noE c st k
noncomputable abbrev Q41 {α : Type} (c : Code) (k : Kont α) : Kont α := seqC E 14 cp41 noE c k
theorem ref02_May_f1 {α : Type} (s_ : I3) (k : St → Option α) : P41 1 C41 ⟨[(0, .agg (tsI3.leaves s_))], [], [], 31⟩ k = k ⟨[(1, .one (.cell (tsI3.leaves s_)))], [], [], 31⟩ := by kernel_rfl
def ref02_May_r1_q {β : Type} (s_ : I3) (K : Bool → β) : β := (bif (decide (s_.1 < (1 : Int))) then (K true) else (bif (decide (s_.1 > (16 : Int))) then (K true) else (bif (decide (s_.2.1 < (1 : Int))) then (K true) else (bif (decide (s_.2.1 > (16 : Int))) then (K true) else (bif (decide (s_.2.2 < (1 : Int))) then (K true) else (K (decide (s_.2.2 > (8 : Int)))))))))
def ref02_May_r1_p (s_ : I3) : Bool := ref02_May_r1_q s_ (fun y => y)
theorem ref02_May_r1_n {β : Type} (s_ : I3) (K : Bool → β) : ref02_May_r1_q s_ K = K (ref02_May_r1_p s_) := (bif_k K rfl (bif_k K rfl (bif_k K rfl (bif_k K rfl (bif_k K rfl rfl)))))
theorem ref02_May_r1 {α : Type} (s_ : I3) (k : St → Option α) : P41 1 C41.r.l ⟨[(1, .one (.cell (tsI3.leaves s_)))], [], [], 31⟩ k = k ⟨[(30, rb (ref02_May_r1_p s_))], [], [], 31⟩ := Eq.trans (by kernel_rfl) (ref02_May_r1_n s_ (fun y297 : Bool => k ⟨[(30, rb y297)], [], [], 31⟩))
theorem ref02_May_fz {α : Type} (k : St → Option α) : P41 1 C41.r.l.r.t ⟨[], [], [], 31⟩ k = k ⟨[(2, ri (10 : Int))], [], [], 31⟩ := by kernel_rfl
theorem ref02_May_fzx1 {α : Type} (k : St → Option α) : P41 1 C41.r.r ⟨[], [], [], 31⟩ k = k ⟨[(2, ri (0 : Int))], [], [], 31⟩ := by kernel_rfl
/-- quilt/quiltref02.May -/
def ref02_May_q {β : Type} (s_ : I3) (K : Int → β) : β := (bif (ref02_May_r1_p s_) then (K (10 : Int)) else (K (0 : Int)))
def ref02_May (s_ : I3) : Int := ref02_May_q s_ (fun y => y)
theorem ref02_May_n {β : Type} (s_ : I3) (K : Int → β) : ref02_May_q s_ K = K (ref02_May s_) := (bif_k K rfl rfl)
theorem ref02_May_is (s_ : I3) : stepS E cp41 noE 14 [.agg (tsI3.leaves s_)] = (fun y : Int => some (ri y : R)) (ref02_May s_) := by
  refine Eq.trans ?_ (ref02_May_n s_ (fun y : Int => some (ri y : R)))
  refine (stepG_is (nt := 31) (regs := [(0, .agg (tsI3.leaves s_))]) (by kernel_rfl) (by kernel_rfl)).trans ?_
  unfold ref02_May_q
  refine (pre (n := 1) (c' := C41.r) (by kernel_rfl) (by kernel_rfl) (ref02_May_f1 s_ _)).trans ?_
  refine (seq_push (by kernel_rfl)).trans ?_
  refine (pre (n := 1) (c' := C41.r.l.r) (by kernel_rfl) (by kernel_rfl) (ref02_May_r1 s_ _)).trans ?_
  refine (cond_eq (b := (ref02_May_r1_p s_)) (st' := ⟨[], [], [], 31⟩) (by kernel_rfl) (by kernel_rfl) (by kernel_rfl)).trans (bif_g ?_ ?_)
  · refine (pre (n := 1) (c' := C41.r.l.r.t.r) (by kernel_rfl) (by kernel_rfl) (ref02_May_fz _)).trans ?_
    refine (ret_eq (by kernel_rfl)).trans ?_
    refine seqC_ret.trans ?_
    kernel_rfl
  · refine (skip_eq (by kernel_rfl)).trans ?_
    refine (seqC_normal (st' := ⟨[], [], [], 31⟩) (by kernel_rfl)).trans ?_
    refine (pre (n := 1) (c' := C41.r.r.r) (by kernel_rfl) (by kernel_rfl) (ref02_May_fzx1 _)).trans ?_
    refine (ret_eq (by kernel_rfl)).trans ?_
    kernel_rfl
theorem ref02_May_c (x : denL [(.agg tsI3)]) : stepS E cp41 noE 14 (encL [(.agg tsI3)] x) = ((fun x => some (ref02_May x.1)) x).bind fun y => some (Po.enc (.one (.one (.g (.int .i64)))) ((fun y : Int => y) y)) := Eq.mp (by kernel_rfl) (ref02_May_is x.1)
noncomputable def cp42 : CallP := withC cp41 14 [(.agg tsI3)] (.one (.one (.g (.int .i64)))) (fun y : Int => y) (fun x => some (ref02_May x.1))
theorem cp42_ok : PureOK E cp42 := withC_ok cp41_ok (stepS_ok eok cp41_ok noE_ok) fun x => con_of (enc := fun y => Po.enc (.one (.one (.g (.int .i64)))) ((fun y : Int => y) y)) (ref02_May_c x)
noncomputable abbrev C42 : Code := codeOf E.P 15
noncomputable abbrev P42 {α : Type} (n : Nat) (c : Code) (st : St) (k : St → Option α) : Option α := preK E 15 cp42 noE n c st k
noncomputable abbrev R42 {α : Type} (c : Code) (st : St) (k : Kont α) : Option α := runCode E 15 cp42 noE c st k
noncomputable abbrev Q42 {α : Type} (c : Code) (k : Kont α) : Kont α := seqC E 15 cp42 noE c k
theorem ref02_Out_f1 {α : Type} (size : Int) (k_ : Int) (stride : Int) (pad : Int) (k : St → Option α) : P42 1 C42 ⟨[(0, ri size), (1, ri k_), (2, ri stride), (3, ri pad)], [], [], 56⟩ k = k ⟨[(0, ri size), (1, ri k_), (2, ri stride), (3, ri pad)], [], [], 56⟩ := by kernel_rfl
def ref02_Out_r1_q {β : Type} (size : Int) (k_ : Int) (stride : Int) (pad : Int) (K : Bool → β) : β := (bif (decide (size < (1 : Int))) then (K true) else (bif (decide (size > (64 : Int))) then (K true) else (bif (decide (k_ < (1 : Int))) then (K true) else (bif (decide (k_ > (16 : Int))) then (K true) else (bif (decide (stride < (1 : Int))) then (K true) else (bif (decide (stride > (16 : Int))) then (K true) else (bif (decide (pad < (0 : Int))) then (K true) else (K (decide (pad > (16 : Int)))))))))))
def ref02_Out_r1_p (size : Int) (k_ : Int) (stride : Int) (pad : Int) : Bool := ref02_Out_r1_q size k_ stride pad (fun y => y)
theorem ref02_Out_r1_n {β : Type} (size : Int) (k_ : Int) (stride : Int) (pad : Int) (K : Bool → β) : ref02_Out_r1_q size k_ stride pad K = K (ref02_Out_r1_p size k_ stride pad) := (bif_k K rfl (bif_k K rfl (bif_k K rfl (bif_k K rfl (bif_k K rfl (bif_k K rfl (bif_k K rfl rfl)))))))
theorem ref02_Out_r1 {α : Type} (size : Int) (k_ : Int) (stride : Int) (pad : Int) (k : St → Option α) : P42 1 C42.r.l ⟨[(0, ri size), (1, ri k_), (2, ri stride), (3, ri pad)], [], [], 56⟩ k = k ⟨[(0, ri size), (1, ri k_), (2, ri stride), (3, ri pad), (40, rb (ref02_Out_r1_p size k_ stride pad))], [], [], 56⟩ := Eq.trans (by kernel_rfl) (ref02_Out_r1_n size k_ stride pad (fun y317 : Bool => k ⟨[(0, ri size), (1, ri k_), (2, ri stride), (3, ri pad), (40, rb y317)], [], [], 56⟩))
theorem ref02_Out_fz {α : Type} (size : Int) (k_ : Int) (stride : Int) (pad : Int) (k : St → Option α) : P42 1 C42.r.l.r.t ⟨[(0, ri size), (1, ri k_), (2, ri stride), (3, ri pad)], [], [], 56⟩ k = k ⟨[(8, ri (0 : Int))], [], [], 56⟩ := by kernel_rfl
theorem ref02_Out_f4 {α : Type} (size : Int) (k_ : Int) (stride : Int) (pad : Int) (k : St → Option α) : P42 1 C42.r.r ⟨[(0, ri size), (1, ri k_), (2, ri stride), (3, ri pad)], [], [], 56⟩ k = k ⟨[(0, ri size), (1, ri k_), (2, ri stride), (3, ri pad), (9, ri (0 : Int))], [], [], 56⟩ := by kernel_rfl
theorem ref02_Out_f5 {α : Type} (size : Int) (k_ : Int) (stride : Int) (pad : Int) (k : St → Option α) : P42 1 C42.r.r.r.l ⟨[(0, ri size), (1, ri k_), (2, ri stride), (3, ri pad), (9, ri (0 : Int))], [], [], 56⟩ k = k ⟨[(0, ri size), (1, ri k_), (2, ri stride), (3, ri pad), (9, ri (0 : Int)), (10, ri (IntKind.wrap .i64 (0 - pad)))], [], [], 56⟩ := by kernel_rfl
theorem ref02_Out_fzx1 {α : Type} (size : Int) (k_ : Int) (stride : Int) (pad : Int) (s326 : (Int × Int)) (k : St → Option α) : P42 1 (bodyOf (bodyOf C42.r.r.r.l.r)).l ⟨[(0, ri size), (1, ri k_), (2, ri stride), (3, ri pad), (9, ri s326.1), (10, ri s326.2)], [], [], 56⟩ k = k ⟨[(0, ri size), (1, ri k_), (2, ri stride), (3, ri pad), (9, ri s326.1), (10, ri s326.2), (49, rb (decide ((IntKind.wrap .i64 (s326.2 + k_)) ≤ (IntKind.wrap .i64 (size + pad)))))], [], [], 56⟩ := by kernel_rfl
theorem ref02_Out_r7 {α : Type} (size : Int) (k_ : Int) (stride : Int) (pad : Int) (s326 : (Int × Int)) (k : Kont α) : R42 (bodyOf (bodyOf (bodyOf C42.r.r.r.l.r)).r.l) ⟨[(0, ri size), (1, ri k_), (2, ri stride), (3, ri pad), (9, ri s326.1), (10, ri s326.2)], [], [], 56⟩ k = k .normal ⟨[(0, ri size), (1, ri k_), (2, ri stride), (3, ri pad), (9, ri (IntKind.wrap .i64 (s326.1 + (1 : Int)))), (10, ri s326.2)], [], [], 56⟩ := by kernel_rfl
theorem ref02_Out_r6 {α : Type} (size : Int) (k_ : Int) (stride : Int) (pad : Int) (s326 : (Int × Int)) (k : Kont α) : R42 (bodyOf (bodyOf C42.r.r.r.l.r)).r.r ⟨[(0, ri size), (1, ri k_), (2, ri stride), (3, ri pad), (9, ri (IntKind.wrap .i64 (s326.1 + (1 : Int)))), (10, ri s326.2)], [], [], 56⟩ k = k .normal ⟨[(0, ri size), (1, ri k_), (2, ri stride), (3, ri pad), (9, ri (IntKind.wrap .i64 (s326.1 + (1 : Int)))), (10, ri (IntKind.wrap .i64 (s326.2 + stride)))], [], [], 56⟩ := by kernel_rfl
def ref02_Out_l5_q {β : Type} (size : Int) (k_ : Int) (stride : Int) (pad : Int) (s326 : (Int × Int)) (K0 : (Int × Int) → Option β) (K1 : (Int × Int) → Option β) : Option β := (bif (decide ((IntKind.wrap .i64 (s326.2 + k_)) ≤ (IntKind.wrap .i64 (size + pad)))) then (K0 ((IntKind.wrap .i64 (s326.1 + (1 : Int))), (IntKind.wrap .i64 (s326.2 + stride)))) else (K1 s326))
def ref02_Out_l5_p (size : Int) (k_ : Int) (stride : Int) (pad : Int) (s326 : (Int × Int)) : Option ((Int × Int) ⊕ ((Int × Int))) := ref02_Out_l5_q size k_ stride pad s326 (fun y => some (Sum.inl y)) (fun y => some (Sum.inr y))
theorem ref02_Out_l5_n {β : Type} (size : Int) (k_ : Int) (stride : Int) (pad : Int) (s326 : (Int × Int)) (K0 : (Int × Int) → Option β) (K1 : (Int × Int) → Option β) : ref02_Out_l5_q size k_ stride pad s326 K0 K1 = (ref02_Out_l5_p size k_ stride pad s326).bind (either K0 K1) := (bif_b e2_0 e2_1)
theorem ref02_Out_l5_b {α : Type} (size : Int) (k_ : Int) (stride : Int) (pad : Int) (s326 : (Int × Int)) (k : Kont α) : R42 (bodyOf (bodyOf C42.r.r.r.l.r)) ⟨[(0, ri size), (1, ri k_), (2, ri stride), (3, ri pad), (9, ri s326.1), (10, ri s326.2)], [], [], 56⟩ (loopKont 0 k) = Option.bind (ref02_Out_l5_p size k_ stride pad s326) (either (fun y : (Int × Int) => k .normal ⟨[(0, ri size), (1, ri k_), (2, ri stride), (3, ri pad), (9, ri y.1), (10, ri y.2)], [], [], 56⟩) (fun y327 : (Int × Int) => k (.exit 0) ⟨[(0, ri size), (1, ri k_), (2, ri stride), (3, ri pad), (9, ri y327.1), (10, ri y327.2)], [], [], 56⟩)) := by
  refine Eq.trans ?_ (ref02_Out_l5_n size k_ stride pad s326 _ _)
  unfold ref02_Out_l5_q
  refine (seq_push (by kernel_rfl)).trans ?_
  refine (pre (n := 1) (c' := (bodyOf (bodyOf C42.r.r.r.l.r)).l.r) (by kernel_rfl) (by kernel_rfl) (ref02_Out_fzx1 size k_ stride pad s326 _)).trans ?_
  refine (cond_eq (b := (decide ((IntKind.wrap .i64 (s326.2 + k_)) ≤ (IntKind.wrap .i64 (size + pad))))) (st' := ⟨[(0, ri size), (1, ri k_), (2, ri stride), (3, ri pad), (9, ri s326.1), (10, ri s326.2)], [], [], 56⟩) (by kernel_rfl) (by kernel_rfl) (by kernel_rfl)).trans (bif_g ?_ ?_)
  · refine (skip_eq (by kernel_rfl)).trans ?_
    refine (seqC_normal (st' := ⟨[(0, ri size), (1, ri k_), (2, ri stride), (3, ri pad), (9, ri s326.1), (10, ri s326.2)], [], [], 56⟩) (by kernel_rfl)).trans ?_
    refine (seq_push (by kernel_rfl)).trans ?_
    refine (block_push (id := 1) (by kernel_rfl)).trans ?_
    refine (ref02_Out_r7 size k_ stride pad s326 _).trans ?_
    refine block_normal.trans ?_
    refine (seqC_normal (st' := ⟨[(0, ri size), (1, ri k_), (2, ri stride), (3, ri pad), (9, ri (IntKind.wrap .i64 (s326.1 + (1 : Int)))), (10, ri s326.2)], [], [], 56⟩) (by kernel_rfl)).trans ?_
    refine (ref02_Out_r6 size k_ stride pad s326 _).trans ?_
    kernel_rfl
  · refine (exit_eq (j := 0) (by kernel_rfl)).trans ?_
    refine seqC_exit.trans ?_
    kernel_rfl
theorem ref02_Out_l5 {α : Type} (size : Int) (k_ : Int) (stride : Int) (pad : Int) (k : Kont α) : R42 (bodyOf C42.r.r.r.l.r) ⟨[(0, ri size), (1, ri k_), (2, ri stride), (3, ri pad), (9, ri (0 : Int)), (10, ri (IntKind.wrap .i64 (0 - pad)))], [], [], 56⟩ k = Option.bind (iterN (ref02_Out_l5_p size k_ stride pad) LL ((0 : Int), (IntKind.wrap .i64 (0 - pad)))) (fun y327 : (Int × Int) => k (.exit 0) ⟨[(0, ri size), (1, ri k_), (2, ri stride), (3, ri pad), (9, ri y327.1), (10, ri y327.2)], [], [], 56⟩) :=
  Eq.trans (by kernel_rfl) (loop_iter1 (S := fun s326 : (Int × Int) => ⟨[(0, ri size), (1, ri k_), (2, ri stride), (3, ri pad), (9, ri s326.1), (10, ri s326.2)], [], [], 56⟩) (Y1 := fun y327 : (Int × Int) => ((.exit 0), ⟨[(0, ri size), (1, ri k_), (2, ri stride), (3, ri pad), (9, ri y327.1), (10, ri y327.2)], [], [], 56⟩)) (fun s k => ref02_Out_l5_b size k_ stride pad s k) (fun z => rfl) LL ((0 : Int), (IntKind.wrap .i64 (0 - pad))))
theorem ref02_Out_fzx2 {α : Type} (y327 : (Int × Int)) (k : St → Option α) : P42 1 C42.r.r.r.r ⟨[(9, ri y327.1)], [], [], 56⟩ k = k ⟨[(8, ri y327.1)], [], [], 56⟩ := by kernel_rfl
/-- quilt/quiltref02.Out -/
def ref02_Out_q {β : Type} (size : Int) (k_ : Int) (stride : Int) (pad : Int) (K : Int → Option β) : Option β := (bif (ref02_Out_r1_p size k_ stride pad) then (K (0 : Int)) else (Option.bind (iterN (ref02_Out_l5_p size k_ stride pad) LL ((0 : Int), (IntKind.wrap .i64 (0 - pad)))) (fun y327 : (Int × Int) => (K y327.1))))
def ref02_Out (size : Int) (k_ : Int) (stride : Int) (pad : Int) : Option Int := ref02_Out_q size k_ stride pad some
theorem ref02_Out_n {β : Type} (size : Int) (k_ : Int) (stride : Int) (pad : Int) (K : Int → Option β) : ref02_Out_q size k_ stride pad K = (ref02_Out size k_ stride pad).bind K := (bif_b some_b (bind_b fun y327 => some_b))
theorem ref02_Out_is (size : Int) (k_ : Int) (stride : Int) (pad : Int) : stepS E cp42 noE 15 [ri size, ri k_, ri stride, ri pad] = Option.bind (ref02_Out size k_ stride pad) (fun y : Int => some (ri y : R)) := by
  refine Eq.trans ?_ (ref02_Out_n size k_ stride pad (fun y : Int => some (ri y : R)))
  refine (stepG_is (nt := 56) (regs := [(0, ri size), (1, ri k_), (2, ri stride), (3, ri pad)]) (by kernel_rfl) (by kernel_rfl)).trans ?_
  unfold ref02_Out_q
  refine (pre (n := 1) (c' := C42.r) (by kernel_rfl) (by kernel_rfl) (ref02_Out_f1 size k_ stride pad _)).trans ?_
  refine (seq_push (by kernel_rfl)).trans ?_
  refine (pre (n := 1) (c' := C42.r.l.r) (by kernel_rfl) (by kernel_rfl) (ref02_Out_r1 size k_ stride pad _)).trans ?_
  refine (cond_eq (b := (ref02_Out_r1_p size k_ stride pad)) (st' := ⟨[(0, ri size), (1, ri k_), (2, ri stride), (3, ri pad)], [], [], 56⟩) (by kernel_rfl) (by kernel_rfl) (by kernel_rfl)).trans (bif_g ?_ ?_)
  · refine (pre (n := 1) (c' := C42.r.l.r.t.r) (by kernel_rfl) (by kernel_rfl) (ref02_Out_fz size k_ stride pad _)).trans ?_
    refine (ret_eq (by kernel_rfl)).trans ?_
    refine seqC_ret.trans ?_
    kernel_rfl
  · refine (skip_eq (by kernel_rfl)).trans ?_
    refine (seqC_normal (st' := ⟨[(0, ri size), (1, ri k_), (2, ri stride), (3, ri pad)], [], [], 56⟩) (by kernel_rfl)).trans ?_
    refine (pre (n := 1) (c' := C42.r.r.r) (by kernel_rfl) (by kernel_rfl) (ref02_Out_f4 size k_ stride pad _)).trans ?_
    refine (seq_push (by kernel_rfl)).trans ?_
    refine (pre (n := 1) (c' := C42.r.r.r.l.r) (by kernel_rfl) (by kernel_rfl) (ref02_Out_f5 size k_ stride pad _)).trans ?_
    refine (block_push (id := 0) (by kernel_rfl)).trans ?_
    refine (ref02_Out_l5 size k_ stride pad _).trans (bind_g fun y327 => ?_)
    refine block_same.trans ?_
    refine (seqC_normal (st' := ⟨[(9, ri y327.1)], [], [], 56⟩) (by kernel_rfl)).trans ?_
    refine (pre (n := 1) (c' := C42.r.r.r.r.r) (by kernel_rfl) (by kernel_rfl) (ref02_Out_fzx2 y327 _)).trans ?_
    refine (ret_eq (by kernel_rfl)).trans ?_
    kernel_rfl
theorem ref02_Out_c (x : denL [(.one (.g (.int .i64))), (.one (.g (.int .i64))), (.one (.g (.int .i64))), (.one (.g (.int .i64)))]) : stepS E cp42 noE 15 (encL [(.one (.g (.int .i64))), (.one (.g (.int .i64))), (.one (.g (.int .i64))), (.one (.g (.int .i64)))] x) = ((fun x => ref02_Out x.1 x.2.1 x.2.2.1 x.2.2.2.1) x).bind fun y => some (Po.enc (.one (.one (.g (.int .i64)))) ((fun y : Int => y) y)) := Eq.mp (by kernel_rfl) (ref02_Out_is x.1 x.2.1 x.2.2.1 x.2.2.2.1)
noncomputable def cp43 : CallP := withC cp42 15 [(.one (.g (.int .i64))), (.one (.g (.int .i64))), (.one (.g (.int .i64))), (.one (.g (.int .i64)))] (.one (.one (.g (.int .i64)))) (fun y : Int => y) (fun x => ref02_Out x.1 x.2.1 x.2.2.1 x.2.2.2.1)
theorem cp43_ok : PureOK E cp43 := withC_ok cp42_ok (stepS_ok eok cp42_ok noE_ok) fun x => con_of (enc := fun y => Po.enc (.one (.one (.g (.int .i64)))) ((fun y : Int => y) y)) (ref02_Out_c x)
noncomputable abbrev C43 : Code := codeOf E.P 68
noncomputable abbrev P43 {α : Type} (n : Nat) (c : Code) (st : St) (k : St → Option α) : Option α := preK E 68 cp43 noE n c st k
noncomputable abbrev R43 {α : Type} (c : Code) (st : St) (k : Kont α) : Option α := runCode E 68 cp43 noE c st k
noncomputable abbrev Q43 {α : Type} (c : Code) (k : Kont α) : Kont α := seqC E 68 cp43 noE c k
theorem ref02_Size_f1 {α : Type} (s_ : I3) (k : St → Option α) : P43 1 C43 ⟨[(0, .agg (tsI3.leaves s_))], [], [], 14⟩ k = k ⟨[(1, .one (.cell (tsI3.leaves s_)))], [], [], 14⟩ := by kernel_rfl
theorem ref02_Size_f1000002 {α : Type} (s_ : I3) (k : St → Option α) : P43 1 C43.r.l ⟨[(1, .one (.cell (tsI3.leaves s_)))], [], [], 14⟩ k = k ⟨[(1, .one (.cell (tsI3.leaves s_))), (5, rb ((ref02_May s_) != (0 : Int)))], [], [], 14⟩ := by kernel_rfl
theorem ref02_Size_fz {α : Type} (s_ : I3) (k : St → Option α) : P43 1 C43.r.l.r.t ⟨[(1, .one (.cell (tsI3.leaves s_)))], [], [], 14⟩ k = k ⟨[(2, ri (0 : Int))], [], [], 14⟩ := by kernel_rfl
theorem ref02_Size_fzx1 {α : Type} (s_ : I3) (k : St → Option α) : P43 1 C43.r.r ⟨[(1, .one (.cell (tsI3.leaves s_)))], [], [], 14⟩ k = k ⟨[(2, ri (IntKind.wrap .i64 ((IntKind.wrap .i64 (s_.1 * s_.2.1)) * s_.2.2)))], [], [], 14⟩ := by kernel_rfl
/-- quilt/quiltref02.Size -/
def ref02_Size_q {β : Type} (s_ : I3) (K : Int → β) : β := (bif ((ref02_May s_) != (0 : Int)) then (K (0 : Int)) else (K (IntKind.wrap .i64 ((IntKind.wrap .i64 (s_.1 * s_.2.1)) * s_.2.2))))
def ref02_Size (s_ : I3) : Int := ref02_Size_q s_ (fun y => y)
theorem ref02_Size_n {β : Type} (s_ : I3) (K : Int → β) : ref02_Size_q s_ K = K (ref02_Size s_) := (bif_k K rfl rfl)
theorem ref02_Size_is (s_ : I3) : stepS E cp43 noE 68 [.agg (tsI3.leaves s_)] = (fun y : Int => some (ri y : R)) (ref02_Size s_) := by
  refine Eq.trans ?_ (ref02_Size_n s_ (fun y : Int => some (ri y : R)))
  refine (stepG_is (nt := 14) (regs := [(0, .agg (tsI3.leaves s_))]) (by kernel_rfl) (by kernel_rfl)).trans ?_
  unfold ref02_Size_q
  refine (pre (n := 1) (c' := C43.r) (by kernel_rfl) (by kernel_rfl) (ref02_Size_f1 s_ _)).trans ?_
  refine (seq_push (by kernel_rfl)).trans ?_
  refine (pre (n := 1) (c' := C43.r.l.r) (by kernel_rfl) (by kernel_rfl) (ref02_Size_f1000002 s_ _)).trans ?_
  refine (cond_eq (b := ((ref02_May s_) != (0 : Int))) (st' := ⟨[(1, .one (.cell (tsI3.leaves s_)))], [], [], 14⟩) (by kernel_rfl) (by kernel_rfl) (by kernel_rfl)).trans (bif_g ?_ ?_)
  · refine (pre (n := 1) (c' := C43.r.l.r.t.r) (by kernel_rfl) (by kernel_rfl) (ref02_Size_fz s_ _)).trans ?_
    refine (ret_eq (by kernel_rfl)).trans ?_
    refine seqC_ret.trans ?_
    kernel_rfl
  · refine (skip_eq (by kernel_rfl)).trans ?_
    refine (seqC_normal (st' := ⟨[(1, .one (.cell (tsI3.leaves s_)))], [], [], 14⟩) (by kernel_rfl)).trans ?_
    refine (pre (n := 1) (c' := C43.r.r.r) (by kernel_rfl) (by kernel_rfl) (ref02_Size_fzx1 s_ _)).trans ?_
    refine (ret_eq (by kernel_rfl)).trans ?_
    kernel_rfl
theorem ref02_Size_c (x : denL [(.agg tsI3)]) : stepS E cp43 noE 68 (encL [(.agg tsI3)] x) = ((fun x => some (ref02_Size x.1)) x).bind fun y => some (Po.enc (.one (.one (.g (.int .i64)))) ((fun y : Int => y) y)) := Eq.mp (by kernel_rfl) (ref02_Size_is x.1)
noncomputable def cp44 : CallP := withC cp43 68 [(.agg tsI3)] (.one (.one (.g (.int .i64)))) (fun y : Int => y) (fun x => some (ref02_Size x.1))
theorem cp44_ok : PureOK E cp44 := withC_ok cp43_ok (stepS_ok eok cp43_ok noE_ok) fun x => con_of (enc := fun y => Po.enc (.one (.one (.g (.int .i64)))) ((fun y : Int => y) y)) (ref02_Size_c x)
end Go.V.P
