/- What functions compute. -/
import Derived.Test.YtcmckbcpeocokaaGb0
namespace Go.V.P
open Go.RowKit Go.V Go.Proofs
set_option linter.unusedVariables false
set_option maxRecDepth 100000
section
variable {α β : Type} (a0 : Node) (a_ : I3) (b_ : I3) (k : St → Option α)
noncomputable abbrev C19 := codeOf E.P 58
noncomputable abbrev P19 := @preK α E 58 cp19 noE
abbrev S19_0 : St := ⟨[(4, rC tsI3 a_), (5, rC tsI3 b_), (6, rF 0)], [[di 0, di 0, di 0]], [], 12⟩
theorem graph_same_f1 : P19 1 C19 ⟨[(0, rA tsNode a0), (1, rA tsI3 a_), (2, rA tsI3 b_)], [], [], 12⟩ k = k (S19_0 a_ b_) := by kernel_rfl
theorem graph_same_f1000002 : P19 1 C19.r.l (S19_0 a_ b_) k = k ⟨[(4, rC tsI3 a_), (6, rF 0), (9, rb (!((a_.1 == b_.1) && ((a_.2.1 == b_.2.1) && ((a_.2.2 == b_.2.2) && true)))))], [[di 0, di 0, di 0]], [], 12⟩ := by kernel_rfl
abbrev S19_1 : St := ⟨[(4, rC tsI3 a_), (6, rF 0)], [[di 0, di 0, di 0]], [], 12⟩
theorem graph_same_fz : P19 1 C19.r.l.r.t (S19_1 a_) k = k ⟨[(6, rF 0)], [[di 0, di 0, di 0]], [], 12⟩ := by kernel_rfl
theorem graph_same_fzx1 : P19 1 C19.r.r (S19_1 a_) k = k ⟨[(6, rF 0)], [(tsI3.leaves a_)], [], 12⟩ := by kernel_rfl
/-- quilt/graph.same -/
def graph_same_q {β : Type} (a0 : Node) (a_ : I3) (b_ : I3) (K : I3 → β) : β := (bif (!((a_.1 == b_.1) && ((a_.2.1 == b_.2.1) && ((a_.2.2 == b_.2.2) && true)))) then (K ((0 : Int), (0 : Int), (0 : Int))) else (K a_))
def graph_same : I3 := graph_same_q a0 a_ b_ (fun y => y)
theorem graph_same_n (K : I3 → β) : graph_same_q a0 a_ b_ K = K (graph_same a0 a_ b_) := (bif_k K rfl rfl)
theorem graph_same_is : stepS E cp19 noE 58 [rA tsNode a0, rA tsI3 a_, rA tsI3 b_] = (fun y : I3 => some (rA tsI3 y : R)) (graph_same a0 a_ b_) := by
  refine Eq.trans ?_ (graph_same_n a0 a_ b_ (fun y : I3 => some (rA tsI3 y : R)))
  refine (stepG_is (nt := 12) (regs := [(0, rA tsNode a0), (1, rA tsI3 a_), (2, rA tsI3 b_)])).trans ?_
  unfold graph_same_q
  refine (pre1 (graph_same_f1 a0 a_ b_ _)).trans ?_
  refine .trans seq_push ?_
  refine (pre1 (graph_same_f1000002 a_ b_ _)).trans ?_
  refine (cond_e (b := (!((a_.1 == b_.1) && ((a_.2.1 == b_.2.1) && ((a_.2.2 == b_.2.2) && true))))) (st' := (S19_1 a_)) ).trans (bif_g ?_ ?_)
  · refine (pre1 (graph_same_fz a_ _)).trans ?_
    refine (ret_eq).trans ?_
    refine seqC_ret.trans ?_
    kernel_rfl
  · refine (skip_eq).trans ?_
    refine (seqC_normal (st' := (S19_1 a_))).trans ?_
    refine (pre1 (graph_same_fzx1 a_ _)).trans ?_
    refine (ret_eq).trans ?_
    kernel_rfl
noncomputable def cp20 : CallP := withC cp19 58 [(.agg tsNode), (.agg tsI3), (.agg tsI3)] (.one (.agg tsI3)) (fun y : I3 => y) (fun x => some (graph_same x.1 x.2.1 x.2.2.1))
theorem cp20_ok : PureOK E cp20 := conS eok cp19_ok noE_ok fun x => Eq.mp (by kernel_rfl) (graph_same_is x.1 x.2.1 x.2.2.1)
end
section
variable {α β : Type} (a0 : Node) (a_ : I3) (a2 : I3) (k : St → Option α)
noncomputable abbrev C20 := codeOf E.P 59
noncomputable abbrev P20 := @preK α E 59 cp20 noE
theorem graph_of_6_fz : P20 2 C20 ⟨[(0, rA tsNode a0), (1, rA tsI3 a_), (2, rA tsI3 a2)], [], [], 16⟩ k = k ⟨[(6, rF 0)], [[di (IntKind.wrap .i64 (a_.1 + 2)), di (IntKind.wrap .i64 (a_.2.1 + 2)), di a_.2.2]], [], 16⟩ := by kernel_rfl
/-- quilt/graph.of$6 -/
def graph_of_6_q {β : Type} (a0 : Node) (a_ : I3) (a2 : I3) (K : I3 → β) : β := (K ((IntKind.wrap .i64 (a_.1 + 2)), (IntKind.wrap .i64 (a_.2.1 + 2)), a_.2.2))
def graph_of_6 : I3 := graph_of_6_q a0 a_ a2 (fun y => y)
theorem graph_of_6_n (K : I3 → β) : graph_of_6_q a0 a_ a2 K = K (graph_of_6 a0 a_ a2) := rfl
theorem graph_of_6_is : stepS E cp20 noE 59 [rA tsNode a0, rA tsI3 a_, rA tsI3 a2] = (fun y : I3 => some (rA tsI3 y : R)) (graph_of_6 a0 a_ a2) := by
  refine Eq.trans ?_ (graph_of_6_n a0 a_ a2 (fun y : I3 => some (rA tsI3 y : R)))
  refine (stepG_is (nt := 16) (regs := [(0, rA tsNode a0), (1, rA tsI3 a_), (2, rA tsI3 a2)])).trans ?_
  unfold graph_of_6_q
  refine (pre2 (graph_of_6_fz a0 a_ a2 _)).trans ?_
  refine (ret_eq).trans ?_
  kernel_rfl
noncomputable def cp21 : CallP := withC cp20 59 [(.agg tsNode), (.agg tsI3), (.agg tsI3)] (.one (.agg tsI3)) (fun y : I3 => y) (fun x => some (graph_of_6 x.1 x.2.1 x.2.2.1))
theorem cp21_ok : PureOK E cp21 := conS eok cp20_ok noE_ok fun x => Eq.mp (by kernel_rfl) (graph_of_6_is x.1 x.2.1 x.2.2.1)
end
section
variable {α β : Type} (a0 : Node) (a_ : I3) (b_ : I3) (k : St → Option α)
noncomputable abbrev C21 := codeOf E.P 60
noncomputable abbrev P21 := @preK α E 60 cp21 noE
abbrev S21_0 : St := ⟨[(4, rC tsI3 a_), (5, rC tsI3 b_), (6, rF 0)], [[di 0, di 0, di 0]], [], 30⟩
theorem graph_beside_f1 : P21 1 C21 ⟨[(0, rA tsNode a0), (1, rA tsI3 a_), (2, rA tsI3 b_)], [], [], 30⟩ k = k (S21_0 a_ b_) := by kernel_rfl
def graph_beside_r1_q (K : Bool → β) : β := (bif (a_.1 != b_.1) then (K true) else (K (a_.2.1 != b_.2.1)))
def graph_beside_r1_p : Bool := graph_beside_r1_q a_ b_ (fun y => y)
theorem graph_beside_r1_n (K : Bool → β) : graph_beside_r1_q a_ b_ K = K (graph_beside_r1_p a_ b_) := (bif_k K rfl rfl)
theorem graph_beside_r1 : P21 1 C21.r.l (S21_0 a_ b_) k = k ⟨[(4, rC tsI3 a_), (5, rC tsI3 b_), (6, rF 0), (18, rb (graph_beside_r1_p a_ b_))], [[di 0, di 0, di 0]], [], 30⟩ := Eq.trans (by kernel_rfl) (graph_beside_r1_n a_ b_ (fun y200 : Bool => k ⟨[(4, rC tsI3 a_), (5, rC tsI3 b_), (6, rF 0), (18, rb y200)], [[di 0, di 0, di 0]], [], 30⟩))
theorem graph_beside_fz : P21 1 C21.r.l.r.t (S21_0 a_ b_) k = k ⟨[(6, rF 0)], [[di 0, di 0, di 0]], [], 30⟩ := by kernel_rfl
theorem graph_beside_fzx1 : P21 1 C21.r.r (S21_0 a_ b_) k = k ⟨[(6, rF 0)], [[di a_.1, di a_.2.1, di (IntKind.wrap .i64 (a_.2.2 + b_.2.2))]], [], 30⟩ := by kernel_rfl
/-- quilt/graph.beside -/
def graph_beside_q {β : Type} (a0 : Node) (a_ : I3) (b_ : I3) (K : I3 → β) : β := (bif (graph_beside_r1_p a_ b_) then (K ((0 : Int), (0 : Int), (0 : Int))) else (K (a_.1, a_.2.1, (IntKind.wrap .i64 (a_.2.2 + b_.2.2)))))
def graph_beside : I3 := graph_beside_q a0 a_ b_ (fun y => y)
theorem graph_beside_n (K : I3 → β) : graph_beside_q a0 a_ b_ K = K (graph_beside a0 a_ b_) := (bif_k K rfl rfl)
theorem graph_beside_is : stepS E cp21 noE 60 [rA tsNode a0, rA tsI3 a_, rA tsI3 b_] = (fun y : I3 => some (rA tsI3 y : R)) (graph_beside a0 a_ b_) := by
  refine Eq.trans ?_ (graph_beside_n a0 a_ b_ (fun y : I3 => some (rA tsI3 y : R)))
  refine (stepG_is (nt := 30) (regs := [(0, rA tsNode a0), (1, rA tsI3 a_), (2, rA tsI3 b_)])).trans ?_
  unfold graph_beside_q
  refine (pre1 (graph_beside_f1 a0 a_ b_ _)).trans ?_
  refine .trans seq_push ?_
  refine (pre1 (graph_beside_r1 a_ b_ _)).trans ?_
  refine (cond_e (b := (graph_beside_r1_p a_ b_)) (st' := (S21_0 a_ b_)) ).trans (bif_g ?_ ?_)
  · refine (pre1 (graph_beside_fz a_ b_ _)).trans ?_
    refine (ret_eq).trans ?_
    refine seqC_ret.trans ?_
    kernel_rfl
  · refine (skip_eq).trans ?_
    refine (seqC_normal (st' := (S21_0 a_ b_))).trans ?_
    refine (pre1 (graph_beside_fzx1 a_ b_ _)).trans ?_
    refine (ret_eq).trans ?_
    kernel_rfl
noncomputable def cp22 : CallP := withC cp21 60 [(.agg tsNode), (.agg tsI3), (.agg tsI3)] (.one (.agg tsI3)) (fun y : I3 => y) (fun x => some (graph_beside x.1 x.2.1 x.2.2.1))
theorem cp22_ok : PureOK E cp22 := conS eok cp21_ok noE_ok fun x => Eq.mp (by kernel_rfl) (graph_beside_is x.1 x.2.1 x.2.2.1)
end
noncomputable abbrev C22 := codeOf E.P 71
noncomputable abbrev P22 {α : Type} := @preK α E 71 cp22 noE
abbrev S22_0 (s_ : I3) : St := ⟨[(1, rC tsI3 s_)], [], [], 11⟩
theorem shape_Row_f1 {α : Type} (s_ : I3) (k : St → Option α) : P22 1 C22 ⟨[(0, rA tsI3 s_)], [], [], 11⟩ k = k (S22_0 s_) := by kernel_rfl
theorem shape_Row_r1 {α : Type} (s_ : I3) (k : St → Option α) : P22 1 C22.r.l (S22_0 s_) k = Option.bind (shape_may s_) fun y203 : Bool => k ⟨[(1, rC tsI3 s_), (5, rb (!y203))], [], [], 11⟩ := by kernel_rfl
theorem shape_Row_fz {α : Type} (s_ : I3) (k : St → Option α) : P22 1 C22.r.l.r.t (S22_0 s_) k = k ⟨[(2, ri 0)], [], [], 11⟩ := by kernel_rfl
theorem shape_Row_fzx1 {α : Type} (s_ : I3) (k : St → Option α) : P22 1 C22.r.r (S22_0 s_) k = k ⟨[(2, ri (IntKind.wrap .i64 (s_.2.1 * s_.2.2)))], [], [], 11⟩ := by kernel_rfl
/-- quilt/shape.Row -/
def shape_Row (s_ : I3) : Option Int := (Option.bind (shape_may s_) (fun y203 : Bool => (bif (!y203) then (some (0 : Int)) else (some (IntKind.wrap .i64 (s_.2.1 * s_.2.2))))))
theorem shape_Row_is (s_ : I3) : stepS E cp22 noE 71 [rA tsI3 s_] = Option.bind (shape_Row s_) (fun y : Int => some (ri y : R)) := by
  refine .trans ?_ (bind_b fun y203 => (bif_b some_b some_b))
  refine (stepG_is (nt := 11) (regs := [(0, rA tsI3 s_)])).trans ?_
  refine (pre1 (shape_Row_f1 s_ _)).trans ?_
  refine .trans seq_push ?_
  refine (pre1 (shape_Row_r1 s_ _)).trans (bind_g fun y203 => ?_)
  refine (cond_e (b := (!y203)) (st' := (S22_0 s_)) ).trans (bif_g ?_ ?_)
  · refine (pre1 (shape_Row_fz s_ _)).trans ?_
    refine (ret_eq).trans ?_
    refine seqC_ret.trans ?_
    kernel_rfl
  · refine (skip_eq).trans ?_
    refine (seqC_normal (st' := (S22_0 s_))).trans ?_
    refine (pre1 (shape_Row_fzx1 s_ _)).trans ?_
    refine (ret_eq).trans ?_
    kernel_rfl
noncomputable def cp23 : CallP := withC cp22 71 [(.agg tsI3)] (.one pI) (fun y : Int => y) (fun x => shape_Row x.1)
theorem cp23_ok : PureOK E cp23 := conS eok cp22_ok noE_ok fun x => Eq.mp (by kernel_rfl) (shape_Row_is x.1)
noncomputable abbrev C23 := codeOf E.P 57
noncomputable abbrev P23 {α : Type} := @preK α E 57 cp23 noE
theorem shape_Size_r1 {α : Type} (s_ : I3) (k : St → Option α) : P23 2 C23 ⟨[(0, rA tsI3 s_)], [], [], 8⟩ k = Option.bind (shape_Row s_) fun y204 : Int => k ⟨[(2, ri (IntKind.wrap .i64 (y204 * s_.1)))], [], [], 8⟩ := by kernel_rfl
/-- quilt/shape.Size -/
def shape_Size (s_ : I3) : Option Int := (Option.bind (shape_Row s_) (fun y204 : Int => (some (IntKind.wrap .i64 (y204 * s_.1)))))
theorem shape_Size_is (s_ : I3) : stepS E cp23 noE 57 [rA tsI3 s_] = Option.bind (shape_Size s_) (fun y : Int => some (ri y : R)) := by
  refine .trans ?_ (bind_b fun y204 => some_b)
  refine (stepG_is (nt := 8) (regs := [(0, rA tsI3 s_)])).trans ?_
  refine (pre2 (shape_Size_r1 s_ _)).trans (bind_g fun y204 => ?_)
  refine (ret_eq).trans ?_
  kernel_rfl
noncomputable def cp24 : CallP := withC cp23 57 [(.agg tsI3)] (.one pI) (fun y : Int => y) (fun x => shape_Size x.1)
theorem cp24_ok : PureOK E cp24 := conS eok cp23_ok noE_ok fun x => Eq.mp (by kernel_rfl) (shape_Size_is x.1)
section
variable {α : Type} (n_ : Node) (a_ : I3) (a2 : I3) (k : St → Option α)
noncomputable abbrev C24 := codeOf E.P 61
noncomputable abbrev P24 := @preK α E 61 cp24 noE
abbrev S24_0 : St := ⟨[(3, rC tsNode n_), (4, rC tsI3 a_), (6, rF 0)], [[di 0, di 0, di 0]], [], 16⟩
theorem graph_anew_f1 : P24 1 C24 ⟨[(0, rA tsNode n_), (1, rA tsI3 a_), (2, rA tsI3 a2)], [], [], 16⟩ k = k (S24_0 n_ a_) := by kernel_rfl
def graph_anew_r1_p : Option Bool := (Option.bind (shape_Size (n_.2.2.2.2.2.2.2.2.2.1, n_.2.2.2.2.2.2.2.2.2.2.1, n_.2.2.2.2.2.2.2.2.2.2.2.1)) (fun y208 : Int => (Option.bind (shape_Size a_) (fun y209 : Int => (some (y208 != y209))))))
theorem graph_anew_r1 : P24 1 C24.r.l (S24_0 n_ a_) k = Option.bind (graph_anew_r1_p n_ a_) (fun y210 : Bool => k ⟨[(3, rC tsNode n_), (6, rF 0), (12, rb y210)], [[di 0, di 0, di 0]], [], 16⟩) := .trans (by kernel_rfl) (bind_b fun y208 => (bind_b fun y209 => some_b))
abbrev S24_1 : St := ⟨[(3, rC tsNode n_), (6, rF 0)], [[di 0, di 0, di 0]], [], 16⟩
theorem graph_anew_fz : P24 1 C24.r.l.r.t (S24_1 n_) k = k ⟨[(6, rF 0)], [[di 0, di 0, di 0]], [], 16⟩ := by kernel_rfl
theorem graph_anew_fzx1 : P24 1 C24.r.r (S24_1 n_) k = k ⟨[(6, rF 0)], [[di n_.2.2.2.2.2.2.2.2.2.1, di n_.2.2.2.2.2.2.2.2.2.2.1, di n_.2.2.2.2.2.2.2.2.2.2.2.1]], [], 16⟩ := by kernel_rfl
/-- quilt/graph.anew -/
def graph_anew (n_ : Node) (a_ : I3) (a2 : I3) : Option I3 := (Option.bind (graph_anew_r1_p n_ a_) (fun y210 : Bool => (bif y210 then (some ((0 : Int), (0 : Int), (0 : Int))) else (some (n_.2.2.2.2.2.2.2.2.2.1, n_.2.2.2.2.2.2.2.2.2.2.1, n_.2.2.2.2.2.2.2.2.2.2.2.1)))))
theorem graph_anew_is : stepS E cp24 noE 61 [rA tsNode n_, rA tsI3 a_, rA tsI3 a2] = Option.bind (graph_anew n_ a_ a2) (fun y : I3 => some (rA tsI3 y : R)) := by
  refine .trans ?_ (bind_b fun y210 => (bif_b some_b some_b))
  refine (stepG_is (nt := 16) (regs := [(0, rA tsNode n_), (1, rA tsI3 a_), (2, rA tsI3 a2)])).trans ?_
  refine (pre1 (graph_anew_f1 n_ a_ a2 _)).trans ?_
  refine .trans seq_push ?_
  refine (pre1 (graph_anew_r1 n_ a_ _)).trans (bind_g fun y210 => ?_)
  refine (cond_e (b := y210) (st' := (S24_1 n_)) ).trans (bif_g ?_ ?_)
  · refine (pre1 (graph_anew_fz n_ _)).trans ?_
    refine (ret_eq).trans ?_
    refine seqC_ret.trans ?_
    kernel_rfl
  · refine (skip_eq).trans ?_
    refine (seqC_normal (st' := (S24_1 n_))).trans ?_
    refine (pre1 (graph_anew_fzx1 n_ _)).trans ?_
    refine (ret_eq).trans ?_
    kernel_rfl
noncomputable def cp25 : CallP := withC cp24 61 [(.agg tsNode), (.agg tsI3), (.agg tsI3)] (.one (.agg tsI3)) (fun y : I3 => y) (fun x => graph_anew x.1 x.2.1 x.2.2.1)
theorem cp25_ok : PureOK E cp25 := conS eok cp24_ok noE_ok fun x => Eq.mp (by kernel_rfl) (graph_anew_is x.1 x.2.1 x.2.2.1)
end
section
variable {α β : Type} (a0_ : Node) (a1_ : I3) (k : St → Option α)
noncomputable abbrev C25 := codeOf E.P 49
noncomputable abbrev P25 := @preK α E 49 cp25 noE
theorem graph_bare_fz : P25 2 C25 ⟨[(0, rA tsNode a0_), (1, rA tsI3 a1_)], [], [], 6⟩ k = k ⟨[(4, ri 0), (5, ri 0)], [], [], 6⟩ := by kernel_rfl
/-- quilt/graph.bare -/
def graph_bare_q {β : Type} (a0_ : Node) (a1_ : I3) (K : (Int × Int) → β) : β := (K ((0 : Int), (0 : Int)))
def graph_bare : (Int × Int) := graph_bare_q a0_ a1_ (fun y => y)
theorem graph_bare_n (K : (Int × Int) → β) : graph_bare_q a0_ a1_ K = K (graph_bare a0_ a1_) := rfl
theorem graph_bare_is : stepS E cp25 noE 49 [rA tsNode a0_, rA tsI3 a1_] = (fun y : (Int × Int) => some (.tup [ri y.1, ri y.2] : R)) (graph_bare a0_ a1_) := by
  refine Eq.trans ?_ (graph_bare_n a0_ a1_ (fun y : (Int × Int) => some (.tup [ri y.1, ri y.2] : R)))
  refine (stepG_is (nt := 6) (regs := [(0, rA tsNode a0_), (1, rA tsI3 a1_)])).trans ?_
  unfold graph_bare_q
  refine (pre2 (graph_bare_fz a0_ a1_ _)).trans ?_
  refine (ret_eq).trans ?_
  kernel_rfl
noncomputable def cp26 : CallP := withC cp25 49 [(.agg tsNode), (.agg tsI3)] (.tup [pI, pI]) (fun y : (Int × Int) => (y.1, y.2, ())) (fun x => some (graph_bare x.1 x.2.1))
theorem cp26_ok : PureOK E cp26 := conS eok cp25_ok noE_ok fun x => Eq.mp (by kernel_rfl) (graph_bare_is x.1 x.2.1)
end
section
variable {α β : Type} (n_ : Node) (s_ : I3) (k : St → Option α)
noncomputable abbrev C26 := codeOf E.P 52
noncomputable abbrev P26 := @preK α E 52 cp26 noE
def graph_of_2_r1_q (K : Int → β) : β := (K (IntKind.wrap .i64 ((IntKind.wrap .i64 ((IntKind.wrap .i64 (n_.2.2.1 * n_.2.2.1)) * s_.2.2)) * n_.2.2.2.2.2.1)))
def graph_of_2_r1_p : Int := graph_of_2_r1_q n_ s_ (fun y => y)
theorem graph_of_2_r1_n (K : Int → β) : graph_of_2_r1_q n_ s_ K = K (graph_of_2_r1_p n_ s_) := rfl
theorem graph_of_2_r1 : P26 2 C26 ⟨[(0, rA tsNode n_), (1, rA tsI3 s_)], [], [], 19⟩ k = k ⟨[(4, ri (graph_of_2_r1_p n_ s_)), (5, ri n_.2.2.2.2.2.1)], [], [], 19⟩ := Eq.trans (by kernel_rfl) (graph_of_2_r1_n n_ s_ (fun y218 : Int => k ⟨[(4, ri y218), (5, ri n_.2.2.2.2.2.1)], [], [], 19⟩))
/-- quilt/graph.of$2 -/
def graph_of_2_q (K : (Int × Int) → β) : β := (K ((graph_of_2_r1_p n_ s_), n_.2.2.2.2.2.1))
def graph_of_2 : (Int × Int) := graph_of_2_q n_ s_ (fun y => y)
theorem graph_of_2_n (K : (Int × Int) → β) : graph_of_2_q n_ s_ K = K (graph_of_2 n_ s_) := rfl
theorem graph_of_2_is : stepS E cp26 noE 52 [rA tsNode n_, rA tsI3 s_] = (fun y : (Int × Int) => some (.tup [ri y.1, ri y.2] : R)) (graph_of_2 n_ s_) := by
  refine Eq.trans ?_ (graph_of_2_n n_ s_ (fun y : (Int × Int) => some (.tup [ri y.1, ri y.2] : R)))
  refine (stepG_is (nt := 19) (regs := [(0, rA tsNode n_), (1, rA tsI3 s_)])).trans ?_
  unfold graph_of_2_q
  refine (pre2 (graph_of_2_r1 n_ s_ _)).trans ?_
  refine (ret_eq).trans ?_
  kernel_rfl
noncomputable def cp27 : CallP := withC cp26 52 [(.agg tsNode), (.agg tsI3)] (.tup [pI, pI]) (fun y : (Int × Int) => (y.1, y.2, ())) (fun x => some (graph_of_2 x.1 x.2.1))
theorem cp27_ok : PureOK E cp27 := conS eok cp26_ok noE_ok fun x => Eq.mp (by kernel_rfl) (graph_of_2_is x.1 x.2.1)
end
section
variable {α β : Type} (n_ : Node) (s_ : I3) (k : St → Option α)
noncomputable abbrev C27 := codeOf E.P 54
noncomputable abbrev P27 := @preK α E 54 cp27 noE
theorem graph_of_3_fz : P27 2 C27 ⟨[(0, rA tsNode n_), (1, rA tsI3 s_)], [], [], 16⟩ k = k ⟨[(4, ri (IntKind.wrap .i64 ((IntKind.wrap .i64 (n_.2.2.1 * n_.2.2.1)) * s_.2.2))), (5, ri s_.2.2)], [], [], 16⟩ := by kernel_rfl
/-- quilt/graph.of$3 -/
def graph_of_3_q (K : (Int × Int) → β) : β := (K ((IntKind.wrap .i64 ((IntKind.wrap .i64 (n_.2.2.1 * n_.2.2.1)) * s_.2.2)), s_.2.2))
def graph_of_3 : (Int × Int) := graph_of_3_q n_ s_ (fun y => y)
theorem graph_of_3_n (K : (Int × Int) → β) : graph_of_3_q n_ s_ K = K (graph_of_3 n_ s_) := rfl
theorem graph_of_3_is : stepS E cp27 noE 54 [rA tsNode n_, rA tsI3 s_] = (fun y : (Int × Int) => some (.tup [ri y.1, ri y.2] : R)) (graph_of_3 n_ s_) := by
  refine Eq.trans ?_ (graph_of_3_n n_ s_ (fun y : (Int × Int) => some (.tup [ri y.1, ri y.2] : R)))
  refine (stepG_is (nt := 16) (regs := [(0, rA tsNode n_), (1, rA tsI3 s_)])).trans ?_
  unfold graph_of_3_q
  refine (pre2 (graph_of_3_fz n_ s_ _)).trans ?_
  refine (ret_eq).trans ?_
  kernel_rfl
noncomputable def cp28 : CallP := withC cp27 54 [(.agg tsNode), (.agg tsI3)] (.tup [pI, pI]) (fun y : (Int × Int) => (y.1, y.2, ())) (fun x => some (graph_of_3 x.1 x.2.1))
theorem cp28_ok : PureOK E cp28 := conS eok cp27_ok noE_ok fun x => Eq.mp (by kernel_rfl) (graph_of_3_is x.1 x.2.1)
end
section
variable {α : Type} (n_ : Node) (s_ : I3) (k : St → Option α)
noncomputable abbrev C28 := codeOf E.P 56
noncomputable abbrev P28 := @preK α E 56 cp28 noE
theorem graph_of_5_r1 : P28 2 C28 ⟨[(0, rA tsNode n_), (1, rA tsI3 s_)], [], [], 13⟩ k = Option.bind (shape_Size s_) fun y221 : Int => k ⟨[(4, ri (IntKind.wrap .i64 (y221 * n_.2.2.2.2.2.1))), (5, ri n_.2.2.2.2.2.1)], [], [], 13⟩ := by kernel_rfl
/-- quilt/graph.of$5 -/
def graph_of_5 : Option (Int × Int) := (Option.bind (shape_Size s_) (fun y221 : Int => (some ((IntKind.wrap .i64 (y221 * n_.2.2.2.2.2.1)), n_.2.2.2.2.2.1))))
theorem graph_of_5_is : stepS E cp28 noE 56 [rA tsNode n_, rA tsI3 s_] = Option.bind (graph_of_5 n_ s_) (fun y : (Int × Int) => some (.tup [ri y.1, ri y.2] : R)) := by
  refine .trans ?_ (bind_b fun y221 => some_b)
  refine (stepG_is (nt := 13) (regs := [(0, rA tsNode n_), (1, rA tsI3 s_)])).trans ?_
  refine (pre2 (graph_of_5_r1 n_ s_ _)).trans (bind_g fun y221 => ?_)
  refine (ret_eq).trans ?_
  kernel_rfl
noncomputable def cp29 : CallP := withC cp28 56 [(.agg tsNode), (.agg tsI3)] (.tup [pI, pI]) (fun y : (Int × Int) => (y.1, y.2, ())) (fun x => graph_of_5 x.1 x.2.1)
theorem cp29_ok : PureOK E cp29 := conS eok cp28_ok noE_ok fun x => Eq.mp (by kernel_rfl) (graph_of_5_is x.1 x.2.1)
end
section
variable {α β : Type} (a0_ : Node) (a1_ : I3) (k : St → Option α)
noncomputable abbrev C29 := codeOf E.P 62
noncomputable abbrev P29 := @preK α E 62 cp29 noE
theorem graph_of_7_fz : P29 2 C29 ⟨[(0, rA tsNode a0_), (1, rA tsI3 a1_)], [], [], 6⟩ k = k ⟨[(4, ri 256), (5, ri 0)], [], [], 6⟩ := by kernel_rfl
/-- quilt/graph.of$7 -/
def graph_of_7_q {β : Type} (a0_ : Node) (a1_ : I3) (K : (Int × Int) → β) : β := (K ((256 : Int), (0 : Int)))
def graph_of_7 : (Int × Int) := graph_of_7_q a0_ a1_ (fun y => y)
theorem graph_of_7_n (K : (Int × Int) → β) : graph_of_7_q a0_ a1_ K = K (graph_of_7 a0_ a1_) := rfl
theorem graph_of_7_is : stepS E cp29 noE 62 [rA tsNode a0_, rA tsI3 a1_] = (fun y : (Int × Int) => some (.tup [ri y.1, ri y.2] : R)) (graph_of_7 a0_ a1_) := by
  refine Eq.trans ?_ (graph_of_7_n a0_ a1_ (fun y : (Int × Int) => some (.tup [ri y.1, ri y.2] : R)))
  refine (stepG_is (nt := 6) (regs := [(0, rA tsNode a0_), (1, rA tsI3 a1_)])).trans ?_
  unfold graph_of_7_q
  refine (pre2 (graph_of_7_fz a0_ a1_ _)).trans ?_
  refine (ret_eq).trans ?_
  kernel_rfl
noncomputable def cp30 : CallP := withC cp29 62 [(.agg tsNode), (.agg tsI3)] (.tup [pI, pI]) (fun y : (Int × Int) => (y.1, y.2, ())) (fun x => some (graph_of_7 x.1 x.2.1))
theorem cp30_ok : PureOK E cp30 := conS eok cp29_ok noE_ok fun x => Eq.mp (by kernel_rfl) (graph_of_7_is x.1 x.2.1)
end
noncomputable abbrev C30 := codeOf E.P 29
noncomputable abbrev P30 {α : Type} := @preK α E 29 cp30 noE
theorem graph_Value_3_fz {α : Type} (x_ : Int) (k : St → Option α) : P30 2 C30 ⟨[(0, rk .i32 x_)], [], [], 7⟩ k = k ⟨[(2, rb (!(graph_within (IntKind.wrap .i64 x_) (-16777216 : Int) (16777216 : Int))))], [], [], 7⟩ := by kernel_rfl
/-- quilt/graph.Value$3 -/
def graph_Value_3_q {β : Type} (x_ : Int) (K : Bool → β) : β := (K (!(graph_within (IntKind.wrap .i64 x_) (-16777216 : Int) (16777216 : Int))))
def graph_Value_3 (x_ : Int) : Bool := graph_Value_3_q x_ (fun y => y)
theorem graph_Value_3_n {β : Type} (x_ : Int) (K : Bool → β) : graph_Value_3_q x_ K = K (graph_Value_3 x_) := rfl
theorem graph_Value_3_is (x_ : Int) : stepS E cp30 noE 29 [rk .i32 x_] = (fun y : Bool => some (rb y : R)) (graph_Value_3 x_) := by
  refine Eq.trans ?_ (graph_Value_3_n x_ (fun y : Bool => some (rb y : R)))
  refine (stepG_is (nt := 7) (regs := [(0, rk .i32 x_)])).trans ?_
  unfold graph_Value_3_q
  refine (pre2 (graph_Value_3_fz x_ _)).trans ?_
  refine (ret_eq).trans ?_
  kernel_rfl
noncomputable def cp31 : CallP := withC cp30 29 [(.one (.g (.int .i32)))] (.one pB) (fun y : Bool => y) (fun x => some (graph_Value_3 x.1))
theorem cp31_ok : PureOK E cp31 := conS eok cp30_ok noE_ok fun x => Eq.mp (by kernel_rfl) (graph_Value_3_is x.1)
section
variable {α : Type} (s_ : (List Int)) (s237 : Int) (k : St → Option α) (q : Kont α)
noncomputable abbrev C31 := codeOf E.P 65
noncomputable abbrev P31 := @preK α E 65 cp31 noE
noncomputable abbrev R31 := @runCode α E 65 cp31 noE
abbrev S31_0 : St := ⟨[(0, rl (.one (.int .i32)) s_), (1, .one (.fn 29 []))], [], [], 19⟩
theorem slices_IndexFuncint32_int32_f1 : P31 1 C31 (S31_0 s_) k = k (S31_0 s_) := by kernel_rfl
abbrev S31_1 : St := ⟨[(0, rl (.one (.int .i32)) s_), (1, .one (.fn 29 [])), (7, ri (s_.length : Int)), (8, ri 0)], [], [], 19⟩
theorem slices_IndexFuncint32_int32_f2 : P31 1 C31.r.l (S31_0 s_) k = k (S31_1 s_) := by kernel_rfl
abbrev S31_2 : St := ⟨[(0, rl (.one (.int .i32)) s_), (1, .one (.fn 29 [])), (7, ri (s_.length : Int)), (8, ri s237)], [], [], 19⟩
theorem slices_IndexFuncint32_int32_fz : P31 1 C31.r.l.r.b.b (S31_2 s_ s237) k = k ⟨[(0, rl (.one (.int .i32)) s_), (1, .one (.fn 29 [])), (7, ri (s_.length : Int)), (8, ri s237), (9, rb (decide (s237 < (s_.length : Int))))], [], [], 19⟩ := by kernel_rfl
def slices_IndexFuncint32_int32_r4_p : Option Unit := (bif (decide ((0 : Int) ≤ s237)) then (bif (decide (s237 < (s_.length : Int))) then (some ()) else none) else none)
theorem slices_IndexFuncint32_int32_r4 : P31 2 C31.r.l.r.b.b.r.r.l.b (S31_2 s_ s237) k = Option.bind (slices_IndexFuncint32_int32_r4_p s_ s237) (fun y239 : Unit => k ⟨[(0, rl (.one (.int .i32)) s_), (1, .one (.fn 29 [])), (5, ri s237), (7, ri (s_.length : Int)), (8, ri s237), (16, rb (graph_Value_3 (gt s_ s237 (0 : Int))))], [], [], 19⟩) := .trans (by kernel_rfl) (bif_b (bif_b some_b none_b) none_b)
abbrev S31_3 : St := ⟨[(0, rl (.one (.int .i32)) s_), (1, .one (.fn 29 [])), (5, ri s237), (7, ri (s_.length : Int)), (8, ri s237)], [], [], 19⟩
theorem slices_IndexFuncint32_int32_fzx1 : P31 1 C31.r.l.r.b.b.r.r.l.b.r.r.t (S31_3 s_ s237) k = k ⟨[(4, ri s237)], [], [], 19⟩ := by kernel_rfl
theorem slices_IndexFuncint32_int32_r6 : R31 C31.r.l.r.b.b.r.r.r (S31_2 s_ s237) q = q .normal ⟨[(0, rl (.one (.int .i32)) s_), (1, .one (.fn 29 [])), (7, ri (s_.length : Int)), (8, ri (IntKind.wrap .i64 (s237 + 1)))], [], [], 19⟩ := by kernel_rfl
def slices_IndexFuncint32_int32_l2_p : Option (Int ⊕ (Int ⊕ Int)) := (bif (decide (s237 < (s_.length : Int))) then (Option.bind (slices_IndexFuncint32_int32_r4_p s_ s237) (fun y239 : Unit => (bif (graph_Value_3 (gt s_ s237 (0 : Int))) then (some (Sum.inr (Sum.inr s237))) else (some (Sum.inl (IntKind.wrap .i64 (s237 + 1))))))) else (some (Sum.inr (Sum.inl s237))))
abbrev S31_4 (y240 : Int) : St := ⟨[(0, rl (.one (.int .i32)) s_), (1, .one (.fn 29 [])), (7, ri (s_.length : Int)), (8, ri y240)], [], [], 19⟩
theorem slices_IndexFuncint32_int32_l2_b : R31 C31.r.l.r.b.b (S31_2 s_ s237) (loopKont 0 q) = Option.bind (slices_IndexFuncint32_int32_l2_p s_ s237) (either (fun y : Int => q .normal ⟨[(0, rl (.one (.int .i32)) s_), (1, .one (.fn 29 [])), (7, ri (s_.length : Int)), (8, ri y)], [], [], 19⟩) (either (fun y240 : Int => q (.exit 0) (S31_4 s_ y240)) (fun y241 : Int => q .ret ⟨[(4, ri y241)], [], [], 19⟩))) := by
  refine .trans ?_ (bif_b (bind_b fun y239 => (bif_b e3_2 e3_0)) e3_1)
  refine (pre1 (slices_IndexFuncint32_int32_fz s_ s237 _)).trans ?_
  refine .trans seq_push ?_
  refine (cond_e (b := (decide (s237 < (s_.length : Int)))) (st' := (S31_2 s_ s237)) ).trans (bif_g ?_ ?_)
  · refine (skip_eq).trans ?_
    refine (seqC_normal (st' := (S31_2 s_ s237))).trans ?_
    refine .trans seq_push ?_
    refine (block_push (id := 1)).trans ?_
    refine (pre2 (slices_IndexFuncint32_int32_r4 s_ s237 _)).trans (bind_g fun y239 => ?_)
    refine (cond_e (b := (graph_Value_3 (gt s_ s237 (0 : Int)))) (st' := (S31_3 s_ s237)) ).trans (bif_g ?_ ?_)
    · refine (pre1 (slices_IndexFuncint32_int32_fzx1 s_ s237 _)).trans ?_
      refine (ret_eq).trans ?_
      refine block_ret.trans ?_
      refine seqC_ret.trans ?_
      kernel_rfl
    · refine (skip_eq).trans ?_
      refine block_normal.trans ?_
      refine (seqC_normal (st' := (S31_2 s_ s237))).trans ?_
      refine (slices_IndexFuncint32_int32_r6 s_ s237 _).trans ?_
      kernel_rfl
  · refine ((exit_eq (j := 0))).trans ?_
    refine seqC_exit.trans ?_
    kernel_rfl
theorem slices_IndexFuncint32_int32_l2 : R31 C31.r.l.r.b (S31_1 s_) q = Option.bind (iterN (slices_IndexFuncint32_int32_l2_p s_) LL (0 : Int)) (either (fun y240 : Int => q (.exit 0) (S31_4 s_ y240)) (fun y241 : Int => q .ret ⟨[(4, ri y241)], [], [], 19⟩)) :=
  Eq.trans (by kernel_rfl) (loop_iter2 (S := fun s237 : Int => (S31_2 s_ s237)) (Y1 := fun y240 : Int => ((.exit 0), (S31_4 s_ y240))) (Y2 := fun y241 : Int => (.ret, ⟨[(4, ri y241)], [], [], 19⟩)) (fun s q => slices_IndexFuncint32_int32_l2_b s_ s q) (fun z => rfl) (fun z => rfl) LL (0 : Int))
theorem slices_IndexFuncint32_int32_fzx2 : P31 1 C31.r.r ⟨[], [], [], 19⟩ k = k ⟨[(4, ri (-1 : Int))], [], [], 19⟩ := by kernel_rfl
/-- slices.IndexFunc[[]int32,int32] -/
def slices_IndexFuncint32_int32 : Option Int := (Option.bind (iterN (slices_IndexFuncint32_int32_l2_p s_) LL (0 : Int)) (either (fun y240 : Int => (some (-1 : Int))) (fun y241 : Int => (some y241))))
theorem slices_IndexFuncint32_int32_is : stepS E cp31 noE 65 [rl (.one (.int .i32)) s_, .one (.fn 29 [])] = Option.bind (slices_IndexFuncint32_int32 s_) (fun y : Int => some (ri y : R)) := by
  refine .trans ?_ (bind_b (either_b (fun y240 => some_b) (fun y241 => some_b)))
  refine (stepG_is (nt := 19) (regs := [(0, rl (.one (.int .i32)) s_), (1, .one (.fn 29 []))])).trans ?_
  refine (pre1 (slices_IndexFuncint32_int32_f1 s_ _)).trans ?_
  refine .trans seq_push ?_
  refine (pre1 (slices_IndexFuncint32_int32_f2 s_ _)).trans ?_
  refine (block_push (id := 0)).trans ?_
  refine (slices_IndexFuncint32_int32_l2 s_ _).trans (bind_g (either_g (fun y240 => ?_) (fun y241 => ?_)))
  · refine block_same.trans ?_
    refine (seqC_normal (st' := ⟨[], [], [], 19⟩)).trans ?_
    refine (pre1 (slices_IndexFuncint32_int32_fzx2 _)).trans ?_
    refine (ret_eq).trans ?_
    kernel_rfl
  · refine block_ret.trans ?_
    refine seqC_ret.trans ?_
    kernel_rfl
noncomputable def cp32 : CallP := withC cp31 65 [(.one (.g (.sl (.one (.int .i32))))), (.one (.fn 29 .nil))] (.one pI) (fun y : Int => y) (fun x => slices_IndexFuncint32_int32 x.1)
theorem cp32_ok : PureOK E cp32 := conS eok cp31_ok noE_ok fun x => Eq.mp (by kernel_rfl) (slices_IndexFuncint32_int32_is x.1)
end
noncomputable abbrev C32 := codeOf E.P 28
noncomputable abbrev P32 {α : Type} := @preK α E 28 cp32 noE
theorem slices_ContainsFuncint32_int32_r1 {α : Type} (s_ : (List Int)) (k : St → Option α) : P32 2 C32 ⟨[(0, rl (.one (.int .i32)) s_), (1, .one (.fn 29 []))], [], [], 9⟩ k = Option.bind (slices_IndexFuncint32_int32 s_) fun y242 : Int => k ⟨[(4, rb (decide (y242 ≥ 0)))], [], [], 9⟩ := by kernel_rfl
/-- slices.ContainsFunc[[]int32,int32] -/
def slices_ContainsFuncint32_int32 (s_ : (List Int)) : Option Bool := (Option.bind (slices_IndexFuncint32_int32 s_) (fun y242 : Int => (some (decide (y242 ≥ 0)))))
theorem slices_ContainsFuncint32_int32_is (s_ : (List Int)) : stepS E cp32 noE 28 [rl (.one (.int .i32)) s_, .one (.fn 29 [])] = Option.bind (slices_ContainsFuncint32_int32 s_) (fun y : Bool => some (rb y : R)) := by
  refine .trans ?_ (bind_b fun y242 => some_b)
  refine (stepG_is (nt := 9) (regs := [(0, rl (.one (.int .i32)) s_), (1, .one (.fn 29 []))])).trans ?_
  refine (pre2 (slices_ContainsFuncint32_int32_r1 s_ _)).trans (bind_g fun y242 => ?_)
  refine (ret_eq).trans ?_
  kernel_rfl
noncomputable def cp33 : CallP := withC cp32 28 [(.one (.g (.sl (.one (.int .i32))))), (.one (.fn 29 .nil))] (.one pB) (fun y : Bool => y) (fun x => slices_ContainsFuncint32_int32 x.1)
theorem cp33_ok : PureOK E cp33 := conS eok cp32_ok noE_ok fun x => Eq.mp (by kernel_rfl) (slices_ContainsFuncint32_int32_is x.1)
section
variable {α β : Type} (n_ : Node) (in_ : (List I4)) (y82 : U5) (y213 : (Int × Int × Int)) (y225 : (Int × Int)) (k : St → Option α)
noncomputable abbrev C33 := codeOf E.P 11
noncomputable abbrev P33 := @preK α E 11 cp33 noE
def graph_Value_r1_p : Option U5 := (Option.bind (graph_of n_.1) (fun y18 : U7 => ((either (fun u19 : Unit => ((either (fun u20 : Unit => (some (y18.2, y18.1.1, y18.1.2.1, y18.1.2.2.1, y18.1.2.2.2.1, y18.1.2.2.2.2.1, y18.1.2.2.2.2.2.1, (Sum.inl ()), (Sum.inl ())))) (either (fun u21 : Unit => (some (y18.2, y18.1.1, y18.1.2.1, y18.1.2.2.1, y18.1.2.2.2.1, y18.1.2.2.2.2.1, y18.1.2.2.2.2.2.1, (Sum.inl ()), (Sum.inr (Sum.inl ()))))) (either (fun u22 : Unit => (some (y18.2, y18.1.1, y18.1.2.1, y18.1.2.2.1, y18.1.2.2.2.1, y18.1.2.2.2.2.1, y18.1.2.2.2.2.2.1, (Sum.inl ()), (Sum.inr (Sum.inr (Sum.inl ())))))) (either (fun u23 : Unit => (some (y18.2, y18.1.1, y18.1.2.1, y18.1.2.2.1, y18.1.2.2.2.1, y18.1.2.2.2.2.1, y18.1.2.2.2.2.2.1, (Sum.inl ()), (Sum.inr (Sum.inr (Sum.inr (Sum.inl ()))))))) (either (fun u24 : Unit => (some (y18.2, y18.1.1, y18.1.2.1, y18.1.2.2.1, y18.1.2.2.2.1, y18.1.2.2.2.2.1, y18.1.2.2.2.2.2.1, (Sum.inl ()), (Sum.inr (Sum.inr (Sum.inr (Sum.inr (Sum.inl ())))))))) (fun u25 : Unit => (some (y18.2, y18.1.1, y18.1.2.1, y18.1.2.2.1, y18.1.2.2.2.1, y18.1.2.2.2.2.1, y18.1.2.2.2.2.2.1, (Sum.inl ()), (Sum.inr (Sum.inr (Sum.inr (Sum.inr (Sum.inr ()))))))))))))) y18.1.2.2.2.2.2.2.2.1)) (either (fun u26 : Unit => ((either (fun u27 : Unit => (some (y18.2, y18.1.1, y18.1.2.1, y18.1.2.2.1, y18.1.2.2.2.1, y18.1.2.2.2.2.1, y18.1.2.2.2.2.2.1, (Sum.inr (Sum.inl ())), (Sum.inl ())))) (either (fun u28 : Unit => (some (y18.2, y18.1.1, y18.1.2.1, y18.1.2.2.1, y18.1.2.2.2.1, y18.1.2.2.2.2.1, y18.1.2.2.2.2.2.1, (Sum.inr (Sum.inl ())), (Sum.inr (Sum.inl ()))))) (either (fun u29 : Unit => (some (y18.2, y18.1.1, y18.1.2.1, y18.1.2.2.1, y18.1.2.2.2.1, y18.1.2.2.2.2.1, y18.1.2.2.2.2.2.1, (Sum.inr (Sum.inl ())), (Sum.inr (Sum.inr (Sum.inl ())))))) (either (fun u30 : Unit => (some (y18.2, y18.1.1, y18.1.2.1, y18.1.2.2.1, y18.1.2.2.2.1, y18.1.2.2.2.2.1, y18.1.2.2.2.2.2.1, (Sum.inr (Sum.inl ())), (Sum.inr (Sum.inr (Sum.inr (Sum.inl ()))))))) (either (fun u31 : Unit => (some (y18.2, y18.1.1, y18.1.2.1, y18.1.2.2.1, y18.1.2.2.2.1, y18.1.2.2.2.2.1, y18.1.2.2.2.2.2.1, (Sum.inr (Sum.inl ())), (Sum.inr (Sum.inr (Sum.inr (Sum.inr (Sum.inl ())))))))) (fun u32 : Unit => (some (y18.2, y18.1.1, y18.1.2.1, y18.1.2.2.1, y18.1.2.2.2.1, y18.1.2.2.2.2.1, y18.1.2.2.2.2.2.1, (Sum.inr (Sum.inl ())), (Sum.inr (Sum.inr (Sum.inr (Sum.inr (Sum.inr ()))))))))))))) y18.1.2.2.2.2.2.2.2.1)) (either (fun u33 : Unit => ((either (fun u34 : Unit => (some (y18.2, y18.1.1, y18.1.2.1, y18.1.2.2.1, y18.1.2.2.2.1, y18.1.2.2.2.2.1, y18.1.2.2.2.2.2.1, (Sum.inr (Sum.inr (Sum.inl ()))), (Sum.inl ())))) (either (fun u35 : Unit => (some (y18.2, y18.1.1, y18.1.2.1, y18.1.2.2.1, y18.1.2.2.2.1, y18.1.2.2.2.2.1, y18.1.2.2.2.2.2.1, (Sum.inr (Sum.inr (Sum.inl ()))), (Sum.inr (Sum.inl ()))))) (either (fun u36 : Unit => (some (y18.2, y18.1.1, y18.1.2.1, y18.1.2.2.1, y18.1.2.2.2.1, y18.1.2.2.2.2.1, y18.1.2.2.2.2.2.1, (Sum.inr (Sum.inr (Sum.inl ()))), (Sum.inr (Sum.inr (Sum.inl ())))))) (either (fun u37 : Unit => (some (y18.2, y18.1.1, y18.1.2.1, y18.1.2.2.1, y18.1.2.2.2.1, y18.1.2.2.2.2.1, y18.1.2.2.2.2.2.1, (Sum.inr (Sum.inr (Sum.inl ()))), (Sum.inr (Sum.inr (Sum.inr (Sum.inl ()))))))) (either (fun u38 : Unit => (some (y18.2, y18.1.1, y18.1.2.1, y18.1.2.2.1, y18.1.2.2.2.1, y18.1.2.2.2.2.1, y18.1.2.2.2.2.2.1, (Sum.inr (Sum.inr (Sum.inl ()))), (Sum.inr (Sum.inr (Sum.inr (Sum.inr (Sum.inl ())))))))) (fun u39 : Unit => (some (y18.2, y18.1.1, y18.1.2.1, y18.1.2.2.1, y18.1.2.2.2.1, y18.1.2.2.2.2.1, y18.1.2.2.2.2.2.1, (Sum.inr (Sum.inr (Sum.inl ()))), (Sum.inr (Sum.inr (Sum.inr (Sum.inr (Sum.inr ()))))))))))))) y18.1.2.2.2.2.2.2.2.1)) (either (fun u40 : Unit => ((either (fun u41 : Unit => (some (y18.2, y18.1.1, y18.1.2.1, y18.1.2.2.1, y18.1.2.2.2.1, y18.1.2.2.2.2.1, y18.1.2.2.2.2.2.1, (Sum.inr (Sum.inr (Sum.inr (Sum.inl ())))), (Sum.inl ())))) (either (fun u42 : Unit => (some (y18.2, y18.1.1, y18.1.2.1, y18.1.2.2.1, y18.1.2.2.2.1, y18.1.2.2.2.2.1, y18.1.2.2.2.2.2.1, (Sum.inr (Sum.inr (Sum.inr (Sum.inl ())))), (Sum.inr (Sum.inl ()))))) (either (fun u43 : Unit => (some (y18.2, y18.1.1, y18.1.2.1, y18.1.2.2.1, y18.1.2.2.2.1, y18.1.2.2.2.2.1, y18.1.2.2.2.2.2.1, (Sum.inr (Sum.inr (Sum.inr (Sum.inl ())))), (Sum.inr (Sum.inr (Sum.inl ())))))) (either (fun u44 : Unit => (some (y18.2, y18.1.1, y18.1.2.1, y18.1.2.2.1, y18.1.2.2.2.1, y18.1.2.2.2.2.1, y18.1.2.2.2.2.2.1, (Sum.inr (Sum.inr (Sum.inr (Sum.inl ())))), (Sum.inr (Sum.inr (Sum.inr (Sum.inl ()))))))) (either (fun u45 : Unit => (some (y18.2, y18.1.1, y18.1.2.1, y18.1.2.2.1, y18.1.2.2.2.1, y18.1.2.2.2.2.1, y18.1.2.2.2.2.2.1, (Sum.inr (Sum.inr (Sum.inr (Sum.inl ())))), (Sum.inr (Sum.inr (Sum.inr (Sum.inr (Sum.inl ())))))))) (fun u46 : Unit => (some (y18.2, y18.1.1, y18.1.2.1, y18.1.2.2.1, y18.1.2.2.2.1, y18.1.2.2.2.2.1, y18.1.2.2.2.2.2.1, (Sum.inr (Sum.inr (Sum.inr (Sum.inl ())))), (Sum.inr (Sum.inr (Sum.inr (Sum.inr (Sum.inr ()))))))))))))) y18.1.2.2.2.2.2.2.2.1)) (either (fun u47 : Unit => ((either (fun u48 : Unit => (some (y18.2, y18.1.1, y18.1.2.1, y18.1.2.2.1, y18.1.2.2.2.1, y18.1.2.2.2.2.1, y18.1.2.2.2.2.2.1, (Sum.inr (Sum.inr (Sum.inr (Sum.inr (Sum.inl ()))))), (Sum.inl ())))) (either (fun u49 : Unit => (some (y18.2, y18.1.1, y18.1.2.1, y18.1.2.2.1, y18.1.2.2.2.1, y18.1.2.2.2.2.1, y18.1.2.2.2.2.2.1, (Sum.inr (Sum.inr (Sum.inr (Sum.inr (Sum.inl ()))))), (Sum.inr (Sum.inl ()))))) (either (fun u50 : Unit => (some (y18.2, y18.1.1, y18.1.2.1, y18.1.2.2.1, y18.1.2.2.2.1, y18.1.2.2.2.2.1, y18.1.2.2.2.2.2.1, (Sum.inr (Sum.inr (Sum.inr (Sum.inr (Sum.inl ()))))), (Sum.inr (Sum.inr (Sum.inl ())))))) (either (fun u51 : Unit => (some (y18.2, y18.1.1, y18.1.2.1, y18.1.2.2.1, y18.1.2.2.2.1, y18.1.2.2.2.2.1, y18.1.2.2.2.2.2.1, (Sum.inr (Sum.inr (Sum.inr (Sum.inr (Sum.inl ()))))), (Sum.inr (Sum.inr (Sum.inr (Sum.inl ()))))))) (either (fun u52 : Unit => (some (y18.2, y18.1.1, y18.1.2.1, y18.1.2.2.1, y18.1.2.2.2.1, y18.1.2.2.2.2.1, y18.1.2.2.2.2.2.1, (Sum.inr (Sum.inr (Sum.inr (Sum.inr (Sum.inl ()))))), (Sum.inr (Sum.inr (Sum.inr (Sum.inr (Sum.inl ())))))))) (fun u53 : Unit => (some (y18.2, y18.1.1, y18.1.2.1, y18.1.2.2.1, y18.1.2.2.2.1, y18.1.2.2.2.2.1, y18.1.2.2.2.2.2.1, (Sum.inr (Sum.inr (Sum.inr (Sum.inr (Sum.inl ()))))), (Sum.inr (Sum.inr (Sum.inr (Sum.inr (Sum.inr ()))))))))))))) y18.1.2.2.2.2.2.2.2.1)) (either (fun u54 : Unit => ((either (fun u55 : Unit => (some (y18.2, y18.1.1, y18.1.2.1, y18.1.2.2.1, y18.1.2.2.2.1, y18.1.2.2.2.2.1, y18.1.2.2.2.2.2.1, (Sum.inr (Sum.inr (Sum.inr (Sum.inr (Sum.inr (Sum.inl ())))))), (Sum.inl ())))) (either (fun u56 : Unit => (some (y18.2, y18.1.1, y18.1.2.1, y18.1.2.2.1, y18.1.2.2.2.1, y18.1.2.2.2.2.1, y18.1.2.2.2.2.2.1, (Sum.inr (Sum.inr (Sum.inr (Sum.inr (Sum.inr (Sum.inl ())))))), (Sum.inr (Sum.inl ()))))) (either (fun u57 : Unit => (some (y18.2, y18.1.1, y18.1.2.1, y18.1.2.2.1, y18.1.2.2.2.1, y18.1.2.2.2.2.1, y18.1.2.2.2.2.2.1, (Sum.inr (Sum.inr (Sum.inr (Sum.inr (Sum.inr (Sum.inl ())))))), (Sum.inr (Sum.inr (Sum.inl ())))))) (either (fun u58 : Unit => (some (y18.2, y18.1.1, y18.1.2.1, y18.1.2.2.1, y18.1.2.2.2.1, y18.1.2.2.2.2.1, y18.1.2.2.2.2.2.1, (Sum.inr (Sum.inr (Sum.inr (Sum.inr (Sum.inr (Sum.inl ())))))), (Sum.inr (Sum.inr (Sum.inr (Sum.inl ()))))))) (either (fun u59 : Unit => (some (y18.2, y18.1.1, y18.1.2.1, y18.1.2.2.1, y18.1.2.2.2.1, y18.1.2.2.2.2.1, y18.1.2.2.2.2.2.1, (Sum.inr (Sum.inr (Sum.inr (Sum.inr (Sum.inr (Sum.inl ())))))), (Sum.inr (Sum.inr (Sum.inr (Sum.inr (Sum.inl ())))))))) (fun u60 : Unit => (some (y18.2, y18.1.1, y18.1.2.1, y18.1.2.2.1, y18.1.2.2.2.1, y18.1.2.2.2.2.1, y18.1.2.2.2.2.2.1, (Sum.inr (Sum.inr (Sum.inr (Sum.inr (Sum.inr (Sum.inl ())))))), (Sum.inr (Sum.inr (Sum.inr (Sum.inr (Sum.inr ()))))))))))))) y18.1.2.2.2.2.2.2.2.1)) (either (fun u61 : Unit => ((either (fun u62 : Unit => (some (y18.2, y18.1.1, y18.1.2.1, y18.1.2.2.1, y18.1.2.2.2.1, y18.1.2.2.2.2.1, y18.1.2.2.2.2.2.1, (Sum.inr (Sum.inr (Sum.inr (Sum.inr (Sum.inr (Sum.inr (Sum.inl ()))))))), (Sum.inl ())))) (either (fun u63 : Unit => (some (y18.2, y18.1.1, y18.1.2.1, y18.1.2.2.1, y18.1.2.2.2.1, y18.1.2.2.2.2.1, y18.1.2.2.2.2.2.1, (Sum.inr (Sum.inr (Sum.inr (Sum.inr (Sum.inr (Sum.inr (Sum.inl ()))))))), (Sum.inr (Sum.inl ()))))) (either (fun u64 : Unit => (some (y18.2, y18.1.1, y18.1.2.1, y18.1.2.2.1, y18.1.2.2.2.1, y18.1.2.2.2.2.1, y18.1.2.2.2.2.2.1, (Sum.inr (Sum.inr (Sum.inr (Sum.inr (Sum.inr (Sum.inr (Sum.inl ()))))))), (Sum.inr (Sum.inr (Sum.inl ())))))) (either (fun u65 : Unit => (some (y18.2, y18.1.1, y18.1.2.1, y18.1.2.2.1, y18.1.2.2.2.1, y18.1.2.2.2.2.1, y18.1.2.2.2.2.2.1, (Sum.inr (Sum.inr (Sum.inr (Sum.inr (Sum.inr (Sum.inr (Sum.inl ()))))))), (Sum.inr (Sum.inr (Sum.inr (Sum.inl ()))))))) (either (fun u66 : Unit => (some (y18.2, y18.1.1, y18.1.2.1, y18.1.2.2.1, y18.1.2.2.2.1, y18.1.2.2.2.2.1, y18.1.2.2.2.2.2.1, (Sum.inr (Sum.inr (Sum.inr (Sum.inr (Sum.inr (Sum.inr (Sum.inl ()))))))), (Sum.inr (Sum.inr (Sum.inr (Sum.inr (Sum.inl ())))))))) (fun u67 : Unit => (some (y18.2, y18.1.1, y18.1.2.1, y18.1.2.2.1, y18.1.2.2.2.1, y18.1.2.2.2.2.1, y18.1.2.2.2.2.2.1, (Sum.inr (Sum.inr (Sum.inr (Sum.inr (Sum.inr (Sum.inr (Sum.inl ()))))))), (Sum.inr (Sum.inr (Sum.inr (Sum.inr (Sum.inr ()))))))))))))) y18.1.2.2.2.2.2.2.2.1)) (either (fun u68 : Unit => ((either (fun u69 : Unit => (some (y18.2, y18.1.1, y18.1.2.1, y18.1.2.2.1, y18.1.2.2.2.1, y18.1.2.2.2.2.1, y18.1.2.2.2.2.2.1, (Sum.inr (Sum.inr (Sum.inr (Sum.inr (Sum.inr (Sum.inr (Sum.inr (Sum.inl ())))))))), (Sum.inl ())))) (either (fun u70 : Unit => (some (y18.2, y18.1.1, y18.1.2.1, y18.1.2.2.1, y18.1.2.2.2.1, y18.1.2.2.2.2.1, y18.1.2.2.2.2.2.1, (Sum.inr (Sum.inr (Sum.inr (Sum.inr (Sum.inr (Sum.inr (Sum.inr (Sum.inl ())))))))), (Sum.inr (Sum.inl ()))))) (either (fun u71 : Unit => (some (y18.2, y18.1.1, y18.1.2.1, y18.1.2.2.1, y18.1.2.2.2.1, y18.1.2.2.2.2.1, y18.1.2.2.2.2.2.1, (Sum.inr (Sum.inr (Sum.inr (Sum.inr (Sum.inr (Sum.inr (Sum.inr (Sum.inl ())))))))), (Sum.inr (Sum.inr (Sum.inl ())))))) (either (fun u72 : Unit => (some (y18.2, y18.1.1, y18.1.2.1, y18.1.2.2.1, y18.1.2.2.2.1, y18.1.2.2.2.2.1, y18.1.2.2.2.2.2.1, (Sum.inr (Sum.inr (Sum.inr (Sum.inr (Sum.inr (Sum.inr (Sum.inr (Sum.inl ())))))))), (Sum.inr (Sum.inr (Sum.inr (Sum.inl ()))))))) (either (fun u73 : Unit => (some (y18.2, y18.1.1, y18.1.2.1, y18.1.2.2.1, y18.1.2.2.2.1, y18.1.2.2.2.2.1, y18.1.2.2.2.2.2.1, (Sum.inr (Sum.inr (Sum.inr (Sum.inr (Sum.inr (Sum.inr (Sum.inr (Sum.inl ())))))))), (Sum.inr (Sum.inr (Sum.inr (Sum.inr (Sum.inl ())))))))) (fun u74 : Unit => (some (y18.2, y18.1.1, y18.1.2.1, y18.1.2.2.1, y18.1.2.2.2.1, y18.1.2.2.2.2.1, y18.1.2.2.2.2.2.1, (Sum.inr (Sum.inr (Sum.inr (Sum.inr (Sum.inr (Sum.inr (Sum.inr (Sum.inl ())))))))), (Sum.inr (Sum.inr (Sum.inr (Sum.inr (Sum.inr ()))))))))))))) y18.1.2.2.2.2.2.2.2.1)) (fun u75 : Unit => ((either (fun u76 : Unit => (some (y18.2, y18.1.1, y18.1.2.1, y18.1.2.2.1, y18.1.2.2.2.1, y18.1.2.2.2.2.1, y18.1.2.2.2.2.2.1, (Sum.inr (Sum.inr (Sum.inr (Sum.inr (Sum.inr (Sum.inr (Sum.inr (Sum.inr ())))))))), (Sum.inl ())))) (either (fun u77 : Unit => (some (y18.2, y18.1.1, y18.1.2.1, y18.1.2.2.1, y18.1.2.2.2.1, y18.1.2.2.2.2.1, y18.1.2.2.2.2.2.1, (Sum.inr (Sum.inr (Sum.inr (Sum.inr (Sum.inr (Sum.inr (Sum.inr (Sum.inr ())))))))), (Sum.inr (Sum.inl ()))))) (either (fun u78 : Unit => (some (y18.2, y18.1.1, y18.1.2.1, y18.1.2.2.1, y18.1.2.2.2.1, y18.1.2.2.2.2.1, y18.1.2.2.2.2.2.1, (Sum.inr (Sum.inr (Sum.inr (Sum.inr (Sum.inr (Sum.inr (Sum.inr (Sum.inr ())))))))), (Sum.inr (Sum.inr (Sum.inl ())))))) (either (fun u79 : Unit => (some (y18.2, y18.1.1, y18.1.2.1, y18.1.2.2.1, y18.1.2.2.2.1, y18.1.2.2.2.2.1, y18.1.2.2.2.2.2.1, (Sum.inr (Sum.inr (Sum.inr (Sum.inr (Sum.inr (Sum.inr (Sum.inr (Sum.inr ())))))))), (Sum.inr (Sum.inr (Sum.inr (Sum.inl ()))))))) (either (fun u80 : Unit => (some (y18.2, y18.1.1, y18.1.2.1, y18.1.2.2.1, y18.1.2.2.2.1, y18.1.2.2.2.2.1, y18.1.2.2.2.2.2.1, (Sum.inr (Sum.inr (Sum.inr (Sum.inr (Sum.inr (Sum.inr (Sum.inr (Sum.inr ())))))))), (Sum.inr (Sum.inr (Sum.inr (Sum.inr (Sum.inl ())))))))) (fun u81 : Unit => (some (y18.2, y18.1.1, y18.1.2.1, y18.1.2.2.1, y18.1.2.2.2.1, y18.1.2.2.2.2.1, y18.1.2.2.2.2.2.1, (Sum.inr (Sum.inr (Sum.inr (Sum.inr (Sum.inr (Sum.inr (Sum.inr (Sum.inr ())))))))), (Sum.inr (Sum.inr (Sum.inr (Sum.inr (Sum.inr ()))))))))))))) y18.1.2.2.2.2.2.2.2.1)))))))))) y18.1.2.2.2.2.2.2.1)))
abbrev S33_0 : St := ⟨[(1, rl tsI4 in_), (2, rC tsNode n_), (4, rF 0), (6, rF 1), (7, rb y82.1)], [[di 0, di 0, di 0, di 0], [di y82.2.1, db y82.2.2.1, db y82.2.2.2.1, db y82.2.2.2.2.1, db y82.2.2.2.2.2.1, db y82.2.2.2.2.2.2.1, Ps.enc Z1 y82.2.2.2.2.2.2.2.1, Ps.enc Z0 y82.2.2.2.2.2.2.2.2]], [], 90⟩
theorem graph_Value_r1 : P33 2 C33 ⟨[(0, rA tsNode n_), (1, rl tsI4 in_)], [], [], 90⟩ k = Option.bind (graph_Value_r1_p n_) (fun y82 : U5 => k (S33_0 n_ in_ y82)) := .trans (by kernel_rfl) (bind_b fun y18 => ((either_b (fun u19 => ((either_b (fun u20 => some_b) (either_b (fun u21 => some_b) (either_b (fun u22 => some_b) (either_b (fun u23 => some_b) (either_b (fun u24 => some_b) (fun u25 => some_b)))))) y18.1.2.2.2.2.2.2.2.1)) (either_b (fun u26 => ((either_b (fun u27 => some_b) (either_b (fun u28 => some_b) (either_b (fun u29 => some_b) (either_b (fun u30 => some_b) (either_b (fun u31 => some_b) (fun u32 => some_b)))))) y18.1.2.2.2.2.2.2.2.1)) (either_b (fun u33 => ((either_b (fun u34 => some_b) (either_b (fun u35 => some_b) (either_b (fun u36 => some_b) (either_b (fun u37 => some_b) (either_b (fun u38 => some_b) (fun u39 => some_b)))))) y18.1.2.2.2.2.2.2.2.1)) (either_b (fun u40 => ((either_b (fun u41 => some_b) (either_b (fun u42 => some_b) (either_b (fun u43 => some_b) (either_b (fun u44 => some_b) (either_b (fun u45 => some_b) (fun u46 => some_b)))))) y18.1.2.2.2.2.2.2.2.1)) (either_b (fun u47 => ((either_b (fun u48 => some_b) (either_b (fun u49 => some_b) (either_b (fun u50 => some_b) (either_b (fun u51 => some_b) (either_b (fun u52 => some_b) (fun u53 => some_b)))))) y18.1.2.2.2.2.2.2.2.1)) (either_b (fun u54 => ((either_b (fun u55 => some_b) (either_b (fun u56 => some_b) (either_b (fun u57 => some_b) (either_b (fun u58 => some_b) (either_b (fun u59 => some_b) (fun u60 => some_b)))))) y18.1.2.2.2.2.2.2.2.1)) (either_b (fun u61 => ((either_b (fun u62 => some_b) (either_b (fun u63 => some_b) (either_b (fun u64 => some_b) (either_b (fun u65 => some_b) (either_b (fun u66 => some_b) (fun u67 => some_b)))))) y18.1.2.2.2.2.2.2.2.1)) (either_b (fun u68 => ((either_b (fun u69 => some_b) (either_b (fun u70 => some_b) (either_b (fun u71 => some_b) (either_b (fun u72 => some_b) (either_b (fun u73 => some_b) (fun u74 => some_b)))))) y18.1.2.2.2.2.2.2.2.1)) (fun u75 => ((either_b (fun u76 => some_b) (either_b (fun u77 => some_b) (either_b (fun u78 => some_b) (either_b (fun u79 => some_b) (either_b (fun u80 => some_b) (fun u81 => some_b)))))) y18.1.2.2.2.2.2.2.2.1)))))))))) y18.1.2.2.2.2.2.2.1))
def graph_Value_r2_q (K : Bool → β) : β := (bif (!y82.1) then (K true) else (K (!(graph_kind_may y82.2.1 y82.2.2.1 y82.2.2.2.1 y82.2.2.2.2.1 y82.2.2.2.2.2.1 y82.2.2.2.2.2.2.1 y82.2.2.2.2.2.2.2.1 y82.2.2.2.2.2.2.2.2 n_ in_))))
def graph_Value_r2_p : Bool := graph_Value_r2_q n_ in_ y82 (fun y => y)
theorem graph_Value_r2_n (K : Bool → β) : graph_Value_r2_q n_ in_ y82 K = K (graph_Value_r2_p n_ in_ y82) := (bif_k K rfl rfl)
theorem graph_Value_r2 : P33 1 C33.r.r.l (S33_0 n_ in_ y82) k = k ⟨[(1, rl tsI4 in_), (2, rC tsNode n_), (4, rF 0), (6, rF 1), (25, rb (graph_Value_r2_p n_ in_ y82))], [[di 0, di 0, di 0, di 0], [di y82.2.1, db y82.2.2.1, db y82.2.2.2.1, db y82.2.2.2.2.1, db y82.2.2.2.2.2.1, db y82.2.2.2.2.2.2.1, Ps.enc Z1 y82.2.2.2.2.2.2.2.1, Ps.enc Z0 y82.2.2.2.2.2.2.2.2]], [], 90⟩ := Eq.trans (by (rcases y82 with ⟨_, _, _, _, _, _, _, (_ | _ | _ | _ | _ | _ | _ | _ | _), (_ | _ | _ | _ | _ | _)⟩ <;> kernel_rfl)) (graph_Value_r2_n n_ in_ y82 (fun y97 : Bool => k ⟨[(1, rl tsI4 in_), (2, rC tsNode n_), (4, rF 0), (6, rF 1), (25, rb y97)], [[di 0, di 0, di 0, di 0], [di y82.2.1, db y82.2.2.1, db y82.2.2.2.1, db y82.2.2.2.2.1, db y82.2.2.2.2.2.1, db y82.2.2.2.2.2.2.1, Ps.enc Z1 y82.2.2.2.2.2.2.2.1, Ps.enc Z0 y82.2.2.2.2.2.2.2.2]], [], 90⟩))
abbrev S33_1 : St := ⟨[(1, rl tsI4 in_), (2, rC tsNode n_), (4, rF 0), (6, rF 1)], [[di 0, di 0, di 0, di 0], [di y82.2.1, db y82.2.2.1, db y82.2.2.2.1, db y82.2.2.2.2.1, db y82.2.2.2.2.2.1, db y82.2.2.2.2.2.2.1, Ps.enc Z1 y82.2.2.2.2.2.2.2.1, Ps.enc Z0 y82.2.2.2.2.2.2.2.2]], [], 90⟩
abbrev S33_2 : St := ⟨[(4, rF 0), (5, ri 11)], [[di 0, di 0, di 0, di 0], []], [], 90⟩
theorem graph_Value_fz : P33 1 C33.r.r.l.r.t (S33_1 n_ in_ y82) k = k S33_2 := by (rcases y82 with ⟨_, _, _, _, _, _, _, (_ | _ | _ | _ | _ | _ | _ | _ | _), (_ | _ | _ | _ | _ | _)⟩ <;> kernel_rfl)
def graph_Value_r4_p : Option Bool := (bif y82.2.2.2.2.2.2.1 then (Option.bind (slices_ContainsFuncapi_Value_api_Value in_ n_) (fun y117 : Bool => (some y117))) else (some false))
theorem graph_Value_r4 : P33 1 C33.r.r.r.l (S33_1 n_ in_ y82) k = Option.bind (graph_Value_r4_p n_ in_ y82) (fun y118 : Bool => k ⟨[(1, rl tsI4 in_), (2, rC tsNode n_), (4, rF 0), (6, rF 1), (33, rb y118)], [[di 0, di 0, di 0, di 0], [di y82.2.1, db y82.2.2.1, db y82.2.2.2.1, db y82.2.2.2.2.1, db y82.2.2.2.2.2.1, db y82.2.2.2.2.2.2.1, Ps.enc Z1 y82.2.2.2.2.2.2.2.1, Ps.enc Z0 y82.2.2.2.2.2.2.2.2]], [], 90⟩) := .trans (by (rcases y82 with ⟨_, _, _, _, _, _, _, (_ | _ | _ | _ | _ | _ | _ | _ | _), (_ | _ | _ | _ | _ | _)⟩ <;> kernel_rfl)) (bif_b (bind_b fun y117 => some_b) some_b)
theorem graph_Value_fzx1 : P33 1 C33.r.r.r.l.r.t (S33_1 n_ in_ y82) k = k S33_2 := by (rcases y82 with ⟨_, _, _, _, _, _, _, (_ | _ | _ | _ | _ | _ | _ | _ | _), (_ | _ | _ | _ | _ | _)⟩ <;> kernel_rfl)
theorem graph_Value_r6 : P33 1 C33.r.r.r.r.l (S33_1 n_ in_ y82) k = Option.bind (slices_ContainsFuncapi_Value_api_Value_s2 in_) fun y175 : Bool => k ⟨[(1, rl tsI4 in_), (2, rC tsNode n_), (4, rF 0), (6, rF 1), (36, rb y175)], [[di 0, di 0, di 0, di 0], [di y82.2.1, db y82.2.2.1, db y82.2.2.2.1, db y82.2.2.2.2.1, db y82.2.2.2.2.2.1, db y82.2.2.2.2.2.2.1, Ps.enc Z1 y82.2.2.2.2.2.2.2.1, Ps.enc Z0 y82.2.2.2.2.2.2.2.2]], [], 90⟩ := by (rcases y82 with ⟨_, _, _, _, _, _, _, (_ | _ | _ | _ | _ | _ | _ | _ | _), (_ | _ | _ | _ | _ | _)⟩ <;> kernel_rfl)
theorem graph_Value_fzx2 : P33 1 C33.r.r.r.r.l.r.t (S33_1 n_ in_ y82) k = k ⟨[(4, rF 0), (5, ri 10)], [[di 0, di 0, di 0, di 0], []], [], 90⟩ := by (rcases y82 with ⟨_, _, _, _, _, _, _, (_ | _ | _ | _ | _ | _ | _ | _ | _), (_ | _ | _ | _ | _ | _)⟩ <;> kernel_rfl)
def graph_Value_r8_p : Option (Int × Int × Int) := (bif (decide ((0 : Int) < (in_.length : Int))) then (bif (decide ((0 : Int) ≤ (IntKind.wrap .i64 ((in_.length : Int) - 1)))) then (bif (decide ((IntKind.wrap .i64 ((in_.length : Int) - 1)) < (in_.length : Int))) then ((either (fun u176 : Unit => (some (graph_first n_ ((gt in_ (0 : Int) dI4).1, (gt in_ (0 : Int) dI4).2.1, (gt in_ (0 : Int) dI4).2.2.1) ((gt in_ (IntKind.wrap .i64 ((in_.length : Int) - 1)) dI4).1, (gt in_ (IntKind.wrap .i64 ((in_.length : Int) - 1)) dI4).2.1, (gt in_ (IntKind.wrap .i64 ((in_.length : Int) - 1)) dI4).2.2.1)))) (either (fun u177 : Unit => (Option.bind (graph_of_1 n_ ((gt in_ (0 : Int) dI4).1, (gt in_ (0 : Int) dI4).2.1, (gt in_ (0 : Int) dI4).2.2.1) ((gt in_ (IntKind.wrap .i64 ((in_.length : Int) - 1)) dI4).1, (gt in_ (IntKind.wrap .i64 ((in_.length : Int) - 1)) dI4).2.1, (gt in_ (IntKind.wrap .i64 ((in_.length : Int) - 1)) dI4).2.2.1)) (fun y191 : I3 => (some y191)))) (either (fun u192 : Unit => (Option.bind (graph_pooled n_ ((gt in_ (0 : Int) dI4).1, (gt in_ (0 : Int) dI4).2.1, (gt in_ (0 : Int) dI4).2.2.1) ((gt in_ (IntKind.wrap .i64 ((in_.length : Int) - 1)) dI4).1, (gt in_ (IntKind.wrap .i64 ((in_.length : Int) - 1)) dI4).2.1, (gt in_ (IntKind.wrap .i64 ((in_.length : Int) - 1)) dI4).2.2.1)) (fun y194 : I3 => (some y194)))) (either (fun u195 : Unit => (some (graph_of_4 n_ ((gt in_ (0 : Int) dI4).1, (gt in_ (0 : Int) dI4).2.1, (gt in_ (0 : Int) dI4).2.2.1) ((gt in_ (IntKind.wrap .i64 ((in_.length : Int) - 1)) dI4).1, (gt in_ (IntKind.wrap .i64 ((in_.length : Int) - 1)) dI4).2.1, (gt in_ (IntKind.wrap .i64 ((in_.length : Int) - 1)) dI4).2.2.1)))) (either (fun u196 : Unit => (some (graph_same n_ ((gt in_ (0 : Int) dI4).1, (gt in_ (0 : Int) dI4).2.1, (gt in_ (0 : Int) dI4).2.2.1) ((gt in_ (IntKind.wrap .i64 ((in_.length : Int) - 1)) dI4).1, (gt in_ (IntKind.wrap .i64 ((in_.length : Int) - 1)) dI4).2.1, (gt in_ (IntKind.wrap .i64 ((in_.length : Int) - 1)) dI4).2.2.1)))) (either (fun u197 : Unit => (some (graph_of_6 n_ ((gt in_ (0 : Int) dI4).1, (gt in_ (0 : Int) dI4).2.1, (gt in_ (0 : Int) dI4).2.2.1) ((gt in_ (IntKind.wrap .i64 ((in_.length : Int) - 1)) dI4).1, (gt in_ (IntKind.wrap .i64 ((in_.length : Int) - 1)) dI4).2.1, (gt in_ (IntKind.wrap .i64 ((in_.length : Int) - 1)) dI4).2.2.1)))) (either (fun u198 : Unit => (some (graph_beside n_ ((gt in_ (0 : Int) dI4).1, (gt in_ (0 : Int) dI4).2.1, (gt in_ (0 : Int) dI4).2.2.1) ((gt in_ (IntKind.wrap .i64 ((in_.length : Int) - 1)) dI4).1, (gt in_ (IntKind.wrap .i64 ((in_.length : Int) - 1)) dI4).2.1, (gt in_ (IntKind.wrap .i64 ((in_.length : Int) - 1)) dI4).2.2.1)))) (either (fun u201 : Unit => (Option.bind (graph_anew n_ ((gt in_ (0 : Int) dI4).1, (gt in_ (0 : Int) dI4).2.1, (gt in_ (0 : Int) dI4).2.2.1) ((gt in_ (IntKind.wrap .i64 ((in_.length : Int) - 1)) dI4).1, (gt in_ (IntKind.wrap .i64 ((in_.length : Int) - 1)) dI4).2.1, (gt in_ (IntKind.wrap .i64 ((in_.length : Int) - 1)) dI4).2.2.1)) (fun y211 : I3 => (some y211)))) (fun u212 : Unit => none))))))))) y82.2.2.2.2.2.2.2.1) else none) else none) else none)
abbrev S33_3 : St := ⟨[(1, rl tsI4 in_), (2, rC tsNode n_), (4, rF 0), (6, rF 1), (8, rF 2)], [[di 0, di 0, di 0, di 0], [di y82.2.1, db y82.2.2.1, db y82.2.2.2.1, db y82.2.2.2.2.1, db y82.2.2.2.2.2.1, db y82.2.2.2.2.2.2.1, Ps.enc Z1 y82.2.2.2.2.2.2.2.1, Ps.enc Z0 y82.2.2.2.2.2.2.2.2], (tsI3.leaves y213)], [], 90⟩
theorem graph_Value_r8 : P33 1 C33.r.r.r.r.r (S33_1 n_ in_ y82) k = Option.bind (graph_Value_r8_p n_ in_ y82) (fun y213 : (Int × Int × Int) => k (S33_3 n_ in_ y82 y213)) := .trans (by (rcases y82 with ⟨_, _, _, _, _, _, _, (_ | _ | _ | _ | _ | _ | _ | _ | _), (_ | _ | _ | _ | _ | _)⟩ <;> kernel_rfl)) (bif_b (bif_b (bif_b ((either_b (fun u176 => some_b) (either_b (fun u177 => (bind_b fun y191 => some_b)) (either_b (fun u192 => (bind_b fun y194 => some_b)) (either_b (fun u195 => some_b) (either_b (fun u196 => some_b) (either_b (fun u197 => some_b) (either_b (fun u198 => some_b) (either_b (fun u201 => (bind_b fun y211 => some_b)) (fun u212 => none_b))))))))) y82.2.2.2.2.2.2.2.1) none_b) none_b) none_b)
theorem graph_Value_r9 : P33 1 C33.r.r.r.r.r.r.l (S33_3 n_ in_ y82 y213) k = Option.bind (shape_May y213) fun y215 : Int => k ⟨[(1, rl tsI4 in_), (2, rC tsNode n_), (4, rF 0), (6, rF 1), (8, rF 2), (55, rb (y215 != 0))], [[di 0, di 0, di 0, di 0], [di y82.2.1, db y82.2.2.1, db y82.2.2.2.1, db y82.2.2.2.2.1, db y82.2.2.2.2.2.1, db y82.2.2.2.2.2.2.1, Ps.enc Z1 y82.2.2.2.2.2.2.2.1, Ps.enc Z0 y82.2.2.2.2.2.2.2.2], (tsI3.leaves y213)], [], 90⟩ := by (rcases y82 with ⟨_, _, _, _, _, _, _, (_ | _ | _ | _ | _ | _ | _ | _ | _), (_ | _ | _ | _ | _ | _)⟩ <;> kernel_rfl)
theorem graph_Value_fzx3 : P33 1 C33.r.r.r.r.r.r.l.r.t (S33_3 n_ in_ y82 y213) k = k ⟨[(4, rF 0), (5, ri 10)], [[di 0, di 0, di 0, di 0], [], []], [], 90⟩ := by (rcases y82 with ⟨_, _, _, _, _, _, _, (_ | _ | _ | _ | _ | _ | _ | _ | _), (_ | _ | _ | _ | _ | _)⟩ <;> kernel_rfl)
def graph_Value_r11_p : Option (Int × Int) := (bif (decide ((0 : Int) < (in_.length : Int))) then ((either (fun u216 : Unit => (some (graph_bare n_ ((gt in_ (0 : Int) dI4).1, (gt in_ (0 : Int) dI4).2.1, (gt in_ (0 : Int) dI4).2.2.1)))) (either (fun u217 : Unit => (some (graph_of_2 n_ ((gt in_ (0 : Int) dI4).1, (gt in_ (0 : Int) dI4).2.1, (gt in_ (0 : Int) dI4).2.2.1)))) (either (fun u219 : Unit => (some (graph_of_3 n_ ((gt in_ (0 : Int) dI4).1, (gt in_ (0 : Int) dI4).2.1, (gt in_ (0 : Int) dI4).2.2.1)))) (either (fun u220 : Unit => (Option.bind (graph_of_5 n_ ((gt in_ (0 : Int) dI4).1, (gt in_ (0 : Int) dI4).2.1, (gt in_ (0 : Int) dI4).2.2.1)) (fun y222 : (Int × Int) => (some y222)))) (either (fun u223 : Unit => (some (graph_of_7 n_ ((gt in_ (0 : Int) dI4).1, (gt in_ (0 : Int) dI4).2.1, (gt in_ (0 : Int) dI4).2.2.1)))) (fun u224 : Unit => none)))))) y82.2.2.2.2.2.2.2.2) else none)
abbrev S33_4 : St := ⟨[(2, rC tsNode n_), (4, rF 0), (8, rF 2), (9, ri y225.1), (10, ri y225.2)], [[di 0, di 0, di 0, di 0], [], (tsI3.leaves y213)], [], 90⟩
theorem graph_Value_r11 : P33 1 C33.r.r.r.r.r.r.r (S33_3 n_ in_ y82 y213) k = Option.bind (graph_Value_r11_p n_ in_ y82) (fun y225 : (Int × Int) => k (S33_4 n_ y213 y225)) := .trans (by (rcases y82 with ⟨_, _, _, _, _, _, _, (_ | _ | _ | _ | _ | _ | _ | _ | _), (_ | _ | _ | _ | _ | _)⟩ <;> kernel_rfl)) (bif_b ((either_b (fun u216 => some_b) (either_b (fun u217 => some_b) (either_b (fun u219 => some_b) (either_b (fun u220 => (bind_b fun y222 => some_b)) (either_b (fun u223 => some_b) (fun u224 => none_b)))))) y82.2.2.2.2.2.2.2.2) none_b)
def graph_Value_r12_p : Option Bool := (bif ((n_.2.2.2.2.2.2.2.2.2.2.2.2.1.length : Int) != y225.1) then (some true) else (bif ((n_.2.2.2.2.2.2.2.2.2.2.2.2.2.length : Int) != y225.2) then (some true) else (Option.bind (slices_ContainsFuncint32_int32 n_.2.2.2.2.2.2.2.2.2.2.2.2.2) (fun y245 : Bool => (some y245)))))
theorem graph_Value_r12 : P33 1 C33.r.r.r.r.r.r.r.r.l (S33_4 n_ y213 y225) k = Option.bind (graph_Value_r12_p n_ y225) (fun y246 : Bool => k ⟨[(2, rC tsNode n_), (4, rF 0), (8, rF 2), (84, rb y246)], [[di 0, di 0, di 0, di 0], [], (tsI3.leaves y213)], [], 90⟩) := .trans (by kernel_rfl) (bif_b some_b (bif_b some_b (bind_b fun y245 => some_b)))
abbrev S33_5 : St := ⟨[(2, rC tsNode n_), (4, rF 0), (8, rF 2)], [[di 0, di 0, di 0, di 0], [], (tsI3.leaves y213)], [], 90⟩
theorem graph_Value_fzx4 : P33 1 C33.r.r.r.r.r.r.r.r.l.r.t (S33_5 n_ y213) k = k ⟨[(4, rF 0), (5, ri 12)], [[di 0, di 0, di 0, di 0], [], []], [], 90⟩ := by kernel_rfl
theorem graph_Value_fzx5 : P33 1 C33.r.r.r.r.r.r.r.r.r (S33_5 n_ y213) k = k ⟨[(4, rF 0), (5, ri 0)], [[di y213.1, di y213.2.1, di y213.2.2, di n_.2.2.2.2.2.2.2.2.1], [], []], [], 90⟩ := by kernel_rfl
/-- quilt/graph.Value -/
def graph_Value : Option (I4 × Int) := (Option.bind (graph_Value_r1_p n_) (fun y82 : U5 => (bif (graph_Value_r2_p n_ in_ y82) then (some (((0 : Int), (0 : Int), (0 : Int), (0 : Int)), (11 : Int))) else (Option.bind (graph_Value_r4_p n_ in_ y82) (fun y118 : Bool => (bif y118 then (some (((0 : Int), (0 : Int), (0 : Int), (0 : Int)), (11 : Int))) else (Option.bind (slices_ContainsFuncapi_Value_api_Value_s2 in_) (fun y175 : Bool => (bif y175 then (some (((0 : Int), (0 : Int), (0 : Int), (0 : Int)), (10 : Int))) else (Option.bind (graph_Value_r8_p n_ in_ y82) (fun y213 : (Int × Int × Int) => (Option.bind (shape_May y213) (fun y215 : Int => (bif (y215 != 0) then (some (((0 : Int), (0 : Int), (0 : Int), (0 : Int)), (10 : Int))) else (Option.bind (graph_Value_r11_p n_ in_ y82) (fun y225 : (Int × Int) => (Option.bind (graph_Value_r12_p n_ y225) (fun y246 : Bool => (bif y246 then (some (((0 : Int), (0 : Int), (0 : Int), (0 : Int)), (12 : Int))) else (some ((y213.1, y213.2.1, y213.2.2, n_.2.2.2.2.2.2.2.2.1), (0 : Int))))))))))))))))))))))
theorem graph_Value_is : stepS E cp33 noE 11 [rA tsNode n_, rl tsI4 in_] = Option.bind (graph_Value n_ in_) (fun y : (I4 × Int) => some (.tup [rA tsI4 y.1, ri y.2] : R)) := by
  refine .trans ?_ (bind_b fun y82 => (bif_b some_b (bind_b fun y118 => (bif_b some_b (bind_b fun y175 => (bif_b some_b (bind_b fun y213 => (bind_b fun y215 => (bif_b some_b (bind_b fun y225 => (bind_b fun y246 => (bif_b some_b some_b))))))))))))
  refine (stepG_is (nt := 90) (regs := [(0, rA tsNode n_), (1, rl tsI4 in_)])).trans ?_
  refine (pre2 (graph_Value_r1 n_ in_ _)).trans (bind_g fun y82 => ?_)
  refine .trans seq_push ?_
  refine (pre1 (graph_Value_r2 n_ in_ y82 _)).trans ?_
  refine (cond_e (b := (graph_Value_r2_p n_ in_ y82)) (st' := (S33_1 n_ in_ y82)) (hs := by (rcases y82 with ⟨_, _, _, _, _, _, _, (_ | _ | _ | _ | _ | _ | _ | _ | _), (_ | _ | _ | _ | _ | _)⟩ <;> kernel_rfl))).trans (bif_g ?_ ?_)
  · refine (pre1 (graph_Value_fz n_ in_ y82 _)).trans ?_
    refine (ret_eq).trans ?_
    refine seqC_ret.trans ?_
    (rcases y82 with ⟨_, _, _, _, _, _, _, (_ | _ | _ | _ | _ | _ | _ | _ | _), (_ | _ | _ | _ | _ | _)⟩ <;> kernel_rfl)
  · refine (skip_eq).trans ?_
    refine (seqC_normal (st' := (S33_1 n_ in_ y82)) (hs := by (rcases y82 with ⟨_, _, _, _, _, _, _, (_ | _ | _ | _ | _ | _ | _ | _ | _), (_ | _ | _ | _ | _ | _)⟩ <;> kernel_rfl))).trans ?_
    refine .trans seq_push ?_
    refine (pre1 (graph_Value_r4 n_ in_ y82 _)).trans (bind_g fun y118 => ?_)
    refine (cond_e (b := y118) (st' := (S33_1 n_ in_ y82)) (hs := by (rcases y82 with ⟨_, _, _, _, _, _, _, (_ | _ | _ | _ | _ | _ | _ | _ | _), (_ | _ | _ | _ | _ | _)⟩ <;> kernel_rfl))).trans (bif_g ?_ ?_)
    · refine (pre1 (graph_Value_fzx1 n_ in_ y82 _)).trans ?_
      refine (ret_eq).trans ?_
      refine seqC_ret.trans ?_
      (rcases y82 with ⟨_, _, _, _, _, _, _, (_ | _ | _ | _ | _ | _ | _ | _ | _), (_ | _ | _ | _ | _ | _)⟩ <;> kernel_rfl)
    · refine (skip_eq).trans ?_
      refine (seqC_normal (st' := (S33_1 n_ in_ y82)) (hs := by (rcases y82 with ⟨_, _, _, _, _, _, _, (_ | _ | _ | _ | _ | _ | _ | _ | _), (_ | _ | _ | _ | _ | _)⟩ <;> kernel_rfl))).trans ?_
      refine .trans seq_push ?_
      refine (pre1 (graph_Value_r6 n_ in_ y82 _)).trans (bind_g fun y175 => ?_)
      refine (cond_e (b := y175) (st' := (S33_1 n_ in_ y82)) (hs := by (rcases y82 with ⟨_, _, _, _, _, _, _, (_ | _ | _ | _ | _ | _ | _ | _ | _), (_ | _ | _ | _ | _ | _)⟩ <;> kernel_rfl))).trans (bif_g ?_ ?_)
      · refine (pre1 (graph_Value_fzx2 n_ in_ y82 _)).trans ?_
        refine (ret_eq).trans ?_
        refine seqC_ret.trans ?_
        (rcases y82 with ⟨_, _, _, _, _, _, _, (_ | _ | _ | _ | _ | _ | _ | _ | _), (_ | _ | _ | _ | _ | _)⟩ <;> kernel_rfl)
      · refine (skip_eq).trans ?_
        refine (seqC_normal (st' := (S33_1 n_ in_ y82)) (hs := by (rcases y82 with ⟨_, _, _, _, _, _, _, (_ | _ | _ | _ | _ | _ | _ | _ | _), (_ | _ | _ | _ | _ | _)⟩ <;> kernel_rfl))).trans ?_
        refine (pre1 (graph_Value_r8 n_ in_ y82 _)).trans (bind_g fun y213 => ?_)
        refine .trans seq_push ?_
        refine (pre1 (graph_Value_r9 n_ in_ y82 y213 _)).trans (bind_g fun y215 => ?_)
        refine (cond_e (b := (y215 != 0)) (st' := (S33_3 n_ in_ y82 y213)) (hs := by (rcases y82 with ⟨_, _, _, _, _, _, _, (_ | _ | _ | _ | _ | _ | _ | _ | _), (_ | _ | _ | _ | _ | _)⟩ <;> kernel_rfl))).trans (bif_g ?_ ?_)
        · refine (pre1 (graph_Value_fzx3 n_ in_ y82 y213 _)).trans ?_
          refine (ret_eq).trans ?_
          refine seqC_ret.trans ?_
          (rcases y82 with ⟨_, _, _, _, _, _, _, (_ | _ | _ | _ | _ | _ | _ | _ | _), (_ | _ | _ | _ | _ | _)⟩ <;> kernel_rfl)
        · refine (skip_eq).trans ?_
          refine (seqC_normal (st' := (S33_3 n_ in_ y82 y213)) (hs := by (rcases y82 with ⟨_, _, _, _, _, _, _, (_ | _ | _ | _ | _ | _ | _ | _ | _), (_ | _ | _ | _ | _ | _)⟩ <;> kernel_rfl))).trans ?_
          refine (pre1 (graph_Value_r11 n_ in_ y82 y213 _)).trans (bind_g fun y225 => ?_)
          refine .trans seq_push ?_
          refine (pre1 (graph_Value_r12 n_ y213 y225 _)).trans (bind_g fun y246 => ?_)
          refine (cond_e (b := y246) (st' := (S33_5 n_ y213)) (hs := by (rcases y82 with ⟨_, _, _, _, _, _, _, (_ | _ | _ | _ | _ | _ | _ | _ | _), (_ | _ | _ | _ | _ | _)⟩ <;> kernel_rfl))).trans (bif_g ?_ ?_)
          · refine (pre1 (graph_Value_fzx4 n_ y213 _)).trans ?_
            refine (ret_eq).trans ?_
            refine seqC_ret.trans ?_
            (rcases y82 with ⟨_, _, _, _, _, _, _, (_ | _ | _ | _ | _ | _ | _ | _ | _), (_ | _ | _ | _ | _ | _)⟩ <;> kernel_rfl)
          · refine (skip_eq).trans ?_
            refine (seqC_normal (st' := (S33_5 n_ y213)) (hs := by (rcases y82 with ⟨_, _, _, _, _, _, _, (_ | _ | _ | _ | _ | _ | _ | _ | _), (_ | _ | _ | _ | _ | _)⟩ <;> kernel_rfl))).trans ?_
            refine (pre1 (graph_Value_fzx5 n_ y213 _)).trans ?_
            refine (ret_eq).trans ?_
            (rcases y82 with ⟨_, _, _, _, _, _, _, (_ | _ | _ | _ | _ | _ | _ | _ | _), (_ | _ | _ | _ | _ | _)⟩ <;> kernel_rfl)
noncomputable def cp34 : CallP := withC cp33 11 [(.agg tsNode), (pL tsI4)] (.tup [(.agg tsI4), pI]) (fun y : (I4 × Int) => (y.1, y.2, ())) (fun x => graph_Value x.1 x.2.1)
theorem cp34_ok : PureOK E cp34 := conS eok cp33_ok noE_ok fun x => Eq.mp (by kernel_rfl) (graph_Value_is x.1 x.2.1)
end
noncomputable abbrev C34 := codeOf E.P 10
noncomputable abbrev P34 {α : Type} := @preK α E 10 cp34 noE
abbrev S34_0 (y247 : (I4 × Int)) : St := ⟨[(1, rF 0), (2, ri y247.2)], [(tsI4.leaves y247.1)], [], 19⟩
theorem law03_shown_r1 {α : Type} (k : St → Option α) : P34 2 C34 ⟨[], [], [], 19⟩ k = Option.bind (graph_Value ((4 : Int), [], (2 : Int), (2 : Int), (0 : Int), (0 : Int), (1 : Int), (0 : Int), (0 : Int), (0 : Int), (0 : Int), (0 : Int), [], []) [((5 : Int), (4 : Int), (3 : Int), (0 : Int))]) fun y247 : (I4 × Int) => k (S34_0 y247) := by kernel_rfl
def law03_shown_r2_q {β : Type} (y247 : (I4 × Int)) (K : Bool → β) : β := (bif ((y247.1.1 == 2) && ((y247.1.2.1 == 2) && ((y247.1.2.2.1 == 3) && true))) then (K (y247.2 == 0)) else (K false))
def law03_shown_r2_p (y247 : (I4 × Int)) : Bool := law03_shown_r2_q y247 (fun y => y)
theorem law03_shown_r2_n {β : Type} (y247 : (I4 × Int)) (K : Bool → β) : law03_shown_r2_q y247 K = K (law03_shown_r2_p y247) := (bif_k K rfl rfl)
theorem law03_shown_r2 {α : Type} (y247 : (I4 × Int)) (k : St → Option α) : P34 1 C34.r.r (S34_0 y247) k = k ⟨[(0, rb (law03_shown_r2_p y247))], [[]], [], 19⟩ := Eq.trans (by kernel_rfl) (law03_shown_r2_n y247 (fun y248 : Bool => k ⟨[(0, rb y248)], [[]], [], 19⟩))
/-- quilt/quiltlaw03.shown -/
def law03_shown : Option Bool := (Option.bind (graph_Value ((4 : Int), [], (2 : Int), (2 : Int), (0 : Int), (0 : Int), (1 : Int), (0 : Int), (0 : Int), (0 : Int), (0 : Int), (0 : Int), [], []) [((5 : Int), (4 : Int), (3 : Int), (0 : Int))]) (fun y247 : (I4 × Int) => (some (law03_shown_r2_p y247))))
theorem law03_shown_is : stepS E cp34 noE 10 [] = Option.bind (law03_shown) (fun y : Bool => some (rb y : R)) := by
  refine .trans ?_ (bind_b fun y247 => some_b)
  refine (stepG_is (nt := 19) (regs := [])).trans ?_
  refine (pre2 (law03_shown_r1 _)).trans (bind_g fun y247 => ?_)
  refine (pre1 (law03_shown_r2 y247 _)).trans ?_
  refine (ret_eq).trans ?_
  kernel_rfl
noncomputable def cp35 : CallP := withC cp34 10 [] (.one pB) (fun y : Bool => y) (fun x => law03_shown)
theorem cp35_ok : PureOK E cp35 := conS eok cp34_ok noE_ok fun x => Eq.mp (by kernel_rfl) (law03_shown_is)
/-- slices.Clone -/
def slices_Cloneapi_Value_api_Value (s_ : (List I4)) : Option (List I4) := bif s_.isEmpty then some [] else bif decide (([] : (List I4)).length + s_.length ≤ maxL) then some ([] ++ s_) else none
theorem slices_Cloneapi_Value_api_Value_is (s_ : (List I4)) : stepO E cp35 noE 69 [.one (dl tsI4 s_)] = Option.bind (slices_Cloneapi_Value_api_Value s_) (fun y : (List I4) => some (.one (.ow tsI4 y (.s 0)))) := by
  cases s_ with
  | nil =>
    have h : stepO E cp35 noE 69 [.one (dl tsI4 [])] = both (some (.one (.ow tsI4 [] (.s 0)))) (some (.one (.ow tsI4 [] (.s 0)))) := by kernel_rfl
    exact h.trans (if_pos rfl)
  | cons x l =>
    have h : stepO E cp35 noE 69 [.one (dl tsI4 (x :: l))] = bif decide (([] : (List I4)).length + (x :: l).length ≤ maxL) then some (.one (.ow tsI4 ([] ++ (x :: l)) (.s 0))) else none := by kernel_rfl
    refine h.trans ?_
    show _ = Option.bind (bif decide (([] : (List I4)).length + (x :: l).length ≤ maxL) then some ([] ++ (x :: l)) else none) _
    cases decide (([] : (List I4)).length + (x :: l).length ≤ maxL) <;> rfl
theorem slices_Cloneapi_Value_api_Value_c (x : denL [(.one (.g (.sl tsI4)))]) : stepO E cp35 noE 69 (encL [(.one (.g (.sl tsI4)))] x) = (slices_Cloneapi_Value_api_Value x.1).bind fun y => some (Po.enc (.one (.one (.ow tsI4))) y) := Eq.mp (by kernel_rfl) (slices_Cloneapi_Value_api_Value_is x.1)
noncomputable def cp36 : CallP := withC cp35 69 [(.one (.g (.sl tsI4)))] (.one (.one (.ow tsI4))) (fun y => y) (fun x => slices_Cloneapi_Value_api_Value x.1)
theorem cp36_ok : PureOK E cp36 := withC_ok cp35_ok (stepO_ok eok cp35_ok noE_ok) fun x => con_of (enc := fun y => Po.enc (.one (.one (.ow tsI4))) y) (slices_Cloneapi_Value_api_Value_c x)
section
variable {α β : Type} (g_ : Graph) (s312 : Int) (k : St → Option α) (q : Kont α)
noncomputable abbrev C36 := codeOf E.P 45
noncomputable abbrev P36 := @preK α E 45 cp36 noE
noncomputable abbrev R36 := @runCode α E 45 cp36 noE
abbrev S36_0 : St := ⟨[(1, rC tsGraph g_)], [], [], 55⟩
theorem graph_goesIn_f1 : P36 1 C36 ⟨[(0, rA tsGraph g_)], [], [], 55⟩ k = k (S36_0 g_) := by kernel_rfl
def graph_goesIn_r1_q (K : Bool → β) : β := (bif (decide ((g_.1.length : Int) > 4)) then (K true) else (bif (decide ((g_.2.1.length : Int) > 12)) then (K true) else (K (decide ((g_.2.2.length : Int) > 4)))))
def graph_goesIn_r1_p : Bool := graph_goesIn_r1_q g_ (fun y => y)
theorem graph_goesIn_r1_n (K : Bool → β) : graph_goesIn_r1_q g_ K = K (graph_goesIn_r1_p g_) := (bif_k K rfl (bif_k K rfl rfl))
theorem graph_goesIn_r1 : P36 1 C36.r.l.b (S36_0 g_) k = k ⟨[(1, rC tsGraph g_), (6, rb (graph_goesIn_r1_p g_))], [], [], 55⟩ := Eq.trans (by kernel_rfl) (graph_goesIn_r1_n g_ (fun y293 : Bool => k ⟨[(1, rC tsGraph g_), (6, rb y293)], [], [], 55⟩))
theorem graph_goesIn_fz : P36 1 C36.r.l.b.r.t (S36_0 g_) k = k ⟨[(2, .one (.ow tsI4 [] (.v 2))), (3, ri 3)], [], [], 55⟩ := by kernel_rfl
def graph_goesIn_r3_q (K : Bool → β) : β := (bif ((g_.1.length : Int) == 0) then (K true) else (K ((g_.2.2.length : Int) == 0)))
def graph_goesIn_r3_p : Bool := graph_goesIn_r3_q g_ (fun y => y)
theorem graph_goesIn_r3_n (K : Bool → β) : graph_goesIn_r3_q g_ K = K (graph_goesIn_r3_p g_) := (bif_k K rfl rfl)
theorem graph_goesIn_r3 : P36 1 C36.r.l.b.r.e (S36_0 g_) k = k ⟨[(1, rC tsGraph g_), (23, rb (graph_goesIn_r3_p g_))], [], [], 55⟩ := Eq.trans (by kernel_rfl) (graph_goesIn_r3_n g_ (fun y294 : Bool => k ⟨[(1, rC tsGraph g_), (23, rb y294)], [], [], 55⟩))
theorem graph_goesIn_fzx1 : P36 1 C36.r.l.b.r.e.r.t (S36_0 g_) k = k ⟨[(2, .one (.ow tsI4 [] (.v 2))), (3, ri 13)], [], [], 55⟩ := by kernel_rfl
abbrev S36_1 : St := ⟨[(1, rC tsGraph g_), (35, rl tsI4 g_.1), (36, ri (g_.1.length : Int)), (37, ri 0)], [], [], 55⟩
theorem graph_goesIn_f6 : P36 1 C36.r.r.l (S36_0 g_) k = k (S36_1 g_) := by kernel_rfl
abbrev S36_2 : St := ⟨[(1, rC tsGraph g_), (35, rl tsI4 g_.1), (36, ri (g_.1.length : Int)), (37, ri s312)], [], [], 55⟩
theorem graph_goesIn_fzx2 : P36 1 C36.r.r.l.r.b.b (S36_2 g_ s312) k = k ⟨[(1, rC tsGraph g_), (35, rl tsI4 g_.1), (36, ri (g_.1.length : Int)), (37, ri s312), (38, rb (decide (s312 < (g_.1.length : Int))))], [], [], 55⟩ := by kernel_rfl
def graph_goesIn_r7_p : Option Unit := (bif (decide ((0 : Int) ≤ s312)) then (bif (decide (s312 < (g_.1.length : Int))) then (some ()) else none) else none)
abbrev S36_3 : St := ⟨[(1, rC tsGraph g_), (5, rF 0), (35, rl tsI4 g_.1), (36, ri (g_.1.length : Int)), (37, ri s312)], [(tsI4.leaves (gt g_.1 s312 dI4))], [], 55⟩
theorem graph_goesIn_r7 : P36 1 C36.r.r.l.r.b.b.r.r.l.b (S36_2 g_ s312) k = Option.bind (graph_goesIn_r7_p g_ s312) (fun y315 : Unit => k (S36_3 g_ s312)) := .trans (by kernel_rfl) (bif_b (bif_b some_b none_b) none_b)
theorem graph_goesIn_r8 : P36 1 C36.r.r.l.r.b.b.r.r.l.b.r.b (S36_3 g_ s312) k = Option.bind (shape_May ((gt g_.1 s312 dI4).1, (gt g_.1 s312 dI4).2.1, (gt g_.1 s312 dI4).2.2.1)) fun y316 : Int => k ⟨[(1, rC tsGraph g_), (5, rF 0), (35, rl tsI4 g_.1), (36, ri (g_.1.length : Int)), (37, ri s312), (41, rb (y316 != 0))], [(tsI4.leaves (gt g_.1 s312 dI4))], [], 55⟩ := by kernel_rfl
theorem graph_goesIn_fzx3 : P36 1 C36.r.r.l.r.b.b.r.r.l.b.r.b.r.t (S36_3 g_ s312) k = k ⟨[(2, .one (.ow tsI4 [] (.v 2))), (3, ri 10)], [[]], [], 55⟩ := by kernel_rfl
theorem graph_goesIn_f1000011 : P36 1 C36.r.r.l.r.b.b.r.r.l.b.r.b.r.e (S36_3 g_ s312) k = k ⟨[(1, rC tsGraph g_), (35, rl tsI4 g_.1), (36, ri (g_.1.length : Int)), (37, ri s312), (46, rb (!(graph_within ((gt g_.1 s312 dI4).2.2.2) (-128 : Int) (127 : Int))))], [[]], [], 55⟩ := by kernel_rfl
abbrev S36_4 : St := ⟨[(1, rC tsGraph g_), (35, rl tsI4 g_.1), (36, ri (g_.1.length : Int)), (37, ri s312)], [[]], [], 55⟩
theorem graph_goesIn_fzx4 : P36 1 C36.r.r.l.r.b.b.r.r.l.b.r.b.r.e.r.t (S36_4 g_ s312) k = k ⟨[(2, .one (.ow tsI4 [] (.v 2))), (3, ri 11)], [[]], [], 55⟩ := by kernel_rfl
theorem graph_goesIn_r12 : R36 C36.r.r.l.r.b.b.r.r.r (S36_4 g_ s312) q = q .normal ⟨[(1, rC tsGraph g_), (35, rl tsI4 g_.1), (36, ri (g_.1.length : Int)), (37, ri (IntKind.wrap .i64 (s312 + 1)))], [[]], [], 55⟩ := by kernel_rfl
def graph_goesIn_l6_p : Option (Int ⊕ (Int ⊕ Int)) := (bif (decide (s312 < (g_.1.length : Int))) then (Option.bind (graph_goesIn_r7_p g_ s312) (fun y315 : Unit => (Option.bind (shape_May ((gt g_.1 s312 dI4).1, (gt g_.1 s312 dI4).2.1, (gt g_.1 s312 dI4).2.2.1)) (fun y316 : Int => (bif (y316 != 0) then (some (Sum.inr (Sum.inr (10 : Int)))) else (bif (!(graph_within ((gt g_.1 s312 dI4).2.2.2) (-128 : Int) (127 : Int))) then (some (Sum.inr (Sum.inr (11 : Int)))) else (some (Sum.inl (IntKind.wrap .i64 (s312 + 1)))))))))) else (some (Sum.inr (Sum.inl s312))))
abbrev S36_5 (y317 : Int) : St := ⟨[(1, rC tsGraph g_), (35, rl tsI4 g_.1), (36, ri (g_.1.length : Int)), (37, ri y317)], [], [], 55⟩
abbrev S36_6 (y318 : Int) : St := ⟨[(2, .one (.ow tsI4 [] (.v 2))), (3, ri y318)], [[]], [], 55⟩
theorem graph_goesIn_l6_b : R36 C36.r.r.l.r.b.b (S36_2 g_ s312) (loopKont 0 q) = Option.bind (graph_goesIn_l6_p g_ s312) (either (fun y : Int => q .normal ⟨[(1, rC tsGraph g_), (35, rl tsI4 g_.1), (36, ri (g_.1.length : Int)), (37, ri y)], [], [], 55⟩) (either (fun y317 : Int => q (.exit 1) (S36_5 g_ y317)) (fun y318 : Int => q .ret (S36_6 y318)))) := by
  refine .trans ?_ (bif_b (bind_b fun y315 => (bind_b fun y316 => (bif_b e3_2 (bif_b e3_2 e3_0)))) e3_1)
  refine (pre1 (graph_goesIn_fzx2 g_ s312 _)).trans ?_
  refine .trans seq_push ?_
  refine (cond_e (b := (decide (s312 < (g_.1.length : Int)))) (st' := (S36_2 g_ s312)) ).trans (bif_g ?_ ?_)
  · refine (skip_eq).trans ?_
    refine (seqC_normal (st' := (S36_2 g_ s312))).trans ?_
    refine .trans seq_push ?_
    refine (block_push (id := 2)).trans ?_
    refine (pre1 (graph_goesIn_r7 g_ s312 _)).trans (bind_g fun y315 => ?_)
    refine (block_push (id := 3)).trans ?_
    refine (pre1 (graph_goesIn_r8 g_ s312 _)).trans (bind_g fun y316 => ?_)
    refine (cond_e (b := (y316 != 0)) (st' := (S36_3 g_ s312)) ).trans (bif_g ?_ ?_)
    · refine (pre1 (graph_goesIn_fzx3 g_ s312 _)).trans ?_
      refine (ret_eq).trans ?_
      refine block_ret.trans ?_
      refine block_ret.trans ?_
      refine seqC_ret.trans ?_
      kernel_rfl
    · refine (pre1 (graph_goesIn_f1000011 g_ s312 _)).trans ?_
      refine (cond_e (b := (!(graph_within ((gt g_.1 s312 dI4).2.2.2) (-128 : Int) (127 : Int)))) (st' := (S36_4 g_ s312)) ).trans (bif_g ?_ ?_)
      · refine (pre1 (graph_goesIn_fzx4 g_ s312 _)).trans ?_
        refine (ret_eq).trans ?_
        refine block_ret.trans ?_
        refine block_ret.trans ?_
        refine seqC_ret.trans ?_
        kernel_rfl
      · refine (skip_eq).trans ?_
        refine block_normal.trans ?_
        refine block_normal.trans ?_
        refine (seqC_normal (st' := (S36_4 g_ s312))).trans ?_
        refine (graph_goesIn_r12 g_ s312 _).trans ?_
        kernel_rfl
  · refine ((exit_eq (j := 1))).trans ?_
    refine seqC_exit.trans ?_
    kernel_rfl
theorem graph_goesIn_l6 : R36 C36.r.r.l.r.b (S36_1 g_) q = Option.bind (iterN (graph_goesIn_l6_p g_) LL (0 : Int)) (either (fun y317 : Int => q (.exit 1) (S36_5 g_ y317)) (fun y318 : Int => q .ret (S36_6 y318))) :=
  Eq.trans (by kernel_rfl) (loop_iter2 (S := fun s312 : Int => (S36_2 g_ s312)) (Y1 := fun y317 : Int => ((.exit 1), (S36_5 g_ y317))) (Y2 := fun y318 : Int => (.ret, (S36_6 y318))) (fun s q => graph_goesIn_l6_b g_ s q) (fun z => rfl) (fun z => rfl) LL (0 : Int))
theorem graph_goesIn_r13 : P36 1 C36.r.r.r (S36_0 g_) k = Option.bind (slices_Cloneapi_Value_api_Value g_.1) fun y319 : (List I4) => k ⟨[(2, rO tsI4 y319 2), (3, ri 0)], [], [], 55⟩ := by kernel_rfl
/-- quilt/graph.goesIn -/
def graph_goesIn : Option ((List I4) × Int) := (bif (graph_goesIn_r1_p g_) then (some ([], (3 : Int))) else (bif (graph_goesIn_r3_p g_) then (some ([], (13 : Int))) else (Option.bind (iterN (graph_goesIn_l6_p g_) LL (0 : Int)) (either (fun y317 : Int => (Option.bind (slices_Cloneapi_Value_api_Value g_.1) (fun y319 : (List I4) => (some (y319, (0 : Int)))))) (fun y318 : Int => (some ([], y318)))))))
theorem graph_goesIn_is : stepO E cp36 noE 45 [rA tsGraph g_] = Option.bind (graph_goesIn g_) (fun y : ((List I4) × Int) => some (.tup [.one (.ow tsI4 y.1 (.s 0)), ri y.2] : R)) := by
  refine .trans ?_ (bif_b some_b (bif_b some_b (bind_b (either_b (fun y317 => (bind_b fun y319 => some_b)) (fun y318 => some_b)))))
  refine (stepG_is (nt := 55) (regs := [(0, rA tsGraph g_)])).trans ?_
  refine (pre1 (graph_goesIn_f1 g_ _)).trans ?_
  refine .trans seq_push ?_
  refine (block_push (id := 0)).trans ?_
  refine (pre1 (graph_goesIn_r1 g_ _)).trans ?_
  refine (cond_e (b := (graph_goesIn_r1_p g_)) (st' := (S36_0 g_)) ).trans (bif_g ?_ ?_)
  · refine (pre1 (graph_goesIn_fz g_ _)).trans ?_
    refine (ret_eq).trans ?_
    refine block_ret.trans ?_
    refine seqC_ret.trans ?_
    kernel_rfl
  · refine (pre1 (graph_goesIn_r3 g_ _)).trans ?_
    refine (cond_e (b := (graph_goesIn_r3_p g_)) (st' := (S36_0 g_)) ).trans (bif_g ?_ ?_)
    · refine (pre1 (graph_goesIn_fzx1 g_ _)).trans ?_
      refine (ret_eq).trans ?_
      refine block_ret.trans ?_
      refine seqC_ret.trans ?_
      kernel_rfl
    · refine (skip_eq).trans ?_
      refine block_normal.trans ?_
      refine (seqC_normal (st' := (S36_0 g_))).trans ?_
      refine .trans seq_push ?_
      refine (pre1 (graph_goesIn_f6 g_ _)).trans ?_
      refine (block_push (id := 1)).trans ?_
      refine (graph_goesIn_l6 g_ _).trans (bind_g (either_g (fun y317 => ?_) (fun y318 => ?_)))
      · refine block_same.trans ?_
        refine (seqC_normal (st' := (S36_0 g_))).trans ?_
        refine (pre1 (graph_goesIn_r13 g_ _)).trans (bind_g fun y319 => ?_)
        refine (ret_eq).trans ?_
        kernel_rfl
      · refine block_ret.trans ?_
        refine seqC_ret.trans ?_
        kernel_rfl
noncomputable def cp37 : CallP := withC cp36 45 [(.agg tsGraph)] (.tup [(.one (.ow tsI4)), pI]) (fun y : ((List I4) × Int) => (y.1, y.2, ())) (fun x => graph_goesIn x.1)
theorem cp37_ok : PureOK E cp37 := conO eok cp36_ok noE_ok fun x => Eq.mp (by kernel_rfl) (graph_goesIn_is x.1)
end
section
variable {α β : Type} (vals : (List I4)) (l_ : (List Int)) (s352 : ((List I4) × Int)) (y361 : ((List I4) × Int)) (k : St → Option α) (q : Kont α)
noncomputable abbrev C37 := codeOf E.P 46
noncomputable abbrev P37 := @preK α E 46 cp37 noE
noncomputable abbrev R37 := @runCode α E 46 cp37 noE
abbrev S37_0 : St := ⟨[(0, rl tsI4 vals), (1, rl (.one (.int .i64)) l_), (4, .one (.ow tsI4 [] (.v 4)))], [], [], 29⟩
theorem graph_picked_f1 : P37 1 C37 ⟨[(0, rl tsI4 vals), (1, rl (.one (.int .i64)) l_)], [], [], 29⟩ k = k (S37_0 vals l_) := by kernel_rfl
abbrev S37_1 : St := ⟨[(0, rl tsI4 vals), (4, .one (.ow tsI4 [] (.v 4))), (8, rl (.one (.int .i64)) l_), (9, ri (l_.length : Int)), (10, ri 0)], [], [], 29⟩
theorem graph_picked_f2 : P37 1 C37.r.l (S37_0 vals l_) k = k (S37_1 vals l_) := by kernel_rfl
abbrev S37_2 : St := ⟨[(0, rl tsI4 vals), (4, rO tsI4 s352.1 4), (8, rl (.one (.int .i64)) l_), (9, ri (l_.length : Int)), (10, ri s352.2)], [], [], 29⟩
theorem graph_picked_fz : P37 1 C37.r.l.r.b.b (S37_2 vals l_ s352) k = k ⟨[(0, rl tsI4 vals), (4, rO tsI4 s352.1 4), (8, rl (.one (.int .i64)) l_), (9, ri (l_.length : Int)), (10, ri s352.2), (11, rb (decide (s352.2 < (l_.length : Int))))], [], [], 29⟩ := by kernel_rfl
def graph_picked_r3_p : Option Unit := (bif (decide ((0 : Int) ≤ s352.2)) then (bif (decide (s352.2 < (l_.length : Int))) then (some ()) else none) else none)
abbrev S37_3 : St := ⟨[(0, rl tsI4 vals), (4, rO tsI4 s352.1 4), (7, ri (gt l_ s352.2 (0 : Int))), (8, rl (.one (.int .i64)) l_), (9, ri (l_.length : Int)), (10, ri s352.2)], [], [], 29⟩
theorem graph_picked_r3 : P37 1 C37.r.l.r.b.b.r.r.l.b (S37_2 vals l_ s352) k = Option.bind (graph_picked_r3_p l_ s352) (fun y357 : Unit => k (S37_3 vals l_ s352)) := .trans (by kernel_rfl) (bif_b (bif_b some_b none_b) none_b)
def graph_picked_r4_q (K : Bool → β) : β := (K (!(graph_within (gt l_ s352.2 (0 : Int)) (0 : Int) (IntKind.wrap .i64 ((vals.length : Int) - 1)))))
def graph_picked_r4_p : Bool := graph_picked_r4_q vals l_ s352 (fun y => y)
theorem graph_picked_r4_n (K : Bool → β) : graph_picked_r4_q vals l_ s352 K = K (graph_picked_r4_p vals l_ s352) := rfl
theorem graph_picked_r4 : P37 1 C37.r.l.r.b.b.r.r.l.b.r.l (S37_3 vals l_ s352) k = k ⟨[(0, rl tsI4 vals), (4, rO tsI4 s352.1 4), (7, ri (gt l_ s352.2 (0 : Int))), (8, rl (.one (.int .i64)) l_), (9, ri (l_.length : Int)), (10, ri s352.2), (19, rb (graph_picked_r4_p vals l_ s352))], [], [], 29⟩ := Eq.trans (by kernel_rfl) (graph_picked_r4_n vals l_ s352 (fun y359 : Bool => k ⟨[(0, rl tsI4 vals), (4, rO tsI4 s352.1 4), (7, ri (gt l_ s352.2 (0 : Int))), (8, rl (.one (.int .i64)) l_), (9, ri (l_.length : Int)), (10, ri s352.2), (19, rb y359)], [], [], 29⟩))
abbrev S37_4 : St := ⟨[(4, .one (.ow tsI4 [] (.v 4))), (5, rb false)], [], [], 29⟩
theorem graph_picked_fzx1 : P37 1 C37.r.l.r.b.b.r.r.l.b.r.l.r.t (S37_3 vals l_ s352) k = k S37_4 := by kernel_rfl
def graph_picked_r6_p : Option Unit := (bif (decide ((0 : Int) ≤ (gt l_ s352.2 (0 : Int)))) then (bif (decide ((gt l_ s352.2 (0 : Int)) < (vals.length : Int))) then (bif (decide (s352.1.length + ([(gt vals (gt l_ s352.2 (0 : Int)) dI4)] : List I4).length ≤ maxL)) then (some ()) else none) else none) else none)
abbrev S37_5 : St := ⟨[(0, rl tsI4 vals), (4, .one (.ow tsI4 (s352.1 ++ [(gt vals (gt l_ s352.2 (0 : Int)) dI4)]) (.v 4))), (8, rl (.one (.int .i64)) l_), (9, ri (l_.length : Int)), (10, ri s352.2)], [], [], 29⟩
theorem graph_picked_r6 : R37 C37.r.l.r.b.b.r.r.l.b.r.r (S37_3 vals l_ s352) q = Option.bind (graph_picked_r6_p vals l_ s352) (fun y360 : Unit => q .normal (S37_5 vals l_ s352)) := .trans (by kernel_rfl) (bif_b (bif_b (bif_b some_b none_b) none_b) none_b)
theorem graph_picked_r7 : R37 C37.r.l.r.b.b.r.r.r (S37_5 vals l_ s352) q = q .normal ⟨[(0, rl tsI4 vals), (4, .one (.ow tsI4 (s352.1 ++ [(gt vals (gt l_ s352.2 (0 : Int)) dI4)]) (.v 4))), (8, rl (.one (.int .i64)) l_), (9, ri (l_.length : Int)), (10, ri (IntKind.wrap .i64 (s352.2 + 1)))], [], [], 29⟩ := by kernel_rfl
def graph_picked_l2_p : Option (((List I4) × Int) ⊕ (((List I4) × Int) ⊕ Unit)) := (bif (decide (s352.2 < (l_.length : Int))) then (Option.bind (graph_picked_r3_p l_ s352) (fun y357 : Unit => (bif (graph_picked_r4_p vals l_ s352) then (some (Sum.inr (Sum.inr ()))) else (Option.bind (graph_picked_r6_p vals l_ s352) (fun y360 : Unit => (some (Sum.inl ((s352.1 ++ [(gt vals (gt l_ s352.2 (0 : Int)) dI4)]), (IntKind.wrap .i64 (s352.2 + 1)))))))))) else (some (Sum.inr (Sum.inl s352))))
abbrev S37_6 : St := ⟨[(0, rl tsI4 vals), (4, rO tsI4 y361.1 4), (8, rl (.one (.int .i64)) l_), (9, ri (l_.length : Int)), (10, ri y361.2)], [], [], 29⟩
theorem graph_picked_l2_b : R37 C37.r.l.r.b.b (S37_2 vals l_ s352) (loopKont 0 q) = Option.bind (graph_picked_l2_p vals l_ s352) (either (fun y : ((List I4) × Int) => q .normal ⟨[(0, rl tsI4 vals), (4, rO tsI4 y.1 4), (8, rl (.one (.int .i64)) l_), (9, ri (l_.length : Int)), (10, ri y.2)], [], [], 29⟩) (either (fun y361 : ((List I4) × Int) => q (.exit 0) (S37_6 vals l_ y361)) (fun y362 : Unit => q .ret S37_4))) := by
  refine .trans ?_ (bif_b (bind_b fun y357 => (bif_b e3_2 (bind_b fun y360 => e3_0))) e3_1)
  refine (pre1 (graph_picked_fz vals l_ s352 _)).trans ?_
  refine .trans seq_push ?_
  refine (cond_e (b := (decide (s352.2 < (l_.length : Int)))) (st' := (S37_2 vals l_ s352)) ).trans (bif_g ?_ ?_)
  · refine (skip_eq).trans ?_
    refine (seqC_normal (st' := (S37_2 vals l_ s352))).trans ?_
    refine .trans seq_push ?_
    refine (block_push (id := 1)).trans ?_
    refine (pre1 (graph_picked_r3 vals l_ s352 _)).trans (bind_g fun y357 => ?_)
    refine .trans seq_push ?_
    refine (pre1 (graph_picked_r4 vals l_ s352 _)).trans ?_
    refine (cond_e (b := (graph_picked_r4_p vals l_ s352)) (st' := (S37_3 vals l_ s352)) ).trans (bif_g ?_ ?_)
    · refine (pre1 (graph_picked_fzx1 vals l_ s352 _)).trans ?_
      refine (ret_eq).trans ?_
      refine seqC_ret.trans ?_
      refine block_ret.trans ?_
      refine seqC_ret.trans ?_
      kernel_rfl
    · refine (skip_eq).trans ?_
      refine (seqC_normal (st' := (S37_3 vals l_ s352))).trans ?_
      refine (graph_picked_r6 vals l_ s352 _).trans (bind_g fun y360 => ?_)
      refine block_normal.trans ?_
      refine (seqC_normal (st' := (S37_5 vals l_ s352))).trans ?_
      refine (graph_picked_r7 vals l_ s352 _).trans ?_
      kernel_rfl
  · refine ((exit_eq (j := 0))).trans ?_
    refine seqC_exit.trans ?_
    kernel_rfl
theorem graph_picked_l2 : R37 C37.r.l.r.b (S37_1 vals l_) q = Option.bind (iterN (graph_picked_l2_p vals l_) LL ([], (0 : Int))) (either (fun y361 : ((List I4) × Int) => q (.exit 0) (S37_6 vals l_ y361)) (fun y362 : Unit => q .ret S37_4)) :=
  Eq.trans (by kernel_rfl) (loop_iter2 (S := fun s352 : ((List I4) × Int) => (S37_2 vals l_ s352)) (Y1 := fun y361 : ((List I4) × Int) => ((.exit 0), (S37_6 vals l_ y361))) (Y2 := fun y362 : Unit => (.ret, S37_4)) (fun s q => graph_picked_l2_b vals l_ s q) (fun z => rfl) (fun z => rfl) LL ([], (0 : Int)))
theorem graph_picked_fzx2 : P37 1 C37.r.r ⟨[(4, rO tsI4 y361.1 4)], [], [], 29⟩ k = k ⟨[(4, rO tsI4 y361.1 4), (5, rb true)], [], [], 29⟩ := by kernel_rfl
/-- quilt/graph.picked -/
def graph_picked : Option ((List I4) × Bool) := (Option.bind (iterN (graph_picked_l2_p vals l_) LL ([], (0 : Int))) (either (fun y361 : ((List I4) × Int) => (some (y361.1, true))) (fun y362 : Unit => (some ([], false)))))
theorem graph_picked_is : stepO E cp37 noE 46 [rl tsI4 vals, rl (.one (.int .i64)) l_] = Option.bind (graph_picked vals l_) (fun y : ((List I4) × Bool) => some (.tup [.one (.ow tsI4 y.1 (.s 0)), rb y.2] : R)) := by
  refine .trans ?_ (bind_b (either_b (fun y361 => some_b) (fun y362 => some_b)))
  refine (stepG_is (nt := 29) (regs := [(0, rl tsI4 vals), (1, rl (.one (.int .i64)) l_)])).trans ?_
  refine (pre1 (graph_picked_f1 vals l_ _)).trans ?_
  refine .trans seq_push ?_
  refine (pre1 (graph_picked_f2 vals l_ _)).trans ?_
  refine (block_push (id := 0)).trans ?_
  refine (graph_picked_l2 vals l_ _).trans (bind_g (either_g (fun y361 => ?_) (fun y362 => ?_)))
  · refine block_same.trans ?_
    refine (seqC_normal (st' := ⟨[(4, rO tsI4 y361.1 4)], [], [], 29⟩)).trans ?_
    refine (pre1 (graph_picked_fzx2 y361 _)).trans ?_
    refine (ret_eq).trans ?_
    kernel_rfl
  · refine block_ret.trans ?_
    refine seqC_ret.trans ?_
    kernel_rfl
noncomputable def cp38 : CallP := withC cp37 46 [(pL tsI4), (.one (.g (.sl (.one (.int .i64)))))] (.tup [(.one (.ow tsI4)), pB]) (fun y : ((List I4) × Bool) => (y.1, y.2, ())) (fun x => graph_picked x.1 x.2.1)
theorem cp38_ok : PureOK E cp38 := conO eok cp37_ok noE_ok fun x => Eq.mp (by kernel_rfl) (graph_picked_is x.1 x.2.1)
end
end Go.V.P
