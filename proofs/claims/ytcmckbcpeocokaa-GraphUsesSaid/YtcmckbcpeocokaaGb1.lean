/- What functions compute. -/
import Derived.Test.YtcmckbcpeocokaaGb0
namespace Go.V.P
open Go.RowKit Go.V Go.Proofs
set_option linter.unusedVariables false
set_option maxRecDepth 100000
section
variable {α β : Type} (a0 : Node) (a_ : I3) (b_ : I3) (k : St → Option α)
noncomputable abbrev C19 := codeOf E.P 58
noncomputable abbrev P19 := @preK α E 58 cp19 noE
abbrev S19_0 : St := ⟨[(4, rC tsI3 a_), (5, rC tsI3 b_), (6, rF 0)], [[di 0, di 0, di 0]], [], 12⟩
theorem graph_same_f1 : P19 1 C19 ⟨[(0, rA tsNode a0), (1, rA tsI3 a_), (2, rA tsI3 b_)], [], [], 12⟩ k = k (S19_0 a_ b_) := by kernel_rfl
theorem graph_same_f1000002 : P19 1 C19.r.l (S19_0 a_ b_) k = k ⟨[(4, rC tsI3 a_), (6, rF 0), (9, rb (!((a_.1 == b_.1) && ((a_.2.1 == b_.2.1) && ((a_.2.2 == b_.2.2) && true)))))], [[di 0, di 0, di 0]], [], 12⟩ := by kernel_rfl
abbrev S19_1 : St := ⟨[(4, rC tsI3 a_), (6, rF 0)], [[di 0, di 0, di 0]], [], 12⟩
theorem graph_same_fz : P19 1 C19.r.l.r.t (S19_1 a_) k = k ⟨[(6, rF 0)], [[di 0, di 0, di 0]], [], 12⟩ := by kernel_rfl
theorem graph_same_fzx1 : P19 1 C19.r.r (S19_1 a_) k = k ⟨[(6, rF 0)], [(tsI3.leaves a_)], [], 12⟩ := by kernel_rfl
/-- quilt/graph.same -/
def graph_same_q {β : Type} (a0 : Node) (a_ : I3) (b_ : I3) (K : I3 → β) : β := (bif (!((a_.1 == b_.1) && ((a_.2.1 == b_.2.1) && ((a_.2.2 == b_.2.2) && true)))) then (K ((0 : Int), (0 : Int), (0 : Int))) else (K a_))
def graph_same : I3 := graph_same_q a0 a_ b_ (fun y => y)
theorem graph_same_n (K : I3 → β) : graph_same_q a0 a_ b_ K = K (graph_same a0 a_ b_) := (bif_k K rfl rfl)
theorem graph_same_is : stepS E cp19 noE 58 [rA tsNode a0, rA tsI3 a_, rA tsI3 b_] = (fun y : I3 => some (rA tsI3 y : R)) (graph_same a0 a_ b_) := by
  refine Eq.trans ?_ (graph_same_n a0 a_ b_ (fun y : I3 => some (rA tsI3 y : R)))
  refine (stepG_is (nt := 12) (regs := [(0, rA tsNode a0), (1, rA tsI3 a_), (2, rA tsI3 b_)])).trans ?_
  unfold graph_same_q
  refine (pre1 (graph_same_f1 a0 a_ b_ _)).trans ?_
  refine .trans seq_push ?_
  refine (pre1 (graph_same_f1000002 a_ b_ _)).trans ?_
  refine (cond_e (b := (!((a_.1 == b_.1) && ((a_.2.1 == b_.2.1) && ((a_.2.2 == b_.2.2) && true))))) (st' := (S19_1 a_)) ).trans (bif_g ?_ ?_)
  · refine (pre1 (graph_same_fz a_ _)).trans ?_
    refine (ret_eq).trans ?_
    refine seqC_ret.trans ?_
    kernel_rfl
  · refine (skip_eq).trans ?_
    refine (seqC_normal (st' := (S19_1 a_))).trans ?_
    refine (pre1 (graph_same_fzx1 a_ _)).trans ?_
    refine (ret_eq).trans ?_
    kernel_rfl
noncomputable def cp20 : CallP := withC cp19 58 [(.agg tsNode), (.agg tsI3), (.agg tsI3)] (.one (.agg tsI3)) (fun y : I3 => y) (fun x => some (graph_same x.1 x.2.1 x.2.2.1))
theorem cp20_ok : PureOK E cp20 := conS eok cp19_ok noE_ok fun x => Eq.mp (by kernel_rfl) (graph_same_is x.1 x.2.1 x.2.2.1)
end
section
variable {α β : Type} (a0 : Node) (a_ : I3) (a2 : I3) (k : St → Option α)
noncomputable abbrev C20 := codeOf E.P 59
noncomputable abbrev P20 := @preK α E 59 cp20 noE
theorem graph_of_6_fz : P20 2 C20 ⟨[(0, rA tsNode a0), (1, rA tsI3 a_), (2, rA tsI3 a2)], [], [], 16⟩ k = k ⟨[(6, rF 0)], [[di (IntKind.wrap .i64 (a_.1 + 2)), di (IntKind.wrap .i64 (a_.2.1 + 2)), di a_.2.2]], [], 16⟩ := by kernel_rfl
/-- quilt/graph.of$6 -/
def graph_of_6_q {β : Type} (a0 : Node) (a_ : I3) (a2 : I3) (K : I3 → β) : β := (K ((IntKind.wrap .i64 (a_.1 + 2)), (IntKind.wrap .i64 (a_.2.1 + 2)), a_.2.2))
def graph_of_6 : I3 := graph_of_6_q a0 a_ a2 (fun y => y)
theorem graph_of_6_n (K : I3 → β) : graph_of_6_q a0 a_ a2 K = K (graph_of_6 a0 a_ a2) := rfl
theorem graph_of_6_is : stepS E cp20 noE 59 [rA tsNode a0, rA tsI3 a_, rA tsI3 a2] = (fun y : I3 => some (rA tsI3 y : R)) (graph_of_6 a0 a_ a2) := by
  refine Eq.trans ?_ (graph_of_6_n a0 a_ a2 (fun y : I3 => some (rA tsI3 y : R)))
  refine (stepG_is (nt := 16) (regs := [(0, rA tsNode a0), (1, rA tsI3 a_), (2, rA tsI3 a2)])).trans ?_
  unfold graph_of_6_q
  refine (pre2 (graph_of_6_fz a0 a_ a2 _)).trans ?_
  refine (ret_eq).trans ?_
  kernel_rfl
noncomputable def cp21 : CallP := withC cp20 59 [(.agg tsNode), (.agg tsI3), (.agg tsI3)] (.one (.agg tsI3)) (fun y : I3 => y) (fun x => some (graph_of_6 x.1 x.2.1 x.2.2.1))
theorem cp21_ok : PureOK E cp21 := conS eok cp20_ok noE_ok fun x => Eq.mp (by kernel_rfl) (graph_of_6_is x.1 x.2.1 x.2.2.1)
end
section
variable {α β : Type} (a0 : Node) (a_ : I3) (b_ : I3) (k : St → Option α)
noncomputable abbrev C21 := codeOf E.P 60
noncomputable abbrev P21 := @preK α E 60 cp21 noE
abbrev S21_0 : St := ⟨[(4, rC tsI3 a_), (5, rC tsI3 b_), (6, rF 0)], [[di 0, di 0, di 0]], [], 30⟩
theorem graph_beside_f1 : P21 1 C21 ⟨[(0, rA tsNode a0), (1, rA tsI3 a_), (2, rA tsI3 b_)], [], [], 30⟩ k = k (S21_0 a_ b_) := by kernel_rfl
def graph_beside_r1_q (K : Bool → β) : β := (bif (a_.1 != b_.1) then (K true) else (K (a_.2.1 != b_.2.1)))
def graph_beside_r1_p : Bool := graph_beside_r1_q a_ b_ (fun y => y)
theorem graph_beside_r1_n (K : Bool → β) : graph_beside_r1_q a_ b_ K = K (graph_beside_r1_p a_ b_) := (bif_k K rfl rfl)
theorem graph_beside_r1 : P21 1 C21.r.l (S21_0 a_ b_) k = k ⟨[(4, rC tsI3 a_), (5, rC tsI3 b_), (6, rF 0), (18, rb (graph_beside_r1_p a_ b_))], [[di 0, di 0, di 0]], [], 30⟩ := Eq.trans (by kernel_rfl) (graph_beside_r1_n a_ b_ (fun y200 : Bool => k ⟨[(4, rC tsI3 a_), (5, rC tsI3 b_), (6, rF 0), (18, rb y200)], [[di 0, di 0, di 0]], [], 30⟩))
theorem graph_beside_fz : P21 1 C21.r.l.r.t (S21_0 a_ b_) k = k ⟨[(6, rF 0)], [[di 0, di 0, di 0]], [], 30⟩ := by kernel_rfl
theorem graph_beside_fzx1 : P21 1 C21.r.r (S21_0 a_ b_) k = k ⟨[(6, rF 0)], [[di a_.1, di a_.2.1, di (IntKind.wrap .i64 (a_.2.2 + b_.2.2))]], [], 30⟩ := by kernel_rfl
/-- quilt/graph.beside -/
def graph_beside_q {β : Type} (a0 : Node) (a_ : I3) (b_ : I3) (K : I3 → β) : β := (bif (graph_beside_r1_p a_ b_) then (K ((0 : Int), (0 : Int), (0 : Int))) else (K (a_.1, a_.2.1, (IntKind.wrap .i64 (a_.2.2 + b_.2.2)))))
def graph_beside : I3 := graph_beside_q a0 a_ b_ (fun y => y)
theorem graph_beside_n (K : I3 → β) : graph_beside_q a0 a_ b_ K = K (graph_beside a0 a_ b_) := (bif_k K rfl rfl)
theorem graph_beside_is : stepS E cp21 noE 60 [rA tsNode a0, rA tsI3 a_, rA tsI3 b_] = (fun y : I3 => some (rA tsI3 y : R)) (graph_beside a0 a_ b_) := by
  refine Eq.trans ?_ (graph_beside_n a0 a_ b_ (fun y : I3 => some (rA tsI3 y : R)))
  refine (stepG_is (nt := 30) (regs := [(0, rA tsNode a0), (1, rA tsI3 a_), (2, rA tsI3 b_)])).trans ?_
  unfold graph_beside_q
  refine (pre1 (graph_beside_f1 a0 a_ b_ _)).trans ?_
  refine .trans seq_push ?_
  refine (pre1 (graph_beside_r1 a_ b_ _)).trans ?_
  refine (cond_e (b := (graph_beside_r1_p a_ b_)) (st' := (S21_0 a_ b_)) ).trans (bif_g ?_ ?_)
  · refine (pre1 (graph_beside_fz a_ b_ _)).trans ?_
    refine (ret_eq).trans ?_
    refine seqC_ret.trans ?_
    kernel_rfl
  · refine (skip_eq).trans ?_
    refine (seqC_normal (st' := (S21_0 a_ b_))).trans ?_
    refine (pre1 (graph_beside_fzx1 a_ b_ _)).trans ?_
    refine (ret_eq).trans ?_
    kernel_rfl
noncomputable def cp22 : CallP := withC cp21 60 [(.agg tsNode), (.agg tsI3), (.agg tsI3)] (.one (.agg tsI3)) (fun y : I3 => y) (fun x => some (graph_beside x.1 x.2.1 x.2.2.1))
theorem cp22_ok : PureOK E cp22 := conS eok cp21_ok noE_ok fun x => Eq.mp (by kernel_rfl) (graph_beside_is x.1 x.2.1 x.2.2.1)
end
noncomputable abbrev C22 := codeOf E.P 71
noncomputable abbrev P22 {α : Type} := @preK α E 71 cp22 noE
abbrev S22_0 (s_ : I3) : St := ⟨[(1, rC tsI3 s_)], [], [], 11⟩
theorem shape_Row_f1 {α : Type} (s_ : I3) (k : St → Option α) : P22 1 C22 ⟨[(0, rA tsI3 s_)], [], [], 11⟩ k = k (S22_0 s_) := by kernel_rfl
theorem shape_Row_r1 {α : Type} (s_ : I3) (k : St → Option α) : P22 1 C22.r.l (S22_0 s_) k = Option.bind (shape_may s_) fun y203 : Bool => k ⟨[(1, rC tsI3 s_), (5, rb (!y203))], [], [], 11⟩ := by kernel_rfl
theorem shape_Row_fz {α : Type} (s_ : I3) (k : St → Option α) : P22 1 C22.r.l.r.t (S22_0 s_) k = k ⟨[(2, ri 0)], [], [], 11⟩ := by kernel_rfl
theorem shape_Row_fzx1 {α : Type} (s_ : I3) (k : St → Option α) : P22 1 C22.r.r (S22_0 s_) k = k ⟨[(2, ri (IntKind.wrap .i64 (s_.2.1 * s_.2.2)))], [], [], 11⟩ := by kernel_rfl
/-- quilt/shape.Row -/
def shape_Row (s_ : I3) : Option Int := (Option.bind (shape_may s_) (fun y203 : Bool => (bif (!y203) then (some (0 : Int)) else (some (IntKind.wrap .i64 (s_.2.1 * s_.2.2))))))
theorem shape_Row_is (s_ : I3) : stepS E cp22 noE 71 [rA tsI3 s_] = Option.bind (shape_Row s_) (fun y : Int => some (ri y : R)) := by
  refine .trans ?_ (bind_b fun y203 => (bif_b some_b some_b))
  refine (stepG_is (nt := 11) (regs := [(0, rA tsI3 s_)])).trans ?_
  refine (pre1 (shape_Row_f1 s_ _)).trans ?_
  refine .trans seq_push ?_
  refine (pre1 (shape_Row_r1 s_ _)).trans (bind_g fun y203 => ?_)
  refine (cond_e (b := (!y203)) (st' := (S22_0 s_)) ).trans (bif_g ?_ ?_)
  · refine (pre1 (shape_Row_fz s_ _)).trans ?_
    refine (ret_eq).trans ?_
    refine seqC_ret.trans ?_
    kernel_rfl
  · refine (skip_eq).trans ?_
    refine (seqC_normal (st' := (S22_0 s_))).trans ?_
    refine (pre1 (shape_Row_fzx1 s_ _)).trans ?_
    refine (ret_eq).trans ?_
    kernel_rfl
noncomputable def cp23 : CallP := withC cp22 71 [(.agg tsI3)] (.one pI) (fun y : Int => y) (fun x => shape_Row x.1)
theorem cp23_ok : PureOK E cp23 := conS eok cp22_ok noE_ok fun x => Eq.mp (by kernel_rfl) (shape_Row_is x.1)
noncomputable abbrev C23 := codeOf E.P 57
noncomputable abbrev P23 {α : Type} := @preK α E 57 cp23 noE
theorem shape_Size_r1 {α : Type} (s_ : I3) (k : St → Option α) : P23 2 C23 ⟨[(0, rA tsI3 s_)], [], [], 8⟩ k = Option.bind (shape_Row s_) fun y204 : Int => k ⟨[(2, ri (IntKind.wrap .i64 (y204 * s_.1)))], [], [], 8⟩ := by kernel_rfl
/-- quilt/shape.Size -/
def shape_Size (s_ : I3) : Option Int := (Option.bind (shape_Row s_) (fun y204 : Int => (some (IntKind.wrap .i64 (y204 * s_.1)))))
theorem shape_Size_is (s_ : I3) : stepS E cp23 noE 57 [rA tsI3 s_] = Option.bind (shape_Size s_) (fun y : Int => some (ri y : R)) := by
  refine .trans ?_ (bind_b fun y204 => some_b)
  refine (stepG_is (nt := 8) (regs := [(0, rA tsI3 s_)])).trans ?_
  refine (pre2 (shape_Size_r1 s_ _)).trans (bind_g fun y204 => ?_)
  refine (ret_eq).trans ?_
  kernel_rfl
noncomputable def cp24 : CallP := withC cp23 57 [(.agg tsI3)] (.one pI) (fun y : Int => y) (fun x => shape_Size x.1)
theorem cp24_ok : PureOK E cp24 := conS eok cp23_ok noE_ok fun x => Eq.mp (by kernel_rfl) (shape_Size_is x.1)
section
variable {α : Type} (n_ : Node) (a_ : I3) (a2 : I3) (k : St → Option α)
noncomputable abbrev C24 := codeOf E.P 61
noncomputable abbrev P24 := @preK α E 61 cp24 noE
abbrev S24_0 : St := ⟨[(3, rC tsNode n_), (4, rC tsI3 a_), (6, rF 0)], [[di 0, di 0, di 0]], [], 16⟩
theorem graph_anew_f1 : P24 1 C24 ⟨[(0, rA tsNode n_), (1, rA tsI3 a_), (2, rA tsI3 a2)], [], [], 16⟩ k = k (S24_0 n_ a_) := by kernel_rfl
def graph_anew_r1_p : Option Bool := (Option.bind (shape_Size (n_.2.2.2.2.2.2.2.2.2.1, n_.2.2.2.2.2.2.2.2.2.2.1, n_.2.2.2.2.2.2.2.2.2.2.2.1)) (fun y208 : Int => (Option.bind (shape_Size a_) (fun y209 : Int => (some (y208 != y209))))))
theorem graph_anew_r1 : P24 1 C24.r.l (S24_0 n_ a_) k = Option.bind (graph_anew_r1_p n_ a_) (fun y210 : Bool => k ⟨[(3, rC tsNode n_), (6, rF 0), (12, rb y210)], [[di 0, di 0, di 0]], [], 16⟩) := .trans (by kernel_rfl) (bind_b fun y208 => (bind_b fun y209 => some_b))
abbrev S24_1 : St := ⟨[(3, rC tsNode n_), (6, rF 0)], [[di 0, di 0, di 0]], [], 16⟩
theorem graph_anew_fz : P24 1 C24.r.l.r.t (S24_1 n_) k = k ⟨[(6, rF 0)], [[di 0, di 0, di 0]], [], 16⟩ := by kernel_rfl
theorem graph_anew_fzx1 : P24 1 C24.r.r (S24_1 n_) k = k ⟨[(6, rF 0)], [[di n_.2.2.2.2.2.2.2.2.2.1, di n_.2.2.2.2.2.2.2.2.2.2.1, di n_.2.2.2.2.2.2.2.2.2.2.2.1]], [], 16⟩ := by kernel_rfl
/-- quilt/graph.anew -/
def graph_anew (n_ : Node) (a_ : I3) (a2 : I3) : Option I3 := (Option.bind (graph_anew_r1_p n_ a_) (fun y210 : Bool => (bif y210 then (some ((0 : Int), (0 : Int), (0 : Int))) else (some (n_.2.2.2.2.2.2.2.2.2.1, n_.2.2.2.2.2.2.2.2.2.2.1, n_.2.2.2.2.2.2.2.2.2.2.2.1)))))
theorem graph_anew_is : stepS E cp24 noE 61 [rA tsNode n_, rA tsI3 a_, rA tsI3 a2] = Option.bind (graph_anew n_ a_ a2) (fun y : I3 => some (rA tsI3 y : R)) := by
  refine .trans ?_ (bind_b fun y210 => (bif_b some_b some_b))
  refine (stepG_is (nt := 16) (regs := [(0, rA tsNode n_), (1, rA tsI3 a_), (2, rA tsI3 a2)])).trans ?_
  refine (pre1 (graph_anew_f1 n_ a_ a2 _)).trans ?_
  refine .trans seq_push ?_
  refine (pre1 (graph_anew_r1 n_ a_ _)).trans (bind_g fun y210 => ?_)
  refine (cond_e (b := y210) (st' := (S24_1 n_)) ).trans (bif_g ?_ ?_)
  · refine (pre1 (graph_anew_fz n_ _)).trans ?_
    refine (ret_eq).trans ?_
    refine seqC_ret.trans ?_
    kernel_rfl
  · refine (skip_eq).trans ?_
    refine (seqC_normal (st' := (S24_1 n_))).trans ?_
    refine (pre1 (graph_anew_fzx1 n_ _)).trans ?_
    refine (ret_eq).trans ?_
    kernel_rfl
noncomputable def cp25 : CallP := withC cp24 61 [(.agg tsNode), (.agg tsI3), (.agg tsI3)] (.one (.agg tsI3)) (fun y : I3 => y) (fun x => graph_anew x.1 x.2.1 x.2.2.1)
theorem cp25_ok : PureOK E cp25 := conS eok cp24_ok noE_ok fun x => Eq.mp (by kernel_rfl) (graph_anew_is x.1 x.2.1 x.2.2.1)
end
section
variable {α β : Type} (a0_ : Node) (a1_ : I3) (k : St → Option α)
noncomputable abbrev C25 := codeOf E.P 49
noncomputable abbrev P25 := @preK α E 49 cp25 noE
theorem graph_bare_fz : P25 2 C25 ⟨[(0, rA tsNode a0_), (1, rA tsI3 a1_)], [], [], 6⟩ k = k ⟨[(4, ri 0), (5, ri 0)], [], [], 6⟩ := by kernel_rfl
/-- quilt/graph.bare -/
def graph_bare_q {β : Type} (a0_ : Node) (a1_ : I3) (K : (Int × Int) → β) : β := (K ((0 : Int), (0 : Int)))
def graph_bare : (Int × Int) := graph_bare_q a0_ a1_ (fun y => y)
theorem graph_bare_n (K : (Int × Int) → β) : graph_bare_q a0_ a1_ K = K (graph_bare a0_ a1_) := rfl
theorem graph_bare_is : stepS E cp25 noE 49 [rA tsNode a0_, rA tsI3 a1_] = (fun y : (Int × Int) => some (.tup [ri y.1, ri y.2] : R)) (graph_bare a0_ a1_) := by
  refine Eq.trans ?_ (graph_bare_n a0_ a1_ (fun y : (Int × Int) => some (.tup [ri y.1, ri y.2] : R)))
  refine (stepG_is (nt := 6) (regs := [(0, rA tsNode a0_), (1, rA tsI3 a1_)])).trans ?_
  unfold graph_bare_q
  refine (pre2 (graph_bare_fz a0_ a1_ _)).trans ?_
  refine (ret_eq).trans ?_
  kernel_rfl
noncomputable def cp26 : CallP := withC cp25 49 [(.agg tsNode), (.agg tsI3)] (.tup [pI, pI]) (fun y : (Int × Int) => (y.1, y.2, ())) (fun x => some (graph_bare x.1 x.2.1))
theorem cp26_ok : PureOK E cp26 := conS eok cp25_ok noE_ok fun x => Eq.mp (by kernel_rfl) (graph_bare_is x.1 x.2.1)
end
section
variable {α β : Type} (n_ : Node) (s_ : I3) (k : St → Option α)
noncomputable abbrev C26 := codeOf E.P 52
noncomputable abbrev P26 := @preK α E 52 cp26 noE
def graph_of_2_r1_q (K : Int → β) : β := (K (IntKind.wrap .i64 ((IntKind.wrap .i64 ((IntKind.wrap .i64 (n_.2.2.1 * n_.2.2.1)) * s_.2.2)) * n_.2.2.2.2.2.1)))
def graph_of_2_r1_p : Int := graph_of_2_r1_q n_ s_ (fun y => y)
theorem graph_of_2_r1_n (K : Int → β) : graph_of_2_r1_q n_ s_ K = K (graph_of_2_r1_p n_ s_) := rfl
theorem graph_of_2_r1 : P26 2 C26 ⟨[(0, rA tsNode n_), (1, rA tsI3 s_)], [], [], 19⟩ k = k ⟨[(4, ri (graph_of_2_r1_p n_ s_)), (5, ri n_.2.2.2.2.2.1)], [], [], 19⟩ := Eq.trans (by kernel_rfl) (graph_of_2_r1_n n_ s_ (fun y218 : Int => k ⟨[(4, ri y218), (5, ri n_.2.2.2.2.2.1)], [], [], 19⟩))
/-- quilt/graph.of$2 -/
def graph_of_2_q (K : (Int × Int) → β) : β := (K ((graph_of_2_r1_p n_ s_), n_.2.2.2.2.2.1))
def graph_of_2 : (Int × Int) := graph_of_2_q n_ s_ (fun y => y)
theorem graph_of_2_n (K : (Int × Int) → β) : graph_of_2_q n_ s_ K = K (graph_of_2 n_ s_) := rfl
theorem graph_of_2_is : stepS E cp26 noE 52 [rA tsNode n_, rA tsI3 s_] = (fun y : (Int × Int) => some (.tup [ri y.1, ri y.2] : R)) (graph_of_2 n_ s_) := by
  refine Eq.trans ?_ (graph_of_2_n n_ s_ (fun y : (Int × Int) => some (.tup [ri y.1, ri y.2] : R)))
  refine (stepG_is (nt := 19) (regs := [(0, rA tsNode n_), (1, rA tsI3 s_)])).trans ?_
  unfold graph_of_2_q
  refine (pre2 (graph_of_2_r1 n_ s_ _)).trans ?_
  refine (ret_eq).trans ?_
  kernel_rfl
noncomputable def cp27 : CallP := withC cp26 52 [(.agg tsNode), (.agg tsI3)] (.tup [pI, pI]) (fun y : (Int × Int) => (y.1, y.2, ())) (fun x => some (graph_of_2 x.1 x.2.1))
theorem cp27_ok : PureOK E cp27 := conS eok cp26_ok noE_ok fun x => Eq.mp (by kernel_rfl) (graph_of_2_is x.1 x.2.1)
end
section
variable {α β : Type} (n_ : Node) (s_ : I3) (k : St → Option α)
noncomputable abbrev C27 := codeOf E.P 54
noncomputable abbrev P27 := @preK α E 54 cp27 noE
theorem graph_of_3_fz : P27 2 C27 ⟨[(0, rA tsNode n_), (1, rA tsI3 s_)], [], [], 16⟩ k = k ⟨[(4, ri (IntKind.wrap .i64 ((IntKind.wrap .i64 (n_.2.2.1 * n_.2.2.1)) * s_.2.2))), (5, ri s_.2.2)], [], [], 16⟩ := by kernel_rfl
/-- quilt/graph.of$3 -/
def graph_of_3_q (K : (Int × Int) → β) : β := (K ((IntKind.wrap .i64 ((IntKind.wrap .i64 (n_.2.2.1 * n_.2.2.1)) * s_.2.2)), s_.2.2))
def graph_of_3 : (Int × Int) := graph_of_3_q n_ s_ (fun y => y)
theorem graph_of_3_n (K : (Int × Int) → β) : graph_of_3_q n_ s_ K = K (graph_of_3 n_ s_) := rfl
theorem graph_of_3_is : stepS E cp27 noE 54 [rA tsNode n_, rA tsI3 s_] = (fun y : (Int × Int) => some (.tup [ri y.1, ri y.2] : R)) (graph_of_3 n_ s_) := by
  refine Eq.trans ?_ (graph_of_3_n n_ s_ (fun y : (Int × Int) => some (.tup [ri y.1, ri y.2] : R)))
  refine (stepG_is (nt := 16) (regs := [(0, rA tsNode n_), (1, rA tsI3 s_)])).trans ?_
  unfold graph_of_3_q
  refine (pre2 (graph_of_3_fz n_ s_ _)).trans ?_
  refine (ret_eq).trans ?_
  kernel_rfl
noncomputable def cp28 : CallP := withC cp27 54 [(.agg tsNode), (.agg tsI3)] (.tup [pI, pI]) (fun y : (Int × Int) => (y.1, y.2, ())) (fun x => some (graph_of_3 x.1 x.2.1))
theorem cp28_ok : PureOK E cp28 := conS eok cp27_ok noE_ok fun x => Eq.mp (by kernel_rfl) (graph_of_3_is x.1 x.2.1)
end
section
variable {α : Type} (n_ : Node) (s_ : I3) (k : St → Option α)
noncomputable abbrev C28 := codeOf E.P 56
noncomputable abbrev P28 := @preK α E 56 cp28 noE
theorem graph_of_5_r1 : P28 2 C28 ⟨[(0, rA tsNode n_), (1, rA tsI3 s_)], [], [], 13⟩ k = Option.bind (shape_Size s_) fun y221 : Int => k ⟨[(4, ri (IntKind.wrap .i64 (y221 * n_.2.2.2.2.2.1))), (5, ri n_.2.2.2.2.2.1)], [], [], 13⟩ := by kernel_rfl
/-- quilt/graph.of$5 -/
def graph_of_5 : Option (Int × Int) := (Option.bind (shape_Size s_) (fun y221 : Int => (some ((IntKind.wrap .i64 (y221 * n_.2.2.2.2.2.1)), n_.2.2.2.2.2.1))))
theorem graph_of_5_is : stepS E cp28 noE 56 [rA tsNode n_, rA tsI3 s_] = Option.bind (graph_of_5 n_ s_) (fun y : (Int × Int) => some (.tup [ri y.1, ri y.2] : R)) := by
  refine .trans ?_ (bind_b fun y221 => some_b)
  refine (stepG_is (nt := 13) (regs := [(0, rA tsNode n_), (1, rA tsI3 s_)])).trans ?_
  refine (pre2 (graph_of_5_r1 n_ s_ _)).trans (bind_g fun y221 => ?_)
  refine (ret_eq).trans ?_
  kernel_rfl
noncomputable def cp29 : CallP := withC cp28 56 [(.agg tsNode), (.agg tsI3)] (.tup [pI, pI]) (fun y : (Int × Int) => (y.1, y.2, ())) (fun x => graph_of_5 x.1 x.2.1)
theorem cp29_ok : PureOK E cp29 := conS eok cp28_ok noE_ok fun x => Eq.mp (by kernel_rfl) (graph_of_5_is x.1 x.2.1)
end
section
variable {α β : Type} (a0_ : Node) (a1_ : I3) (k : St → Option α)
noncomputable abbrev C29 := codeOf E.P 62
noncomputable abbrev P29 := @preK α E 62 cp29 noE
theorem graph_of_7_fz : P29 2 C29 ⟨[(0, rA tsNode a0_), (1, rA tsI3 a1_)], [], [], 6⟩ k = k ⟨[(4, ri 256), (5, ri 0)], [], [], 6⟩ := by kernel_rfl
/-- quilt/graph.of$7 -/
def graph_of_7_q {β : Type} (a0_ : Node) (a1_ : I3) (K : (Int × Int) → β) : β := (K ((256 : Int), (0 : Int)))
def graph_of_7 : (Int × Int) := graph_of_7_q a0_ a1_ (fun y => y)
theorem graph_of_7_n (K : (Int × Int) → β) : graph_of_7_q a0_ a1_ K = K (graph_of_7 a0_ a1_) := rfl
theorem graph_of_7_is : stepS E cp29 noE 62 [rA tsNode a0_, rA tsI3 a1_] = (fun y : (Int × Int) => some (.tup [ri y.1, ri y.2] : R)) (graph_of_7 a0_ a1_) := by
  refine Eq.trans ?_ (graph_of_7_n a0_ a1_ (fun y : (Int × Int) => some (.tup [ri y.1, ri y.2] : R)))
  refine (stepG_is (nt := 6) (regs := [(0, rA tsNode a0_), (1, rA tsI3 a1_)])).trans ?_
  unfold graph_of_7_q
  refine (pre2 (graph_of_7_fz a0_ a1_ _)).trans ?_
  refine (ret_eq).trans ?_
  kernel_rfl
noncomputable def cp30 : CallP := withC cp29 62 [(.agg tsNode), (.agg tsI3)] (.tup [pI, pI]) (fun y : (Int × Int) => (y.1, y.2, ())) (fun x => some (graph_of_7 x.1 x.2.1))
theorem cp30_ok : PureOK E cp30 := conS eok cp29_ok noE_ok fun x => Eq.mp (by kernel_rfl) (graph_of_7_is x.1 x.2.1)
end
noncomputable abbrev C30 := codeOf E.P 29
noncomputable abbrev P30 {α : Type} := @preK α E 29 cp30 noE
theorem graph_Value_3_fz {α : Type} (x_ : Int) (k : St → Option α) : P30 2 C30 ⟨[(0, rk .i32 x_)], [], [], 7⟩ k = k ⟨[(2, rb (!(graph_within (IntKind.wrap .i64 x_) (-16777216 : Int) (16777216 : Int))))], [], [], 7⟩ := by kernel_rfl
/-- quilt/graph.Value$3 -/
def graph_Value_3_q {β : Type} (x_ : Int) (K : Bool → β) : β := (K (!(graph_within (IntKind.wrap .i64 x_) (-16777216 : Int) (16777216 : Int))))
def graph_Value_3 (x_ : Int) : Bool := graph_Value_3_q x_ (fun y => y)
theorem graph_Value_3_n {β : Type} (x_ : Int) (K : Bool → β) : graph_Value_3_q x_ K = K (graph_Value_3 x_) := rfl
theorem graph_Value_3_is (x_ : Int) : stepS E cp30 noE 29 [rk .i32 x_] = (fun y : Bool => some (rb y : R)) (graph_Value_3 x_) := by
  refine Eq.trans ?_ (graph_Value_3_n x_ (fun y : Bool => some (rb y : R)))
  refine (stepG_is (nt := 7) (regs := [(0, rk .i32 x_)])).trans ?_
  unfold graph_Value_3_q
  refine (pre2 (graph_Value_3_fz x_ _)).trans ?_
  refine (ret_eq).trans ?_
  kernel_rfl
noncomputable def cp31 : CallP := withC cp30 29 [(.one (.g (.int .i32)))] (.one pB) (fun y : Bool => y) (fun x => some (graph_Value_3 x.1))
theorem cp31_ok : PureOK E cp31 := conS eok cp30_ok noE_ok fun x => Eq.mp (by kernel_rfl) (graph_Value_3_is x.1)
section
variable {α : Type} (s_ : (List Int)) (s237 : Int) (k : St → Option α) (q : Kont α)
noncomputable abbrev C31 := codeOf E.P 65
noncomputable abbrev P31 := @preK α E 65 cp31 noE
noncomputable abbrev R31 := @runCode α E 65 cp31 noE
abbrev S31_0 : St := ⟨[(0, rl (.one (.int .i32)) s_), (1, .one (.fn 29 []))], [], [], 19⟩
theorem slices_IndexFuncint32_int32_f1 : P31 1 C31 (S31_0 s_) k = k (S31_0 s_) := by kernel_rfl
abbrev S31_1 : St := ⟨[(0, rl (.one (.int .i32)) s_), (1, .one (.fn 29 [])), (7, ri (s_.length : Int)), (8, ri 0)], [], [], 19⟩
theorem slices_IndexFuncint32_int32_f2 : P31 1 C31.r.l (S31_0 s_) k = k (S31_1 s_) := by kernel_rfl
abbrev S31_2 : St := ⟨[(0, rl (.one (.int .i32)) s_), (1, .one (.fn 29 [])), (7, ri (s_.length : Int)), (8, ri s237)], [], [], 19⟩
theorem slices_IndexFuncint32_int32_fz : P31 1 C31.r.l.r.b.b (S31_2 s_ s237) k = k ⟨[(0, rl (.one (.int .i32)) s_), (1, .one (.fn 29 [])), (7, ri (s_.length : Int)), (8, ri s237), (9, rb (decide (s237 < (s_.length : Int))))], [], [], 19⟩ := by kernel_rfl
def slices_IndexFuncint32_int32_r4_p : Option Unit := (bif (decide ((0 : Int) ≤ s237)) then (bif (decide (s237 < (s_.length : Int))) then (some ()) else none) else none)
theorem slices_IndexFuncint32_int32_r4 : P31 2 C31.r.l.r.b.b.r.r.l.b (S31_2 s_ s237) k = Option.bind (slices_IndexFuncint32_int32_r4_p s_ s237) (fun y239 : Unit => k ⟨[(0, rl (.one (.int .i32)) s_), (1, .one (.fn 29 [])), (5, ri s237), (7, ri (s_.length : Int)), (8, ri s237), (16, rb (graph_Value_3 (gt s_ s237 (0 : Int))))], [], [], 19⟩) := .trans (by kernel_rfl) (bif_b (bif_b some_b none_b) none_b)
abbrev S31_3 : St := ⟨[(0, rl (.one (.int .i32)) s_), (1, .one (.fn 29 [])), (5, ri s237), (7, ri (s_.length : Int)), (8, ri s237)], [], [], 19⟩
theorem slices_IndexFuncint32_int32_fzx1 : P31 1 C31.r.l.r.b.b.r.r.l.b.r.r.t (S31_3 s_ s237) k = k ⟨[(4, ri s237)], [], [], 19⟩ := by kernel_rfl
theorem slices_IndexFuncint32_int32_r6 : R31 C31.r.l.r.b.b.r.r.r (S31_2 s_ s237) q = q .normal ⟨[(0, rl (.one (.int .i32)) s_), (1, .one (.fn 29 [])), (7, ri (s_.length : Int)), (8, ri (IntKind.wrap .i64 (s237 + 1)))], [], [], 19⟩ := by kernel_rfl
def slices_IndexFuncint32_int32_l2_p : Option (Int ⊕ (Int ⊕ Int)) := (bif (decide (s237 < (s_.length : Int))) then (Option.bind (slices_IndexFuncint32_int32_r4_p s_ s237) (fun y239 : Unit => (bif (graph_Value_3 (gt s_ s237 (0 : Int))) then (some (Sum.inr (Sum.inr s237))) else (some (Sum.inl (IntKind.wrap .i64 (s237 + 1))))))) else (some (Sum.inr (Sum.inl s237))))
abbrev S31_4 (y240 : Int) : St := ⟨[(0, rl (.one (.int .i32)) s_), (1, .one (.fn 29 [])), (7, ri (s_.length : Int)), (8, ri y240)], [], [], 19⟩
theorem slices_IndexFuncint32_int32_l2_b : R31 C31.r.l.r.b.b (S31_2 s_ s237) (loopKont 0 q) = Option.bind (slices_IndexFuncint32_int32_l2_p s_ s237) (either (fun y : Int => q .normal ⟨[(0, rl (.one (.int .i32)) s_), (1, .one (.fn 29 [])), (7, ri (s_.length : Int)), (8, ri y)], [], [], 19⟩) (either (fun y240 : Int => q (.exit 0) (S31_4 s_ y240)) (fun y241 : Int => q .ret ⟨[(4, ri y241)], [], [], 19⟩))) := by
  refine .trans ?_ (bif_b (bind_b fun y239 => (bif_b e3_2 e3_0)) e3_1)
  refine (pre1 (slices_IndexFuncint32_int32_fz s_ s237 _)).trans ?_
  refine .trans seq_push ?_
  refine (cond_e (b := (decide (s237 < (s_.length : Int)))) (st' := (S31_2 s_ s237)) ).trans (bif_g ?_ ?_)
  · refine (skip_eq).trans ?_
    refine (seqC_normal (st' := (S31_2 s_ s237))).trans ?_
    refine .trans seq_push ?_
    refine (block_push (id := 1)).trans ?_
    refine (pre2 (slices_IndexFuncint32_int32_r4 s_ s237 _)).trans (bind_g fun y239 => ?_)
    refine (cond_e (b := (graph_Value_3 (gt s_ s237 (0 : Int)))) (st' := (S31_3 s_ s237)) ).trans (bif_g ?_ ?_)
    · refine (pre1 (slices_IndexFuncint32_int32_fzx1 s_ s237 _)).trans ?_
      refine (ret_eq).trans ?_
      refine block_ret.trans ?_
      refine seqC_ret.trans ?_
      kernel_rfl
    · refine (skip_eq).trans ?_
      refine block_normal.trans ?_
      refine (seqC_normal (st' := (S31_2 s_ s237))).trans ?_
      refine (slices_IndexFuncint32_int32_r6 s_ s237 _).trans ?_
      kernel_rfl
  · refine ((exit_eq (j := 0))).trans ?_
    refine seqC_exit.trans ?_
    kernel_rfl
theorem slices_IndexFuncint32_int32_l2 : R31 C31.r.l.r.b (S31_1 s_) q = Option.bind (iterN (slices_IndexFuncint32_int32_l2_p s_) LL (0 : Int)) (either (fun y240 : Int => q (.exit 0) (S31_4 s_ y240)) (fun y241 : Int => q .ret ⟨[(4, ri y241)], [], [], 19⟩)) :=
  Eq.trans (by kernel_rfl) (loop_iter2 (S := fun s237 : Int => (S31_2 s_ s237)) (Y1 := fun y240 : Int => ((.exit 0), (S31_4 s_ y240))) (Y2 := fun y241 : Int => (.ret, ⟨[(4, ri y241)], [], [], 19⟩)) (fun s q => slices_IndexFuncint32_int32_l2_b s_ s q) (fun z => rfl) (fun z => rfl) LL (0 : Int))
theorem slices_IndexFuncint32_int32_fzx2 : P31 1 C31.r.r ⟨[], [], [], 19⟩ k = k ⟨[(4, ri (-1 : Int))], [], [], 19⟩ := by kernel_rfl
/-- slices.IndexFunc[[]int32,int32] -/
def slices_IndexFuncint32_int32 : Option Int := (Option.bind (iterN (slices_IndexFuncint32_int32_l2_p s_) LL (0 : Int)) (either (fun y240 : Int => (some (-1 : Int))) (fun y241 : Int => (some y241))))
theorem slices_IndexFuncint32_int32_is : stepS E cp31 noE 65 [rl (.one (.int .i32)) s_, .one (.fn 29 [])] = Option.bind (slices_IndexFuncint32_int32 s_) (fun y : Int => some (ri y : R)) := by
  refine .trans ?_ (bind_b (either_b (fun y240 => some_b) (fun y241 => some_b)))
  refine (stepG_is (nt := 19) (regs := [(0, rl (.one (.int .i32)) s_), (1, .one (.fn 29 []))])).trans ?_
  refine (pre1 (slices_IndexFuncint32_int32_f1 s_ _)).trans ?_
  refine .trans seq_push ?_
  refine (pre1 (slices_IndexFuncint32_int32_f2 s_ _)).trans ?_
  refine (block_push (id := 0)).trans ?_
  refine (slices_IndexFuncint32_int32_l2 s_ _).trans (bind_g (either_g (fun y240 => ?_) (fun y241 => ?_)))
  · refine block_same.trans ?_
    refine (seqC_normal (st' := ⟨[], [], [], 19⟩)).trans ?_
    refine (pre1 (slices_IndexFuncint32_int32_fzx2 _)).trans ?_
    refine (ret_eq).trans ?_
    kernel_rfl
  · refine block_ret.trans ?_
    refine seqC_ret.trans ?_
    kernel_rfl
noncomputable def cp32 : CallP := withC cp31 65 [(.one (.g (.sl (.one (.int .i32))))), (.one (.fn 29 .nil))] (.one pI) (fun y : Int => y) (fun x => slices_IndexFuncint32_int32 x.1)
theorem cp32_ok : PureOK E cp32 := conS eok cp31_ok noE_ok fun x => Eq.mp (by kernel_rfl) (slices_IndexFuncint32_int32_is x.1)
end
noncomputable abbrev C32 := codeOf E.P 28
noncomputable abbrev P32 {α : Type} := @preK α E 28 cp32 noE
theorem slices_ContainsFuncint32_int32_r1 {α : Type} (s_ : (List Int)) (k : St → Option α) : P32 2 C32 ⟨[(0, rl (.one (.int .i32)) s_), (1, .one (.fn 29 []))], [], [], 9⟩ k = Option.bind (slices_IndexFuncint32_int32 s_) fun y242 : Int => k ⟨[(4, rb (decide (y242 ≥ 0)))], [], [], 9⟩ := by kernel_rfl
/-- slices.ContainsFunc[[]int32,int32] -/
def slices_ContainsFuncint32_int32 (s_ : (List Int)) : Option Bool := (Option.bind (slices_IndexFuncint32_int32 s_) (fun y242 : Int => (some (decide (y242 ≥ 0)))))
theorem slices_ContainsFuncint32_int32_is (s_ : (List Int)) : stepS E cp32 noE 28 [rl (.one (.int .i32)) s_, .one (.fn 29 [])] = Option.bind (slices_ContainsFuncint32_int32 s_) (fun y : Bool => some (rb y : R)) := by
  refine .trans ?_ (bind_b fun y242 => some_b)
  refine (stepG_is (nt := 9) (regs := [(0, rl (.one (.int .i32)) s_), (1, .one (.fn 29 []))])).trans ?_
  refine (pre2 (slices_ContainsFuncint32_int32_r1 s_ _)).trans (bind_g fun y242 => ?_)
  refine (ret_eq).trans ?_
  kernel_rfl
noncomputable def cp33 : CallP := withC cp32 28 [(.one (.g (.sl (.one (.int .i32))))), (.one (.fn 29 .nil))] (.one pB) (fun y : Bool => y) (fun x => slices_ContainsFuncint32_int32 x.1)
theorem cp33_ok : PureOK E cp33 := conS eok cp32_ok noE_ok fun x => Eq.mp (by kernel_rfl) (slices_ContainsFuncint32_int32_is x.1)
section
variable {α β : Type} (n_ : Node) (in_ : (List I4)) (y82 : U5) (y213 : (Int × Int × Int)) (y225 : (Int × Int)) (k : St → Option α)
noncomputable abbrev C33 := codeOf E.P 11
noncomputable abbrev P33 := @preK α E 11 cp33 noE
def graph_Value_r1_p : Option U5 := (Option.bind (graph_of n_.1) (fun y18 : U7 => ((either (fun u19 : Unit => ((either (fun u20 : Unit => (some (y18.2, y18.1.1, y18.1.2.1, y18.1.2.2.1, y18.1.2.2.2.1, y18.1.2.2.2.2.1, y18.1.2.2.2.2.2.1, (Sum.inl ()), (Sum.inl ())))) (either (fun u21 : Unit => (some (y18.2, y18.1.1, y18.1.2.1, y18.1.2.2.1, y18.1.2.2.2.1, y18.1.2.2.2.2.1, y18.1.2.2.2.2.2.1, (Sum.inl ()), (Sum.inr (Sum.inl ()))))) (either (fun u22 : Unit => (some (y18.2, y18.1.1, y18.1.2.1, y18.1.2.2.1, y18.1.2.2.2.1, y18.1.2.2.2.2.1, y18.1.2.2.2.2.2.1, (Sum.inl ()), (Sum.inr (Sum.inr (Sum.inl ())))))) (either (fun u23 : Unit => (some (y18.2, y18.1.1, y18.1.2.1, y18.1.2.2.1, y18.1.2.2.2.1, y18.1.2.2.2.2.1, y18.1.2.2.2.2.2.1, (Sum.inl ()), (Sum.inr (Sum.inr (Sum.inr (Sum.inl ()))))))) (either (fun u24 : Unit => (some (y18.2, y18.1.1, y18.1.2.1, y18.1.2.2.1, y18.1.2.2.2.1, y18.1.2.2.2.2.1, y18.1.2.2.2.2.2.1, (Sum.inl ()), (Sum.inr (Sum.inr (Sum.inr (Sum.inr (Sum.inl ())))))))) (fun u25 : Unit => (some (y18.2, y18.1.1, y18.1.2.1, y18.1.2.2.1, y18.1.2.2.2.1, y18.1.2.2.2.2.1, y18.1.2.2.2.2.2.1, (Sum.inl ()), (Sum.inr (Sum.inr (Sum.inr (Sum.inr (Sum.inr ()))))))))))))) y18.1.2.2.2.2.2.2.2.1)) (either (fun u26 : Unit => ((either (fun u27 : Unit => (some (y18.2, y18.1.1, y18.1.2.1, y18.1.2.2.1, y18.1.2.2.2.1, y18.1.2.2.2.2.1, y18.1.2.2.2.2.2.1, (Sum.inr (Sum.inl ())), (Sum.inl ())))) (either (fun u28 : Unit => (some (y18.2, y18.1.1, y18.1.2.1, y18.1.2.2.1, y18.1.2.2.2.1, y18.1.2.2.2.2.1, y18.1.2.2.2.2.2.1, (Sum.inr (Sum.inl ())), (Sum.inr (Sum.inl ()))))) (either (fun u29 : Unit => (some (y18.2, y18.1.1, y18.1.2.1, y18.1.2.2.1, y18.1.2.2.2.1, y18.1.2.2.2.2.1, y18.1.2.2.2.2.2.1, (Sum.inr (Sum.inl ())), (Sum.inr (Sum.inr (Sum.inl ())))))) (either (fun u30 : Unit => (some (y18.2, y18.1.1, y18.1.2.1, y18.1.2.2.1, y18.1.2.2.2.1, y18.1.2.2.2.2.1, y18.1.2.2.2.2.2.1, (Sum.inr (Sum.inl ())), (Sum.inr (Sum.inr (Sum.inr (Sum.inl ()))))))) (either (fun u31 : Unit => (some (y18.2, y18.1.1, y18.1.2.1, y18.1.2.2.1, y18.1.2.2.2.1, y18.1.2.2.2.2.1, y18.1.2.2.2.2.2.1, (Sum.inr (Sum.inl ())), (Sum.inr (Sum.inr (Sum.inr (Sum.inr (Sum.inl ())))))))) (fun u32 : Unit => (some (y18.2, y18.1.1, y18.1.2.1, y18.1.2.2.1, y18.1.2.2.2.1, y18.1.2.2.2.2.1, y18.1.2.2.2.2.2.1, (Sum.inr (Sum.inl ())), (Sum.inr (Sum.inr (Sum.inr (Sum.inr (Sum.inr ()))))))))))))) y18.1.2.2.2.2.2.2.2.1)) (either (fun u33 : Unit => ((either (fun u34 : Unit => (some (y18.2, y18.1.1, y18.1.2.1, y18.1.2.2.1, y18.1.2.2.2.1, y18.1.2.2.2.2.1, y18.1.2.2.2.2.2.1, (Sum.inr (Sum.inr (Sum.inl ()))), (Sum.inl ())))) (either (fun u35 : Unit => (some (y18.2, y18.1.1, y18.1.2.1, y18.1.2.2.1, y18.1.2.2.2.1, y18.1.2.2.2.2.1, y18.1.2.2.2.2.2.1, (Sum.inr (Sum.inr (Sum.inl ()))), (Sum.inr (Sum.inl ()))))) (either (fun u36 : Unit => (some (y18.2, y18.1.1, y18.1.2.1, y18.1.2.2.1, y18.1.2.2.2.1, y18.1.2.2.2.2.1, y18.1.2.2.2.2.2.1, (Sum.inr (Sum.inr (Sum.inl ()))), (Sum.inr (Sum.inr (Sum.inl ())))))) (either (fun u37 : Unit => (some (y18.2, y18.1.1, y18.1.2.1, y18.1.2.2.1, y18.1.2.2.2.1, y18.1.2.2.2.2.1, y18.1.2.2.2.2.2.1, (Sum.inr (Sum.inr (Sum.inl ()))), (Sum.inr (Sum.inr (Sum.inr (Sum.inl ()))))))) (either (fun u38 : Unit => (some (y18.2, y18.1.1, y18.1.2.1, y18.1.2.2.1, y18.1.2.2.2.1, y18.1.2.2.2.2.1, y18.1.2.2.2.2.2.1, (Sum.inr (Sum.inr (Sum.inl ()))), (Sum.inr (Sum.inr (Sum.inr (Sum.inr (Sum.inl ())))))))) (fun u39 : Unit => (some (y18.2, y18.1.1, y18.1.2.1, y18.1.2.2.1, y18.1.2.2.2.1, y18.1.2.2.2.2.1, y18.1.2.2.2.2.2.1, (Sum.inr (Sum.inr (Sum.inl ()))), (Sum.inr (Sum.inr (Sum.inr (Sum.inr (Sum.inr ()))))))))))))) y18.1.2.2.2.2.2.2.2.1)) (either (fun u40 : Unit => ((either (fun u41 : Unit => (some (y18.2, y18.1.1, y18.1.2.1, y18.1.2.2.1, y18.1.2.2.2.1, y18.1.2.2.2.2.1, y18.1.2.2.2.2.2.1, (Sum.inr (Sum.inr (Sum.inr (Sum.inl ())))), (Sum.inl ())))) (either (fun u42 : Unit => (some (y18.2, y18.1.1, y18.1.2.1, y18.1.2.2.1, y18.1.2.2.2.1, y18.1.2.2.2.2.1, y18.1.2.2.2.2.2.1, (Sum.inr (Sum.inr (Sum.inr (Sum.inl ())))), (Sum.inr (Sum.inl ()))))) (either (fun u43 : Unit => (some (y18.2, y18.1.1, y18.1.2.1, y18.1.2.2.1, y18.1.2.2.2.1, y18.1.2.2.2.2.1, y18.1.2.2.2.2.2.1, (Sum.inr (Sum.inr (Sum.inr (Sum.inl ())))), (Sum.inr (Sum.inr (Sum.inl ())))))) (either (fun u44 : Unit => (some (y18.2, y18.1.1, y18.1.2.1, y18.1.2.2.1, y18.1.2.2.2.1, y18.1.2.2.2.2.1, y18.1.2.2.2.2.2.1, (Sum.inr (Sum.inr (Sum.inr (Sum.inl ())))), (Sum.inr (Sum.inr (Sum.inr (Sum.inl ()))))))) (either (fun u45 : Unit => (some (y18.2, y18.1.1, y18.1.2.1, y18.1.2.2.1, y18.1.2.2.2.1, y18.1.2.2.2.2.1, y18.1.2.2.2.2.2.1, (Sum.inr (Sum.inr (Sum.inr (Sum.inl ())))), (Sum.inr (Sum.inr (Sum.inr (Sum.inr (Sum.inl ())))))))) (fun u46 : Unit => (some (y18.2, y18.1.1, y18.1.2.1, y18.1.2.2.1, y18.1.2.2.2.1, y18.1.2.2.2.2.1, y18.1.2.2.2.2.2.1, (Sum.inr (Sum.inr (Sum.inr (Sum.inl ())))), (Sum.inr (Sum.inr (Sum.inr (Sum.inr (Sum.inr ()))))))))))))) y18.1.2.2.2.2.2.2.2.1)) (either (fun u47 : Unit => ((either (fun u48 : Unit => (some (y18.2, y18.1.1, y18.1.2.1, y18.1.2.2.1, y18.1.2.2.2.1, y18.1.2.2.2.2.1, y18.1.2.2.2.2.2.1, (Sum.inr (Sum.inr (Sum.inr (Sum.inr (Sum.inl ()))))), (Sum.inl ())))) (either (fun u49 : Unit => (some (y18.2, y18.1.1, y18.1.2.1, y18.1.2.2.1, y18.1.2.2.2.1, y18.1.2.2.2.2.1, y18.1.2.2.2.2.2.1, (Sum.inr (Sum.inr (Sum.inr (Sum.inr (Sum.inl ()))))), (Sum.inr (Sum.inl ()))))) (either (fun u50 : Unit => (some (y18.2, y18.1.1, y18.1.2.1, y18.1.2.2.1, y18.1.2.2.2.1, y18.1.2.2.2.2.1, y18.1.2.2.2.2.2.1, (Sum.inr (Sum.inr (Sum.inr (Sum.inr (Sum.inl ()))))), (Sum.inr (Sum.inr (Sum.inl ())))))) (either (fun u51 : Unit => (some (y18.2, y18.1.1, y18.1.2.1, y18.1.2.2.1, y18.1.2.2.2.1, y18.1.2.2.2.2.1, y18.1.2.2.2.2.2.1, (Sum.inr (Sum.inr (Sum.inr (Sum.inr (Sum.inl ()))))), (Sum.inr (Sum.inr (Sum.inr (Sum.inl ()))))))) (either (fun u52 : Unit => (some (y18.2, y18.1.1, y18.1.2.1, y18.1.2.2.1, y18.1.2.2.2.1, y18.1.2.2.2.2.1, y18.1.2.2.2.2.2.1, (Sum.inr (Sum.inr (Sum.inr (Sum.inr (Sum.inl ()))))), (Sum.inr (Sum.inr (Sum.inr (Sum.inr (Sum.inl ())))))))) (fun u53 : Unit => (some (y18.2, y18.1.1, y18.1.2.1, y18.1.2.2.1, y18.1.2.2.2.1, y18.1.2.2.2.2.1, y18.1.2.2.2.2.2.1, (Sum.inr (Sum.inr (Sum.inr (Sum.inr (Sum.inl ()))))), (Sum.inr (Sum.inr (Sum.inr (Sum.inr (Sum.inr ()))))))))))))) y18.1.2.2.2.2.2.2.2.1)) (either (fun u54 : Unit => ((either (fun u55 : Unit => (some (y18.2, y18.1.1, y18.1.2.1, y18.1.2.2.1, y18.1.2.2.2.1, y18.1.2.2.2.2.1, y18.1.2.2.2.2.2.1, (Sum.inr (Sum.inr (Sum.inr (Sum.inr (Sum.inr (Sum.inl ())))))), (Sum.inl ())))) (either (fun u56 : Unit => (some (y18.2, y18.1.1, y18.1.2.1, y18.1.2.2.1, y18.1.2.2.2.1, y18.1.2.2.2.2.1, y18.1.2.2.2.2.2.1, (Sum.inr (Sum.inr (Sum.inr (Sum.inr (Sum.inr (Sum.inl ())))))), (Sum.inr (Sum.inl ()))))) (either (fun u57 : Unit => (some (y18.2, y18.1.1, y18.1.2.1, y18.1.2.2.1, y18.1.2.2.2.1, y18.1.2.2.2.2.1, y18.1.2.2.2.2.2.1, (Sum.inr (Sum.inr (Sum.inr (Sum.inr (Sum.inr (Sum.inl ())))))), (Sum.inr (Sum.inr (Sum.inl ())))))) (either (fun u58 : Unit => (some (y18.2, y18.1.1, y18.1.2.1, y18.1.2.2.1, y18.1.2.2.2.1, y18.1.2.2.2.2.1, y18.1.2.2.2.2.2.1, (Sum.inr (Sum.inr (Sum.inr (Sum.inr (Sum.inr (Sum.inl ())))))), (Sum.inr (Sum.inr (Sum.inr (Sum.inl ()))))))) (either (fun u59 : Unit => (some (y18.2, y18.1.1, y18.1.2.1, y18.1.2.2.1, y18.1.2.2.2.1, y18.1.2.2.2.2.1, y18.1.2.2.2.2.2.1, (Sum.inr (Sum.inr (Sum.inr (Sum.inr (Sum.inr (Sum.inl ())))))), (Sum.inr (Sum.inr (Sum.inr (Sum.inr (Sum.inl ())))))))) (fun u60 : Unit => (some (y18.2, y18.1.1, y18.1.2.1, y18.1.2.2.1, y18.1.2.2.2.1, y18.1.2.2.2.2.1, y18.1.2.2.2.2.2.1, (Sum.inr (Sum.inr (Sum.inr (Sum.inr (Sum.inr (Sum.inl ())))))), (Sum.inr (Sum.inr (Sum.inr (Sum.inr (Sum.inr ()))))))))))))) y18.1.2.2.2.2.2.2.2.1)) (either (fun u61 : Unit => ((either (fun u62 : Unit => (some (y18.2, y18.1.1, y18.1.2.1, y18.1.2.2.1, y18.1.2.2.2.1, y18.1.2.2.2.2.1, y18.1.2.2.2.2.2.1, (Sum.inr (Sum.inr (Sum.inr (Sum.inr (Sum.inr (Sum.inr (Sum.inl ()))))))), (Sum.inl ())))) (either (fun u63 : Unit => (some (y18.2, y18.1.1, y18.1.2.1, y18.1.2.2.1, y18.1.2.2.2.1, y18.1.2.2.2.2.1, y18.1.2.2.2.2.2.1, (Sum.inr (Sum.inr (Sum.inr (Sum.inr (Sum.inr (Sum.inr (Sum.inl ()))))))), (Sum.inr (Sum.inl ()))))) (either (fun u64 : Unit => (some (y18.2, y18.1.1, y18.1.2.1, y18.1.2.2.1, y18.1.2.2.2.1, y18.1.2.2.2.2.1, y18.1.2.2.2.2.2.1, (Sum.inr (Sum.inr (Sum.inr (Sum.inr (Sum.inr (Sum.inr (Sum.inl ()))))))), (Sum.inr (Sum.inr (Sum.inl ())))))) (either (fun u65 : Unit => (some (y18.2, y18.1.1, y18.1.2.1, y18.1.2.2.1, y18.1.2.2.2.1, y18.1.2.2.2.2.1, y18.1.2.2.2.2.2.1, (Sum.inr (Sum.inr (Sum.inr (Sum.inr (Sum.inr (Sum.inr (Sum.inl ()))))))), (Sum.inr (Sum.inr (Sum.inr (Sum.inl ()))))))) (either (fun u66 : Unit => (some (y18.2, y18.1.1, y18.1.2.1, y18.1.2.2.1, y18.1.2.2.2.1, y18.1.2.2.2.2.1, y18.1.2.2.2.2.2.1, (Sum.inr (Sum.inr (Sum.inr (Sum.inr (Sum.inr (Sum.inr (Sum.inl ()))))))), (Sum.inr (Sum.inr (Sum.inr (Sum.inr (Sum.inl ())))))))) (fun u67 : Unit => (some (y18.2, y18.1.1, y18.1.2.1, y18.1.2.2.1, y18.1.2.2.2.1, y18.1.2.2.2.2.1, y18.1.2.2.2.2.2.1, (Sum.inr (Sum.inr (Sum.inr (Sum.inr (Sum.inr (Sum.inr (Sum.inl ()))))))), (Sum.inr (Sum.inr (Sum.inr (Sum.inr (Sum.inr ()))))))))))))) y18.1.2.2.2.2.2.2.2.1)) (either (fun u68 : Unit => ((either (fun u69 : Unit => (some (y18.2, y18.1.1, y18.1.2.1, y18.1.2.2.1, y18.1.2.2.2.1, y18.1.2.2.2.2.1, y18.1.2.2.2.2.2.1, (Sum.inr (Sum.inr (Sum.inr (Sum.inr (Sum.inr (Sum.inr (Sum.inr (Sum.inl ())))))))), (Sum.inl ())))) (either (fun u70 : Unit => (some (y18.2, y18.1.1, y18.1.2.1, y18.1.2.2.1, y18.1.2.2.2.1, y18.1.2.2.2.2.1, y18.1.2.2.2.2.2.1, (Sum.inr (Sum.inr (Sum.inr (Sum.inr (Sum.inr (Sum.inr (Sum.inr (Sum.inl ())))))))), (Sum.inr (Sum.inl ()))))) (either (fun u71 : Unit => (some (y18.2, y18.1.1, y18.1.2.1, y18.1.2.2.1, y18.1.2.2.2.1, y18.1.2.2.2.2.1, y18.1.2.2.2.2.2.1, (Sum.inr (Sum.inr (Sum.inr (Sum.inr (Sum.inr (Sum.inr (Sum.inr (Sum.inl ())))))))), (Sum.inr (Sum.inr (Sum.inl ())))))) (either (fun u72 : Unit => (some (y18.2, y18.1.1, y18.1.2.1, y18.1.2.2.1, y18.1.2.2.2.1, y18.1.2.2.2.2.1, y18.1.2.2.2.2.2.1, (Sum.inr (Sum.inr (Sum.inr (Sum.inr (Sum.inr (Sum.inr (Sum.inr (Sum.inl ())))))))), (Sum.inr (Sum.inr (Sum.inr (Sum.inl ()))))))) (either (fun u73 : Unit => (some (y18.2, y18.1.1, y18.1.2.1, y18.1.2.2.1, y18.1.2.2.2.1, y18.1.2.2.2.2.1, y18.1.2.2.2.2.2.1, (Sum.inr (Sum.inr (Sum.inr (Sum.inr (Sum.inr (Sum.inr (Sum.inr (Sum.inl ())))))))), (Sum.inr (Sum.inr (Sum.inr (Sum.inr (Sum.inl ())))))))) (fun u74 : Unit => (some (y18.2, y18.1.1, y18.1.2.1, y18.1.2.2.1, y18.1.2.2.2.1, y18.1.2.2.2.2.1, y18.1.2.2.2.2.2.1, (Sum.inr (Sum.inr (Sum.inr (Sum.inr (Sum.inr (Sum.inr (Sum.inr (Sum.inl ())))))))), (Sum.inr (Sum.inr (Sum.inr (Sum.inr (Sum.inr ()))))))))))))) y18.1.2.2.2.2.2.2.2.1)) (fun u75 : Unit => ((either (fun u76 : Unit => (some (y18.2, y18.1.1, y18.1.2.1, y18.1.2.2.1, y18.1.2.2.2.1, y18.1.2.2.2.2.1, y18.1.2.2.2.2.2.1, (Sum.inr (Sum.inr (Sum.inr (Sum.inr (Sum.inr (Sum.inr (Sum.inr (Sum.inr ())))))))), (Sum.inl ())))) (either (fun u77 : Unit => (some (y18.2, y18.1.1, y18.1.2.1, y18.1.2.2.1, y18.1.2.2.2.1, y18.1.2.2.2.2.1, y18.1.2.2.2.2.2.1, (Sum.inr (Sum.inr (Sum.inr (Sum.inr (Sum.inr (Sum.inr (Sum.inr (Sum.inr ())))))))), (Sum.inr (Sum.inl ()))))) (either (fun u78 : Unit => (some (y18.2, y18.1.1, y18.1.2.1, y18.1.2.2.1, y18.1.2.2.2.1, y18.1.2.2.2.2.1, y18.1.2.2.2.2.2.1, (Sum.inr (Sum.inr (Sum.inr (Sum.inr (Sum.inr (Sum.inr (Sum.inr (Sum.inr ())))))))), (Sum.inr (Sum.inr (Sum.inl ())))))) (either (fun u79 : Unit => (some (y18.2, y18.1.1, y18.1.2.1, y18.1.2.2.1, y18.1.2.2.2.1, y18.1.2.2.2.2.1, y18.1.2.2.2.2.2.1, (Sum.inr (Sum.inr (Sum.inr (Sum.inr (Sum.inr (Sum.inr (Sum.inr (Sum.inr ())))))))), (Sum.inr (Sum.inr (Sum.inr (Sum.inl ()))))))) (either (fun u80 : Unit => (some (y18.2, y18.1.1, y18.1.2.1, y18.1.2.2.1, y18.1.2.2.2.1, y18.1.2.2.2.2.1, y18.1.2.2.2.2.2.1, (Sum.inr (Sum.inr (Sum.inr (Sum.inr (Sum.inr (Sum.inr (Sum.inr (Sum.inr ())))))))), (Sum.inr (Sum.inr (Sum.inr (Sum.inr (Sum.inl ())))))))) (fun u81 : Unit => (some (y18.2, y18.1.1, y18.1.2.1, y18.1.2.2.1, y18.1.2.2.2.1, y18.1.2.2.2.2.1, y18.1.2.2.2.2.2.1, (Sum.inr (Sum.inr (Sum.inr (Sum.inr (Sum.inr (Sum.inr (Sum.inr (Sum.inr ())))))))), (Sum.inr (Sum.inr (Sum.inr (Sum.inr (Sum.inr ()))))))))))))) y18.1.2.2.2.2.2.2.2.1)))))))))) y18.1.2.2.2.2.2.2.1)))
abbrev S33_0 : St := ⟨[(1, rl tsI4 in_), (2, rC tsNode n_), (4, rF 0), (6, rF 1), (7, rb y82.1)], [[di 0, di 0, di 0, di 0], [di y82.2.1, db y82.2.2.1, db y82.2.2.2.1, db y82.2.2.2.2.1, db y82.2.2.2.2.2.1, db y82.2.2.2.2.2.2.1, Ps.enc Z1 y82.2.2.2.2.2.2.2.1, Ps.enc Z0 y82.2.2.2.2.2.2.2.2]], [], 90⟩
theorem graph_Value_r1 : P33 2 C33 ⟨[(0, rA tsNode n_), (1, rl tsI4 in_)], [], [], 90⟩ k = Option.bind (graph_Value_r1_p n_) (fun y82 : U5 => k (S33_0 n_ in_ y82)) := .trans (by kernel_rfl) (bind_b fun y18 => ((either_b (fun u19 => ((either_b (fun u20 => some_b) (either_b (fun u21 => some_b) (either_b (fun u22 => some_b) (either_b (fun u23 => some_b) (either_b (fun u24 => some_b) (fun u25 => some_b)))))) y18.1.2.2.2.2.2.2.2.1)) (either_b (fun u26 => ((either_b (fun u27 => some_b) (either_b (fun u28 => some_b) (either_b (fun u29 => some_b) (either_b (fun u30 => some_b) (either_b (fun u31 => some_b) (fun u32 => some_b)))))) y18.1.2.2.2.2.2.2.2.1)) (either_b (fun u33 => ((either_b (fun u34 => some_b) (either_b (fun u35 => some_b) (either_b (fun u36 => some_b) (either_b (fun u37 => some_b) (either_b (fun u38 => some_b) (fun u39 => some_b)))))) y18.1.2.2.2.2.2.2.2.1)) (either_b (fun u40 => ((either_b (fun u41 => some_b) (either_b (fun u42 => some_b) (either_b (fun u43 => some_b) (either_b (fun u44 => some_b) (either_b (fun u45 => some_b) (fun u46 => some_b)))))) y18.1.2.2.2.2.2.2.2.1)) (either_b (fun u47 => ((either_b (fun u48 => some_b) (either_b (fun u49 => some_b) (either_b (fun u50 => some_b) (either_b (fun u51 => some_b) (either_b (fun u52 => some_b) (fun u53 => some_b)))))) y18.1.2.2.2.2.2.2.2.1)) (either_b (fun u54 => ((either_b (fun u55 => some_b) (either_b (fun u56 => some_b) (either_b (fun u57 => some_b) (either_b (fun u58 => some_b) (either_b (fun u59 => some_b) (fun u60 => some_b)))))) y18.1.2.2.2.2.2.2.2.1)) (either_b (fun u61 => ((either_b (fun u62 => some_b) (either_b (fun u63 => some_b) (either_b (fun u64 => some_b) (either_b (fun u65 => some_b) (either_b (fun u66 => some_b) (fun u67 => some_b)))))) y18.1.2.2.2.2.2.2.2.1)) (either_b (fun u68 => ((either_b (fun u69 => some_b) (either_b (fun u70 => some_b) (either_b (fun u71 => some_b) (either_b (fun u72 => some_b) (either_b (fun u73 => some_b) (fun u74 => some_b)))))) y18.1.2.2.2.2.2.2.2.1)) (fun u75 => ((either_b (fun u76 => some_b) (either_b (fun u77 => some_b) (either_b (fun u78 => some_b) (either_b (fun u79 => some_b) (either_b (fun u80 => some_b) (fun u81 => some_b)))))) y18.1.2.2.2.2.2.2.2.1)))))))))) y18.1.2.2.2.2.2.2.1))
def graph_Value_r2_q (K : Bool → β) : β := (bif (!y82.1) then (K true) else (K (!(graph_kind_may y82.2.1 y82.2.2.1 y82.2.2.2.1 y82.2.2.2.2.1 y82.2.2.2.2.2.1 y82.2.2.2.2.2.2.1 y82.2.2.2.2.2.2.2.1 y82.2.2.2.2.2.2.2.2 n_ in_))))
def graph_Value_r2_p : Bool := graph_Value_r2_q n_ in_ y82 (fun y => y)
theorem graph_Value_r2_n (K : Bool → β) : graph_Value_r2_q n_ in_ y82 K = K (graph_Value_r2_p n_ in_ y82) := (bif_k K rfl rfl)
theorem graph_Value_r2 : P33 1 C33.r.r.l (S33_0 n_ in_ y82) k = k ⟨[(1, rl tsI4 in_), (2, rC tsNode n_), (4, rF 0), (6, rF 1), (25, rb (graph_Value_r2_p n_ in_ y82))], [[di 0, di 0, di 0, di 0], [di y82.2.1, db y82.2.2.1, db y82.2.2.2.1, db y82.2.2.2.2.1, db y82.2.2.2.2.2.1, db y82.2.2.2.2.2.2.1, Ps.enc Z1 y82.2.2.2.2.2.2.2.1, Ps.enc Z0 y82.2.2.2.2.2.2.2.2]], [], 90⟩ := Eq.trans (by (rcases y82 with ⟨_, _, _, _, _, _, _, (_ | _ | _ | _ | _ | _ | _ | _ | _), (_ | _ | _ | _ | _ | _)⟩ <;> kernel_rfl)) (graph_Value_r2_n n_ in_ y82 (fun y97 : Bool => k ⟨[(1, rl tsI4 in_), (2, rC tsNode n_), (4, rF 0), (6, rF 1), (25, rb y97)], [[di 0, di 0, di 0, di 0], [di y82.2.1, db y82.2.2.1, db y82.2.2.2.1, db y82.2.2.2.2.1, db y82.2.2.2.2.2.1, db y82.2.2.2.2.2.2.1, Ps.enc Z1 y82.2.2.2.2.2.2.2.1, Ps.enc Z0 y82.2.2.2.2.2.2.2.2]], [], 90⟩))
abbrev S33_1 : St := ⟨[(1, rl tsI4 in_), (2, rC tsNode n_), (4, rF 0), (6, rF 1)], [[di 0, di 0, di 0, di 0], [di y82.2.1, db y82.2.2.1, db y82.2.2.2.1, db y82.2.2.2.2.1, db y82.2.2.2.2.2.1, db y82.2.2.2.2.2.2.1, Ps.enc Z1 y82.2.2.2.2.2.2.2.1, Ps.enc Z0 y82.2.2.2.2.2.2.2.2]], [], 90⟩
abbrev S33_2 : St := ⟨[(4, rF 0), (5, ri 11)], [[di 0, di 0, di 0, di 0], []], [], 90⟩
theorem graph_Value_fz : P33 1 C33.r.r.l.r.t (S33_1 n_ in_ y82) k = k S33_2 := by (rcases y82 with ⟨_, _, _, _, _, _, _, (_ | _ | _ | _ | _ | _ | _ | _ | _), (_ | _ | _ | _ | _ | _)⟩ <;> kernel_rfl)
def graph_Value_r4_p : Option Bool := (bif y82.2.2.2.2.2.2.1 then (Option.bind (slices_ContainsFuncapi_Value_api_Value in_ n_) (fun y117 : Bool => (some y117))) else (some false))
theorem graph_Value_r4 : P33 1 C33.r.r.r.l (S33_1 n_ in_ y82) k = Option.bind (graph_Value_r4_p n_ in_ y82) (fun y118 : Bool => k ⟨[(1, rl tsI4 in_), (2, rC tsNode n_), (4, rF 0), (6, rF 1), (33, rb y118)], [[di 0, di 0, di 0, di 0], [di y82.2.1, db y82.2.2.1, db y82.2.2.2.1, db y82.2.2.2.2.1, db y82.2.2.2.2.2.1, db y82.2.2.2.2.2.2.1, Ps.enc Z1 y82.2.2.2.2.2.2.2.1, Ps.enc Z0 y82.2.2.2.2.2.2.2.2]], [], 90⟩) := .trans (by (rcases y82 with ⟨_, _, _, _, _, _, _, (_ | _ | _ | _ | _ | _ | _ | _ | _), (_ | _ | _ | _ | _ | _)⟩ <;> kernel_rfl)) (bif_b (bind_b fun y117 => some_b) some_b)
theorem graph_Value_fzx1 : P33 1 C33.r.r.r.l.r.t (S33_1 n_ in_ y82) k = k S33_2 := by (rcases y82 with ⟨_, _, _, _, _, _, _, (_ | _ | _ | _ | _ | _ | _ | _ | _), (_ | _ | _ | _ | _ | _)⟩ <;> kernel_rfl)
theorem graph_Value_r6 : P33 1 C33.r.r.r.r.l (S33_1 n_ in_ y82) k = Option.bind (slices_ContainsFuncapi_Value_api_Value_s2 in_) fun y175 : Bool => k ⟨[(1, rl tsI4 in_), (2, rC tsNode n_), (4, rF 0), (6, rF 1), (36, rb y175)], [[di 0, di 0, di 0, di 0], [di y82.2.1, db y82.2.2.1, db y82.2.2.2.1, db y82.2.2.2.2.1, db y82.2.2.2.2.2.1, db y82.2.2.2.2.2.2.1, Ps.enc Z1 y82.2.2.2.2.2.2.2.1, Ps.enc Z0 y82.2.2.2.2.2.2.2.2]], [], 90⟩ := by (rcases y82 with ⟨_, _, _, _, _, _, _, (_ | _ | _ | _ | _ | _ | _ | _ | _), (_ | _ | _ | _ | _ | _)⟩ <;> kernel_rfl)
theorem graph_Value_fzx2 : P33 1 C33.r.r.r.r.l.r.t (S33_1 n_ in_ y82) k = k ⟨[(4, rF 0), (5, ri 10)], [[di 0, di 0, di 0, di 0], []], [], 90⟩ := by (rcases y82 with ⟨_, _, _, _, _, _, _, (_ | _ | _ | _ | _ | _ | _ | _ | _), (_ | _ | _ | _ | _ | _)⟩ <;> kernel_rfl)
def graph_Value_r8_p : Option (Int × Int × Int) := (bif (decide ((0 : Int) < (in_.length : Int))) then (bif (decide ((0 : Int) ≤ (IntKind.wrap .i64 ((in_.length : Int) - 1)))) then (bif (decide ((IntKind.wrap .i64 ((in_.length : Int) - 1)) < (in_.length : Int))) then ((either (fun u176 : Unit => (some (graph_first n_ ((gt in_ (0 : Int) dI4).1, (gt in_ (0 : Int) dI4).2.1, (gt in_ (0 : Int) dI4).2.2.1) ((gt in_ (IntKind.wrap .i64 ((in_.length : Int) - 1)) dI4).1, (gt in_ (IntKind.wrap .i64 ((in_.length : Int) - 1)) dI4).2.1, (gt in_ (IntKind.wrap .i64 ((in_.length : Int) - 1)) dI4).2.2.1)))) (either (fun u177 : Unit => (Option.bind (graph_of_1 n_ ((gt in_ (0 : Int) dI4).1, (gt in_ (0 : Int) dI4).2.1, (gt in_ (0 : Int) dI4).2.2.1) ((gt in_ (IntKind.wrap .i64 ((in_.length : Int) - 1)) dI4).1, (gt in_ (IntKind.wrap .i64 ((in_.length : Int) - 1)) dI4).2.1, (gt in_ (IntKind.wrap .i64 ((in_.length : Int) - 1)) dI4).2.2.1)) (fun y191 : I3 => (some y191)))) (either (fun u192 : Unit => (Option.bind (graph_pooled n_ ((gt in_ (0 : Int) dI4).1, (gt in_ (0 : Int) dI4).2.1, (gt in_ (0 : Int) dI4).2.2.1) ((gt in_ (IntKind.wrap .i64 ((in_.length : Int) - 1)) dI4).1, (gt in_ (IntKind.wrap .i64 ((in_.length : Int) - 1)) dI4).2.1, (gt in_ (IntKind.wrap .i64 ((in_.length : Int) - 1)) dI4).2.2.1)) (fun y194 : I3 => (some y194)))) (either (fun u195 : Unit => (some (graph_of_4 n_ ((gt in_ (0 : Int) dI4).1, (gt in_ (0 : Int) dI4).2.1, (gt in_ (0 : Int) dI4).2.2.1) ((gt in_ (IntKind.wrap .i64 ((in_.length : Int) - 1)) dI4).1, (gt in_ (IntKind.wrap .i64 ((in_.length : Int) - 1)) dI4).2.1, (gt in_ (IntKind.wrap .i64 ((in_.length : Int) - 1)) dI4).2.2.1)))) (either (fun u196 : Unit => (some (graph_same n_ ((gt in_ (0 : Int) dI4).1, (gt in_ (0 : Int) dI4).2.1, (gt in_ (0 : Int) dI4).2.2.1) ((gt in_ (IntKind.wrap .i64 ((in_.length : Int) - 1)) dI4).1, (gt in_ (IntKind.wrap .i64 ((in_.length : Int) - 1)) dI4).2.1, (gt in_ (IntKind.wrap .i64 ((in_.length : Int) - 1)) dI4).2.2.1)))) (either (fun u197 : Unit => (some (graph_of_6 n_ ((gt in_ (0 : Int) dI4).1, (gt in_ (0 : Int) dI4).2.1, (gt in_ (0 : Int) dI4).2.2.1) ((gt in_ (IntKind.wrap .i64 ((in_.length : Int) - 1)) dI4).1, (gt in_ (IntKind.wrap .i64 ((in_.length : Int) - 1)) dI4).2.1, (gt in_ (IntKind.wrap .i64 ((in_.length : Int) - 1)) dI4).2.2.1)))) (either (fun u198 : Unit => (some (graph_beside n_ ((gt in_ (0 : Int) dI4).1, (gt in_ (0 : Int) dI4).2.1, (gt in_ (0 : Int) dI4).2.2.1) ((gt in_ (IntKind.wrap .i64 ((in_.length : Int) - 1)) dI4).1, (gt in_ (IntKind.wrap .i64 ((in_.length : Int) - 1)) dI4).2.1, (gt in_ (IntKind.wrap .i64 ((in_.length : Int) - 1)) dI4).2.2.1)))) (either (fun u201 : Unit => (Option.bind (graph_anew n_ ((gt in_ (0 : Int) dI4).1, (gt in_ (0 : Int) dI4).2.1, (gt in_ (0 : Int) dI4).2.2.1) ((gt in_ (IntKind.wrap .i64 ((in_.length : Int) - 1)) dI4).1, (gt in_ (IntKind.wrap .i64 ((in_.length : Int) - 1)) dI4).2.1, (gt in_ (IntKind.wrap .i64 ((in_.length : Int) - 1)) dI4).2.2.1)) (fun y211 : I3 => (some y211)))) (fun u212 : Unit => none))))))))) y82.2.2.2.2.2.2.2.1) else none) else none) else none)
abbrev S33_3 : St := ⟨[(1, rl tsI4 in_), (2, rC tsNode n_), (4, rF 0), (6, rF 1), (8, rF 2)], [[di 0, di 0, di 0, di 0], [di y82.2.1, db y82.2.2.1, db y82.2.2.2.1, db y82.2.2.2.2.1, db y82.2.2.2.2.2.1, db y82.2.2.2.2.2.2.1, Ps.enc Z1 y82.2.2.2.2.2.2.2.1, Ps.enc Z0 y82.2.2.2.2.2.2.2.2], (tsI3.leaves y213)], [], 90⟩
theorem graph_Value_r8 : P33 1 C33.r.r.r.r.r (S33_1 n_ in_ y82) k = Option.bind (graph_Value_r8_p n_ in_ y82) (fun y213 : (Int × Int × Int) => k (S33_3 n_ in_ y82 y213)) := .trans (by (rcases y82 with ⟨_, _, _, _, _, _, _, (_ | _ | _ | _ | _ | _ | _ | _ | _), (_ | _ | _ | _ | _ | _)⟩ <;> kernel_rfl)) (bif_b (bif_b (bif_b ((either_b (fun u176 => some_b) (either_b (fun u177 => (bind_b fun y191 => some_b)) (either_b (fun u192 => (bind_b fun y194 => some_b)) (either_b (fun u195 => some_b) (either_b (fun u196 => some_b) (either_b (fun u197 => some_b) (either_b (fun u198 => some_b) (either_b (fun u201 => (bind_b fun y211 => some_b)) (fun u212 => none_b))))))))) y82.2.2.2.2.2.2.2.1) none_b) none_b) none_b)
theorem graph_Value_r9 : P33 1 C33.r.r.r.r.r.r.l (S33_3 n_ in_ y82 y213) k = Option.bind (shape_May y213) fun y215 : Int => k ⟨[(1, rl tsI4 in_), (2, rC tsNode n_), (4, rF 0), (6, rF 1), (8, rF 2), (55, rb (y215 != 0))], [[di 0, di 0, di 0, di 0], [di y82.2.1, db y82.2.2.1, db y82.2.2.2.1, db y82.2.2.2.2.1, db y82.2.2.2.2.2.1, db y82.2.2.2.2.2.2.1, Ps.enc Z1 y82.2.2.2.2.2.2.2.1, Ps.enc Z0 y82.2.2.2.2.2.2.2.2], (tsI3.leaves y213)], [], 90⟩ := by (rcases y82 with ⟨_, _, _, _, _, _, _, (_ | _ | _ | _ | _ | _ | _ | _ | _), (_ | _ | _ | _ | _ | _)⟩ <;> kernel_rfl)
theorem graph_Value_fzx3 : P33 1 C33.r.r.r.r.r.r.l.r.t (S33_3 n_ in_ y82 y213) k = k ⟨[(4, rF 0), (5, ri 10)], [[di 0, di 0, di 0, di 0], [], []], [], 90⟩ := by (rcases y82 with ⟨_, _, _, _, _, _, _, (_ | _ | _ | _ | _ | _ | _ | _ | _), (_ | _ | _ | _ | _ | _)⟩ <;> kernel_rfl)
def graph_Value_r11_p : Option (Int × Int) := (bif (decide ((0 : Int) < (in_.length : Int))) then ((either (fun u216 : Unit => (some (graph_bare n_ ((gt in_ (0 : Int) dI4).1, (gt in_ (0 : Int) dI4).2.1, (gt in_ (0 : Int) dI4).2.2.1)))) (either (fun u217 : Unit => (some (graph_of_2 n_ ((gt in_ (0 : Int) dI4).1, (gt in_ (0 : Int) dI4).2.1, (gt in_ (0 : Int) dI4).2.2.1)))) (either (fun u219 : Unit => (some (graph_of_3 n_ ((gt in_ (0 : Int) dI4).1, (gt in_ (0 : Int) dI4).2.1, (gt in_ (0 : Int) dI4).2.2.1)))) (either (fun u220 : Unit => (Option.bind (graph_of_5 n_ ((gt in_ (0 : Int) dI4).1, (gt in_ (0 : Int) dI4).2.1, (gt in_ (0 : Int) dI4).2.2.1)) (fun y222 : (Int × Int) => (some y222)))) (either (fun u223 : Unit => (some (graph_of_7 n_ ((gt in_ (0 : Int) dI4).1, (gt in_ (0 : Int) dI4).2.1, (gt in_ (0 : Int) dI4).2.2.1)))) (fun u224 : Unit => none)))))) y82.2.2.2.2.2.2.2.2) else none)
abbrev S33_4 : St := ⟨[(2, rC tsNode n_), (4, rF 0), (8, rF 2), (9, ri y225.1), (10, ri y225.2)], [[di 0, di 0, di 0, di 0], [], (tsI3.leaves y213)], [], 90⟩
theorem graph_Value_r11 : P33 1 C33.r.r.r.r.r.r.r (S33_3 n_ in_ y82 y213) k = Option.bind (graph_Value_r11_p n_ in_ y82) (fun y225 : (Int × Int) => k (S33_4 n_ y213 y225)) := .trans (by (rcases y82 with ⟨_, _, _, _, _, _, _, (_ | _ | _ | _ | _ | _ | _ | _ | _), (_ | _ | _ | _ | _ | _)⟩ <;> kernel_rfl)) (bif_b ((either_b (fun u216 => some_b) (either_b (fun u217 => some_b) (either_b (fun u219 => some_b) (either_b (fun u220 => (bind_b fun y222 => some_b)) (either_b (fun u223 => some_b) (fun u224 => none_b)))))) y82.2.2.2.2.2.2.2.2) none_b)
def graph_Value_r12_p : Option Bool := (bif ((n_.2.2.2.2.2.2.2.2.2.2.2.2.1.length : Int) != y225.1) then (some true) else (bif ((n_.2.2.2.2.2.2.2.2.2.2.2.2.2.length : Int) != y225.2) then (some true) else (Option.bind (slices_ContainsFuncint32_int32 n_.2.2.2.2.2.2.2.2.2.2.2.2.2) (fun y245 : Bool => (some y245)))))
theorem graph_Value_r12 : P33 1 C33.r.r.r.r.r.r.r.r.l (S33_4 n_ y213 y225) k = Option.bind (graph_Value_r12_p n_ y225) (fun y246 : Bool => k ⟨[(2, rC tsNode n_), (4, rF 0), (8, rF 2), (84, rb y246)], [[di 0, di 0, di 0, di 0], [], (tsI3.leaves y213)], [], 90⟩) := .trans (by kernel_rfl) (bif_b some_b (bif_b some_b (bind_b fun y245 => some_b)))
abbrev S33_5 : St := ⟨[(2, rC tsNode n_), (4, rF 0), (8, rF 2)], [[di 0, di 0, di 0, di 0], [], (tsI3.leaves y213)], [], 90⟩
theorem graph_Value_fzx4 : P33 1 C33.r.r.r.r.r.r.r.r.l.r.t (S33_5 n_ y213) k = k ⟨[(4, rF 0), (5, ri 12)], [[di 0, di 0, di 0, di 0], [], []], [], 90⟩ := by kernel_rfl
theorem graph_Value_fzx5 : P33 1 C33.r.r.r.r.r.r.r.r.r (S33_5 n_ y213) k = k ⟨[(4, rF 0), (5, ri 0)], [[di y213.1, di y213.2.1, di y213.2.2, di n_.2.2.2.2.2.2.2.2.1], [], []], [], 90⟩ := by kernel_rfl
/-- quilt/graph.Value -/
def graph_Value : Option (I4 × Int) := (Option.bind (graph_Value_r1_p n_) (fun y82 : U5 => (bif (graph_Value_r2_p n_ in_ y82) then (some (((0 : Int), (0 : Int), (0 : Int), (0 : Int)), (11 : Int))) else (Option.bind (graph_Value_r4_p n_ in_ y82) (fun y118 : Bool => (bif y118 then (some (((0 : Int), (0 : Int), (0 : Int), (0 : Int)), (11 : Int))) else (Option.bind (slices_ContainsFuncapi_Value_api_Value_s2 in_) (fun y175 : Bool => (bif y175 then (some (((0 : Int), (0 : Int), (0 : Int), (0 : Int)), (10 : Int))) else (Option.bind (graph_Value_r8_p n_ in_ y82) (fun y213 : (Int × Int × Int) => (Option.bind (shape_May y213) (fun y215 : Int => (bif (y215 != 0) then (some (((0 : Int), (0 : Int), (0 : Int), (0 : Int)), (10 : Int))) else (Option.bind (graph_Value_r11_p n_ in_ y82) (fun y225 : (Int × Int) => (Option.bind (graph_Value_r12_p n_ y225) (fun y246 : Bool => (bif y246 then (some (((0 : Int), (0 : Int), (0 : Int), (0 : Int)), (12 : Int))) else (some ((y213.1, y213.2.1, y213.2.2, n_.2.2.2.2.2.2.2.2.1), (0 : Int))))))))))))))))))))))
theorem graph_Value_is : stepS E cp33 noE 11 [rA tsNode n_, rl tsI4 in_] = Option.bind (graph_Value n_ in_) (fun y : (I4 × Int) => some (.tup [rA tsI4 y.1, ri y.2] : R)) := by
  refine .trans ?_ (bind_b fun y82 => (bif_b some_b (bind_b fun y118 => (bif_b some_b (bind_b fun y175 => (bif_b some_b (bind_b fun y213 => (bind_b fun y215 => (bif_b some_b (bind_b fun y225 => (bind_b fun y246 => (bif_b some_b some_b))))))))))))
  refine (stepG_is (nt := 90) (regs := [(0, rA tsNode n_), (1, rl tsI4 in_)])).trans ?_
  refine (pre2 (graph_Value_r1 n_ in_ _)).trans (bind_g fun y82 => ?_)
  refine .trans seq_push ?_
  refine (pre1 (graph_Value_r2 n_ in_ y82 _)).trans ?_
  refine (cond_e (b := (graph_Value_r2_p n_ in_ y82)) (st' := (S33_1 n_ in_ y82)) (hs := by (rcases y82 with ⟨_, _, _, _, _, _, _, (_ | _ | _ | _ | _ | _ | _ | _ | _), (_ | _ | _ | _ | _ | _)⟩ <;> kernel_rfl))).trans (bif_g ?_ ?_)
  · refine (pre1 (graph_Value_fz n_ in_ y82 _)).trans ?_
    refine (ret_eq).trans ?_
    refine seqC_ret.trans ?_
    (rcases y82 with ⟨_, _, _, _, _, _, _, (_ | _ | _ | _ | _ | _ | _ | _ | _), (_ | _ | _ | _ | _ | _)⟩ <;> kernel_rfl)
  · refine (skip_eq).trans ?_
    refine (seqC_normal (st' := (S33_1 n_ in_ y82)) (hs := by (rcases y82 with ⟨_, _, _, _, _, _, _, (_ | _ | _ | _ | _ | _ | _ | _ | _), (_ | _ | _ | _ | _ | _)⟩ <;> kernel_rfl))).trans ?_
    refine .trans seq_push ?_
    refine (pre1 (graph_Value_r4 n_ in_ y82 _)).trans (bind_g fun y118 => ?_)
    refine (cond_e (b := y118) (st' := (S33_1 n_ in_ y82)) (hs := by (rcases y82 with ⟨_, _, _, _, _, _, _, (_ | _ | _ | _ | _ | _ | _ | _ | _), (_ | _ | _ | _ | _ | _)⟩ <;> kernel_rfl))).trans (bif_g ?_ ?_)
    · refine (pre1 (graph_Value_fzx1 n_ in_ y82 _)).trans ?_
      refine (ret_eq).trans ?_
      refine seqC_ret.trans ?_
      (rcases y82 with ⟨_, _, _, _, _, _, _, (_ | _ | _ | _ | _ | _ | _ | _ | _), (_ | _ | _ | _ | _ | _)⟩ <;> kernel_rfl)
    · refine (skip_eq).trans ?_
      refine (seqC_normal (st' := (S33_1 n_ in_ y82)) (hs := by (rcases y82 with ⟨_, _, _, _, _, _, _, (_ | _ | _ | _ | _ | _ | _ | _ | _), (_ | _ | _ | _ | _ | _)⟩ <;> kernel_rfl))).trans ?_
      refine .trans seq_push ?_
      refine (pre1 (graph_Value_r6 n_ in_ y82 _)).trans (bind_g fun y175 => ?_)
      refine (cond_e (b := y175) (st' := (S33_1 n_ in_ y82)) (hs := by (rcases y82 with ⟨_, _, _, _, _, _, _, (_ | _ | _ | _ | _ | _ | _ | _ | _), (_ | _ | _ | _ | _ | _)⟩ <;> kernel_rfl))).trans (bif_g ?_ ?_)
      · refine (pre1 (graph_Value_fzx2 n_ in_ y82 _)).trans ?_
        refine (ret_eq).trans ?_
        refine seqC_ret.trans ?_
        (rcases y82 with ⟨_, _, _, _, _, _, _, (_ | _ | _ | _ | _ | _ | _ | _ | _), (_ | _ | _ | _ | _ | _)⟩ <;> kernel_rfl)
      · refine (skip_eq).trans ?_
        refine (seqC_normal (st' := (S33_1 n_ in_ y82)) (hs := by (rcases y82 with ⟨_, _, _, _, _, _, _, (_ | _ | _ | _ | _ | _ | _ | _ | _), (_ | _ | _ | _ | _ | _)⟩ <;> kernel_rfl))).trans ?_
        refine (pre1 (graph_Value_r8 n_ in_ y82 _)).trans (bind_g fun y213 => ?_)
        refine .trans seq_push ?_
        refine (pre1 (graph_Value_r9 n_ in_ y82 y213 _)).trans (bind_g fun y215 => ?_)
        refine (cond_e (b := (y215 != 0)) (st' := (S33_3 n_ in_ y82 y213)) (hs := by (rcases y82 with ⟨_, _, _, _, _, _, _, (_ | _ | _ | _ | _ | _ | _ | _ | _), (_ | _ | _ | _ | _ | _)⟩ <;> kernel_rfl))).trans (bif_g ?_ ?_)
        · refine (pre1 (graph_Value_fzx3 n_ in_ y82 y213 _)).trans ?_
          refine (ret_eq).trans ?_
          refine seqC_ret.trans ?_
          (rcases y82 with ⟨_, _, _, _, _, _, _, (_ | _ | _ | _ | _ | _ | _ | _ | _), (_ | _ | _ | _ | _ | _)⟩ <;> kernel_rfl)
        · refine (skip_eq).trans ?_
          refine (seqC_normal (st' := (S33_3 n_ in_ y82 y213)) (hs := by (rcases y82 with ⟨_, _, _, _, _, _, _, (_ | _ | _ | _ | _ | _ | _ | _ | _), (_ | _ | _ | _ | _ | _)⟩ <;> kernel_rfl))).trans ?_
          refine (pre1 (graph_Value_r11 n_ in_ y82 y213 _)).trans (bind_g fun y225 => ?_)
          refine .trans seq_push ?_
          refine (pre1 (graph_Value_r12 n_ y213 y225 _)).trans (bind_g fun y246 => ?_)
          refine (cond_e (b := y246) (st' := (S33_5 n_ y213)) (hs := by (rcases y82 with ⟨_, _, _, _, _, _, _, (_ | _ | _ | _ | _ | _ | _ | _ | _), (_ | _ | _ | _ | _ | _)⟩ <;> kernel_rfl))).trans (bif_g ?_ ?_)
          · refine (pre1 (graph_Value_fzx4 n_ y213 _)).trans ?_
            refine (ret_eq).trans ?_
            refine seqC_ret.trans ?_
            (rcases y82 with ⟨_, _, _, _, _, _, _, (_ | _ | _ | _ | _ | _ | _ | _ | _), (_ | _ | _ | _ | _ | _)⟩ <;> kernel_rfl)
          · refine (skip_eq).trans ?_
            refine (seqC_normal (st' := (S33_5 n_ y213)) (hs := by (rcases y82 with ⟨_, _, _, _, _, _, _, (_ | _ | _ | _ | _ | _ | _ | _ | _), (_ | _ | _ | _ | _ | _)⟩ <;> kernel_rfl))).trans ?_
            refine (pre1 (graph_Value_fzx5 n_ y213 _)).trans ?_
            refine (ret_eq).trans ?_
            (rcases y82 with ⟨_, _, _, _, _, _, _, (_ | _ | _ | _ | _ | _ | _ | _ | _), (_ | _ | _ | _ | _ | _)⟩ <;> kernel_rfl)
noncomputable def cp34 : CallP := withC cp33 11 [(.agg tsNode), (pL tsI4)] (.tup [(.agg tsI4), pI]) (fun y : (I4 × Int) => (y.1, y.2, ())) (fun x => graph_Value x.1 x.2.1)
theorem cp34_ok : PureOK E cp34 := conS eok cp33_ok noE_ok fun x => Eq.mp (by kernel_rfl) (graph_Value_is x.1 x.2.1)
end
noncomputable abbrev C34 := codeOf E.P 10
noncomputable abbrev P34 {α : Type} := @preK α E 10 cp34 noE
abbrev S34_0 (y247 : (I4 × Int)) : St := ⟨[(1, rF 0), (2, ri y247.2)], [(tsI4.leaves y247.1)], [], 19⟩
theorem law03_shown_r1 {α : Type} (k : St → Option α) : P34 2 C34 ⟨[], [], [], 19⟩ k = Option.bind (graph_Value ((4 : Int), [], (2 : Int), (2 : Int), (0 : Int), (0 : Int), (1 : Int), (0 : Int), (0 : Int), (0 : Int), (0 : Int), (0 : Int), [], []) [((5 : Int), (4 : Int), (3 : Int), (0 : Int))]) fun y247 : (I4 × Int) => k (S34_0 y247) := by kernel_rfl
def law03_shown_r2_q {β : Type} (y247 : (I4 × Int)) (K : Bool → β) : β := (bif ((y247.1.1 == 2) && ((y247.1.2.1 == 2) && ((y247.1.2.2.1 == 3) && true))) then (K (y247.2 == 0)) else (K false))
def law03_shown_r2_p (y247 : (I4 × Int)) : Bool := law03_shown_r2_q y247 (fun y => y)
theorem law03_shown_r2_n {β : Type} (y247 : (I4 × Int)) (K : Bool → β) : law03_shown_r2_q y247 K = K (law03_shown_r2_p y247) := (bif_k K rfl rfl)
theorem law03_shown_r2 {α : Type} (y247 : (I4 × Int)) (k : St → Option α) : P34 1 C34.r.r (S34_0 y247) k = k ⟨[(0, rb (law03_shown_r2_p y247))], [[]], [], 19⟩ := Eq.trans (by kernel_rfl) (law03_shown_r2_n y247 (fun y248 : Bool => k ⟨[(0, rb y248)], [[]], [], 19⟩))
/-- quilt/quiltlaw03.shown -/
def law03_shown : Option Bool := (Option.bind (graph_Value ((4 : Int), [], (2 : Int), (2 : Int), (0 : Int), (0 : Int), (1 : Int), (0 : Int), (0 : Int), (0 : Int), (0 : Int), (0 : Int), [], []) [((5 : Int), (4 : Int), (3 : Int), (0 : Int))]) (fun y247 : (I4 × Int) => (some (law03_shown_r2_p y247))))
theorem law03_shown_is : stepS E cp34 noE 10 [] = Option.bind (law03_shown) (fun y : Bool => some (rb y : R)) := by
  refine .trans ?_ (bind_b fun y247 => some_b)
  refine (stepG_is (nt := 19) (regs := [])).trans ?_
  refine (pre2 (law03_shown_r1 _)).trans (bind_g fun y247 => ?_)
  refine (pre1 (law03_shown_r2 y247 _)).trans ?_
  refine (ret_eq).trans ?_
  kernel_rfl
noncomputable def cp35 : CallP := withC cp34 10 [] (.one pB) (fun y : Bool => y) (fun x => law03_shown)
theorem cp35_ok : PureOK E cp35 := conS eok cp34_ok noE_ok fun x => Eq.mp (by kernel_rfl) (law03_shown_is)
section
variable {α : Type} (n_ : Node) (y258 : (List Int)) (y260 : (List Int)) (y262 : (List Int)) (k : St → Option α) (q : Kont α)
noncomputable abbrev C35 := codeOf E.P 12
noncomputable abbrev P35 := @preK α E 12 cp35 noE
noncomputable abbrev R35 := @runCode α E 12 cp35 noE
noncomputable abbrev Q35 := @seqC α E 12 cp35 noE
abbrev S35_0 : St := ⟨[(1, rF 0), (2, rF 1)], [(tsNode.leaves n_), [di 0, dl (.one (.int .i64)) [], di 0, di 0, di 0, di 0, di 0, di 0, di 0, di 0, di 0, di 0, dl (.one (.int .i8)) [], dl (.one (.int .i32)) []]], [], 28⟩
theorem law03_few_f1 : P35 1 C35 ⟨[(0, rA tsNode n_)], [], [], 28⟩ k = k (S35_0 n_) := by kernel_rfl
theorem law03_few_f1000002 : P35 1 C35.r.l (S35_0 n_) k = k ⟨[(1, rF 0), (2, rF 1), (6, rb (decide ((n_.2.1.length : Int) > 20)))], [(tsNode.leaves n_), [di 0, dl (.one (.int .i64)) [], di 0, di 0, di 0, di 0, di 0, di 0, di 0, di 0, di 0, di 0, dl (.one (.int .i8)) [], dl (.one (.int .i32)) []]], [], 28⟩ := by kernel_rfl
def law03_few_r2_p : Option Unit := (bif (decide ((20 : Int) ≤ (n_.2.1.length : Int))) then (some ()) else none)
abbrev S35_1 : St := ⟨[(1, rF 0), (2, rF 1)], [[di n_.1, dl (.one (.int .i64)) ((n_.2.1.take (Int.toNat (20 : Int))).drop (Int.toNat (0 : Int))), di n_.2.2.1, di n_.2.2.2.1, di n_.2.2.2.2.1, di n_.2.2.2.2.2.1, di n_.2.2.2.2.2.2.1, di n_.2.2.2.2.2.2.2.1, di n_.2.2.2.2.2.2.2.2.1, di n_.2.2.2.2.2.2.2.2.2.1, di n_.2.2.2.2.2.2.2.2.2.2.1, di n_.2.2.2.2.2.2.2.2.2.2.2.1, dl (.one (.int .i8)) n_.2.2.2.2.2.2.2.2.2.2.2.2.1, dl (.one (.int .i32)) n_.2.2.2.2.2.2.2.2.2.2.2.2.2], [di 0, dl (.one (.int .i64)) [], di 0, di 0, di 0, di 0, di 0, di 0, di 0, di 0, di 0, di 0, dl (.one (.int .i8)) [], dl (.one (.int .i32)) []]], [], 28⟩
theorem law03_few_r2 : R35 C35.r.l.r.t (S35_0 n_) q = Option.bind (law03_few_r2_p n_) (fun y257 : Unit => q .normal (S35_1 n_)) := .trans (by kernel_rfl) (bif_b some_b none_b)
def law03_few_j1_p : Option (List Int) := (bif (decide ((n_.2.1.length : Int) > 20)) then (Option.bind (law03_few_r2_p n_) (fun y257 : Unit => (some ((n_.2.1.take (Int.toNat (20 : Int))).drop (Int.toNat (0 : Int)))))) else (some n_.2.1))
abbrev S35_2 : St := ⟨[(1, rF 0), (2, rF 1)], [[di n_.1, dl (.one (.int .i64)) y258, di n_.2.2.1, di n_.2.2.2.1, di n_.2.2.2.2.1, di n_.2.2.2.2.2.1, di n_.2.2.2.2.2.2.1, di n_.2.2.2.2.2.2.2.1, di n_.2.2.2.2.2.2.2.2.1, di n_.2.2.2.2.2.2.2.2.2.1, di n_.2.2.2.2.2.2.2.2.2.2.1, di n_.2.2.2.2.2.2.2.2.2.2.2.1, dl (.one (.int .i8)) n_.2.2.2.2.2.2.2.2.2.2.2.2.1, dl (.one (.int .i32)) n_.2.2.2.2.2.2.2.2.2.2.2.2.2], [di 0, dl (.one (.int .i64)) [], di 0, di 0, di 0, di 0, di 0, di 0, di 0, di 0, di 0, di 0, dl (.one (.int .i8)) [], dl (.one (.int .i32)) []]], [], 28⟩
theorem law03_few_j1 : R35 C35.r.l (S35_0 n_) (Q35 C35.r.r q) = Option.bind (law03_few_j1_p n_) (fun y258 : (List Int) => R35 C35.r.r (S35_2 n_ y258) q) := by
  refine .trans ?_ (bif_b (bind_b fun y257 => some_b) some_b)
  refine (pre1 (law03_few_f1000002 n_ _)).trans ?_
  refine (cond_e (b := (decide ((n_.2.1.length : Int) > 20))) (st' := (S35_0 n_)) ).trans (bif_g ?_ ?_)
  · refine (law03_few_r2 n_ _).trans (bind_g fun y257 => ?_)
    refine (seqC_normal (st' := (S35_1 n_))).trans ?_
    kernel_rfl
  · refine (skip_eq).trans ?_
    refine (seqC_normal (st' := (S35_0 n_))).trans ?_
    kernel_rfl
theorem law03_few_f1000004 : P35 1 C35.r.r.l (S35_2 n_ y258) k = k ⟨[(1, rF 0), (2, rF 1), (14, rb (decide ((n_.2.2.2.2.2.2.2.2.2.2.2.2.1.length : Int) > 5000)))], [[di n_.1, dl (.one (.int .i64)) y258, di n_.2.2.1, di n_.2.2.2.1, di n_.2.2.2.2.1, di n_.2.2.2.2.2.1, di n_.2.2.2.2.2.2.1, di n_.2.2.2.2.2.2.2.1, di n_.2.2.2.2.2.2.2.2.1, di n_.2.2.2.2.2.2.2.2.2.1, di n_.2.2.2.2.2.2.2.2.2.2.1, di n_.2.2.2.2.2.2.2.2.2.2.2.1, dl (.one (.int .i8)) n_.2.2.2.2.2.2.2.2.2.2.2.2.1, dl (.one (.int .i32)) n_.2.2.2.2.2.2.2.2.2.2.2.2.2], [di 0, dl (.one (.int .i64)) [], di 0, di 0, di 0, di 0, di 0, di 0, di 0, di 0, di 0, di 0, dl (.one (.int .i8)) [], dl (.one (.int .i32)) []]], [], 28⟩ := by kernel_rfl
def law03_few_r4_p : Option (List Int) := (bif (decide ((5000 : Int) ≤ (n_.2.2.2.2.2.2.2.2.2.2.2.2.1.length : Int))) then (some ((n_.2.2.2.2.2.2.2.2.2.2.2.2.1.take (Int.toNat (5000 : Int))).drop (Int.toNat (0 : Int)))) else none)
abbrev S35_3 (y259 : (List Int)) : St := ⟨[(1, rF 0), (2, rF 1)], [[di n_.1, dl (.one (.int .i64)) y258, di n_.2.2.1, di n_.2.2.2.1, di n_.2.2.2.2.1, di n_.2.2.2.2.2.1, di n_.2.2.2.2.2.2.1, di n_.2.2.2.2.2.2.2.1, di n_.2.2.2.2.2.2.2.2.1, di n_.2.2.2.2.2.2.2.2.2.1, di n_.2.2.2.2.2.2.2.2.2.2.1, di n_.2.2.2.2.2.2.2.2.2.2.2.1, dl (.one (.int .i8)) y259, dl (.one (.int .i32)) n_.2.2.2.2.2.2.2.2.2.2.2.2.2], [di 0, dl (.one (.int .i64)) [], di 0, di 0, di 0, di 0, di 0, di 0, di 0, di 0, di 0, di 0, dl (.one (.int .i8)) [], dl (.one (.int .i32)) []]], [], 28⟩
theorem law03_few_r4 : R35 C35.r.r.l.r.t (S35_2 n_ y258) q = Option.bind (law03_few_r4_p n_) (fun y259 : (List Int) => q .normal (S35_3 n_ y258 y259)) := .trans (by kernel_rfl) (bif_b some_b none_b)
def law03_few_j3_p : Option (List Int) := (bif (decide ((n_.2.2.2.2.2.2.2.2.2.2.2.2.1.length : Int) > 5000)) then (Option.bind (law03_few_r4_p n_) (fun y259 : (List Int) => (some y259))) else (some n_.2.2.2.2.2.2.2.2.2.2.2.2.1))
abbrev S35_4 : St := ⟨[(1, rF 0), (2, rF 1)], [[di n_.1, dl (.one (.int .i64)) y258, di n_.2.2.1, di n_.2.2.2.1, di n_.2.2.2.2.1, di n_.2.2.2.2.2.1, di n_.2.2.2.2.2.2.1, di n_.2.2.2.2.2.2.2.1, di n_.2.2.2.2.2.2.2.2.1, di n_.2.2.2.2.2.2.2.2.2.1, di n_.2.2.2.2.2.2.2.2.2.2.1, di n_.2.2.2.2.2.2.2.2.2.2.2.1, dl (.one (.int .i8)) y260, dl (.one (.int .i32)) n_.2.2.2.2.2.2.2.2.2.2.2.2.2], [di 0, dl (.one (.int .i64)) [], di 0, di 0, di 0, di 0, di 0, di 0, di 0, di 0, di 0, di 0, dl (.one (.int .i8)) [], dl (.one (.int .i32)) []]], [], 28⟩
theorem law03_few_j3 : R35 C35.r.r.l (S35_2 n_ y258) (Q35 C35.r.r.r q) = Option.bind (law03_few_j3_p n_) (fun y260 : (List Int) => R35 C35.r.r.r (S35_4 n_ y258 y260) q) := by
  refine .trans ?_ (bif_b (bind_b fun y259 => some_b) some_b)
  refine (pre1 (law03_few_f1000004 n_ y258 _)).trans ?_
  refine (cond_e (b := (decide ((n_.2.2.2.2.2.2.2.2.2.2.2.2.1.length : Int) > 5000))) (st' := (S35_2 n_ y258)) ).trans (bif_g ?_ ?_)
  · refine (law03_few_r4 n_ y258 _).trans (bind_g fun y259 => ?_)
    refine (seqC_normal (st' := (S35_3 n_ y258 y259))).trans ?_
    kernel_rfl
  · refine (skip_eq).trans ?_
    refine (seqC_normal (st' := (S35_2 n_ y258))).trans ?_
    kernel_rfl
theorem law03_few_f1000006 : P35 1 C35.r.r.r.l (S35_4 n_ y258 y260) k = k ⟨[(1, rF 0), (2, rF 1), (22, rb (decide ((n_.2.2.2.2.2.2.2.2.2.2.2.2.2.length : Int) > 20)))], [[di n_.1, dl (.one (.int .i64)) y258, di n_.2.2.1, di n_.2.2.2.1, di n_.2.2.2.2.1, di n_.2.2.2.2.2.1, di n_.2.2.2.2.2.2.1, di n_.2.2.2.2.2.2.2.1, di n_.2.2.2.2.2.2.2.2.1, di n_.2.2.2.2.2.2.2.2.2.1, di n_.2.2.2.2.2.2.2.2.2.2.1, di n_.2.2.2.2.2.2.2.2.2.2.2.1, dl (.one (.int .i8)) y260, dl (.one (.int .i32)) n_.2.2.2.2.2.2.2.2.2.2.2.2.2], [di 0, dl (.one (.int .i64)) [], di 0, di 0, di 0, di 0, di 0, di 0, di 0, di 0, di 0, di 0, dl (.one (.int .i8)) [], dl (.one (.int .i32)) []]], [], 28⟩ := by kernel_rfl
def law03_few_r6_p : Option (List Int) := (bif (decide ((20 : Int) ≤ (n_.2.2.2.2.2.2.2.2.2.2.2.2.2.length : Int))) then (some ((n_.2.2.2.2.2.2.2.2.2.2.2.2.2.take (Int.toNat (20 : Int))).drop (Int.toNat (0 : Int)))) else none)
abbrev S35_5 (y261 : (List Int)) : St := ⟨[(1, rF 0), (2, rF 1)], [[di n_.1, dl (.one (.int .i64)) y258, di n_.2.2.1, di n_.2.2.2.1, di n_.2.2.2.2.1, di n_.2.2.2.2.2.1, di n_.2.2.2.2.2.2.1, di n_.2.2.2.2.2.2.2.1, di n_.2.2.2.2.2.2.2.2.1, di n_.2.2.2.2.2.2.2.2.2.1, di n_.2.2.2.2.2.2.2.2.2.2.1, di n_.2.2.2.2.2.2.2.2.2.2.2.1, dl (.one (.int .i8)) y260, dl (.one (.int .i32)) y261], [di 0, dl (.one (.int .i64)) [], di 0, di 0, di 0, di 0, di 0, di 0, di 0, di 0, di 0, di 0, dl (.one (.int .i8)) [], dl (.one (.int .i32)) []]], [], 28⟩
theorem law03_few_r6 : R35 C35.r.r.r.l.r.t (S35_4 n_ y258 y260) q = Option.bind (law03_few_r6_p n_) (fun y261 : (List Int) => q .normal (S35_5 n_ y258 y260 y261)) := .trans (by kernel_rfl) (bif_b some_b none_b)
def law03_few_j5_p : Option (List Int) := (bif (decide ((n_.2.2.2.2.2.2.2.2.2.2.2.2.2.length : Int) > 20)) then (Option.bind (law03_few_r6_p n_) (fun y261 : (List Int) => (some y261))) else (some n_.2.2.2.2.2.2.2.2.2.2.2.2.2))
abbrev S35_6 : St := ⟨[(1, rF 0), (2, rF 1)], [[di n_.1, dl (.one (.int .i64)) y258, di n_.2.2.1, di n_.2.2.2.1, di n_.2.2.2.2.1, di n_.2.2.2.2.2.1, di n_.2.2.2.2.2.2.1, di n_.2.2.2.2.2.2.2.1, di n_.2.2.2.2.2.2.2.2.1, di n_.2.2.2.2.2.2.2.2.2.1, di n_.2.2.2.2.2.2.2.2.2.2.1, di n_.2.2.2.2.2.2.2.2.2.2.2.1, dl (.one (.int .i8)) y260, dl (.one (.int .i32)) y262], [di 0, dl (.one (.int .i64)) [], di 0, di 0, di 0, di 0, di 0, di 0, di 0, di 0, di 0, di 0, dl (.one (.int .i8)) [], dl (.one (.int .i32)) []]], [], 28⟩
theorem law03_few_j5 : R35 C35.r.r.r.l (S35_4 n_ y258 y260) (Q35 C35.r.r.r.r q) = Option.bind (law03_few_j5_p n_) (fun y262 : (List Int) => R35 C35.r.r.r.r (S35_6 n_ y258 y260 y262) q) := by
  refine .trans ?_ (bif_b (bind_b fun y261 => some_b) some_b)
  refine (pre1 (law03_few_f1000006 n_ y258 y260 _)).trans ?_
  refine (cond_e (b := (decide ((n_.2.2.2.2.2.2.2.2.2.2.2.2.2.length : Int) > 20))) (st' := (S35_4 n_ y258 y260)) ).trans (bif_g ?_ ?_)
  · refine (law03_few_r6 n_ y258 y260 _).trans (bind_g fun y261 => ?_)
    refine (seqC_normal (st' := (S35_5 n_ y258 y260 y261))).trans ?_
    kernel_rfl
  · refine (skip_eq).trans ?_
    refine (seqC_normal (st' := (S35_4 n_ y258 y260))).trans ?_
    kernel_rfl
theorem law03_few_fz : P35 1 C35.r.r.r.r (S35_6 n_ y258 y260 y262) k = k ⟨[(2, rF 1)], [[], [di n_.1, dl (.one (.int .i64)) y258, di n_.2.2.1, di n_.2.2.2.1, di n_.2.2.2.2.1, di n_.2.2.2.2.2.1, di n_.2.2.2.2.2.2.1, di n_.2.2.2.2.2.2.2.1, di n_.2.2.2.2.2.2.2.2.1, di n_.2.2.2.2.2.2.2.2.2.1, di n_.2.2.2.2.2.2.2.2.2.2.1, di n_.2.2.2.2.2.2.2.2.2.2.2.1, dl (.one (.int .i8)) y260, dl (.one (.int .i32)) y262]], [], 28⟩ := by kernel_rfl
/-- quilt/quiltlaw03.few -/
def law03_few : Option Node := (Option.bind (law03_few_j1_p n_) (fun y258 : (List Int) => (Option.bind (law03_few_j3_p n_) (fun y260 : (List Int) => (Option.bind (law03_few_j5_p n_) (fun y262 : (List Int) => (some (n_.1, y258, n_.2.2.1, n_.2.2.2.1, n_.2.2.2.2.1, n_.2.2.2.2.2.1, n_.2.2.2.2.2.2.1, n_.2.2.2.2.2.2.2.1, n_.2.2.2.2.2.2.2.2.1, n_.2.2.2.2.2.2.2.2.2.1, n_.2.2.2.2.2.2.2.2.2.2.1, n_.2.2.2.2.2.2.2.2.2.2.2.1, y260, y262))))))))
theorem law03_few_is : stepS E cp35 noE 12 [rA tsNode n_] = Option.bind (law03_few n_) (fun y : Node => some (rA tsNode y : R)) := by
  refine .trans ?_ (bind_b fun y258 => (bind_b fun y260 => (bind_b fun y262 => some_b)))
  refine (stepG_is (nt := 28) (regs := [(0, rA tsNode n_)])).trans ?_
  refine (pre1 (law03_few_f1 n_ _)).trans ?_
  refine .trans seq_push ?_
  refine (law03_few_j1 n_ _).trans (bind_g fun y258 => ?_)
  refine .trans seq_push ?_
  refine (law03_few_j3 n_ y258 _).trans (bind_g fun y260 => ?_)
  refine .trans seq_push ?_
  refine (law03_few_j5 n_ y258 y260 _).trans (bind_g fun y262 => ?_)
  refine (pre1 (law03_few_fz n_ y258 y260 y262 _)).trans ?_
  refine (ret_eq).trans ?_
  kernel_rfl
noncomputable def cp36 : CallP := withC cp35 12 [(.agg tsNode)] (.one (.agg tsNode)) (fun y : Node => y) (fun x => law03_few x.1)
theorem cp36_ok : PureOK E cp36 := conS eok cp35_ok noE_ok fun x => Eq.mp (by kernel_rfl) (law03_few_is x.1)
end
section
variable {α β : Type} (g_ : Graph) (y251 : (List I4)) (y253 : (List Int)) (s282 : ((List Node) × Int)) (y288 : (List Node)) (y289 : ((List Node) × Int)) (k : St → Option α) (q : Kont α)
noncomputable abbrev C36 := codeOf E.P 16
noncomputable abbrev P36 := @preK α E 16 cp36 noE
noncomputable abbrev R36 := @runCode α E 16 cp36 noE
noncomputable abbrev Q36 := @seqC α E 16 cp36 noE
abbrev S36_0 : St := ⟨[(1, rF 0), (2, rF 1)], [(tsGraph.leaves g_), [dl tsI4 [], dl tsNode [], dl (.one (.int .i64)) []]], [], 45⟩
theorem law03_less_f1 : P36 1 C36 ⟨[(0, rA tsGraph g_)], [], [], 45⟩ k = k (S36_0 g_) := by kernel_rfl
theorem law03_less_f1000002 : P36 1 C36.r.l (S36_0 g_) k = k ⟨[(1, rF 0), (2, rF 1), (8, rb (decide ((g_.1.length : Int) > 6)))], [(tsGraph.leaves g_), [dl tsI4 [], dl tsNode [], dl (.one (.int .i64)) []]], [], 45⟩ := by kernel_rfl
def law03_less_r2_p : Option Unit := (bif (decide ((6 : Int) ≤ (g_.1.length : Int))) then (some ()) else none)
abbrev S36_1 : St := ⟨[(1, rF 0), (2, rF 1)], [[dl tsI4 ((g_.1.take (Int.toNat (6 : Int))).drop (Int.toNat (0 : Int))), dl tsNode g_.2.1, dl (.one (.int .i64)) g_.2.2], [dl tsI4 [], dl tsNode [], dl (.one (.int .i64)) []]], [], 45⟩
theorem law03_less_r2 : R36 C36.r.l.r.t (S36_0 g_) q = Option.bind (law03_less_r2_p g_) (fun y250 : Unit => q .normal (S36_1 g_)) := .trans (by kernel_rfl) (bif_b some_b none_b)
def law03_less_j1_p : Option (List I4) := (bif (decide ((g_.1.length : Int) > 6)) then (Option.bind (law03_less_r2_p g_) (fun y250 : Unit => (some ((g_.1.take (Int.toNat (6 : Int))).drop (Int.toNat (0 : Int)))))) else (some g_.1))
abbrev S36_2 : St := ⟨[(1, rF 0), (2, rF 1)], [[dl tsI4 y251, dl tsNode g_.2.1, dl (.one (.int .i64)) g_.2.2], [dl tsI4 [], dl tsNode [], dl (.one (.int .i64)) []]], [], 45⟩
theorem law03_less_j1 : R36 C36.r.l (S36_0 g_) (Q36 C36.r.r q) = Option.bind (law03_less_j1_p g_) (fun y251 : (List I4) => R36 C36.r.r (S36_2 g_ y251) q) := by
  refine .trans ?_ (bif_b (bind_b fun y250 => some_b) some_b)
  refine (pre1 (law03_less_f1000002 g_ _)).trans ?_
  refine (cond_e (b := (decide ((g_.1.length : Int) > 6))) (st' := (S36_0 g_)) ).trans (bif_g ?_ ?_)
  · refine (law03_less_r2 g_ _).trans (bind_g fun y250 => ?_)
    refine (seqC_normal (st' := (S36_1 g_))).trans ?_
    kernel_rfl
  · refine (skip_eq).trans ?_
    refine (seqC_normal (st' := (S36_0 g_))).trans ?_
    kernel_rfl
theorem law03_less_f1000004 : P36 1 C36.r.r.l (S36_2 g_ y251) k = k ⟨[(1, rF 0), (2, rF 1), (16, rb (decide ((g_.2.2.length : Int) > 6)))], [[dl tsI4 y251, dl tsNode g_.2.1, dl (.one (.int .i64)) g_.2.2], [dl tsI4 [], dl tsNode [], dl (.one (.int .i64)) []]], [], 45⟩ := by kernel_rfl
def law03_less_r4_p : Option Unit := (bif (decide ((6 : Int) ≤ (g_.2.2.length : Int))) then (some ()) else none)
abbrev S36_3 : St := ⟨[(1, rF 0), (2, rF 1)], [[dl tsI4 y251, dl tsNode g_.2.1, dl (.one (.int .i64)) ((g_.2.2.take (Int.toNat (6 : Int))).drop (Int.toNat (0 : Int)))], [dl tsI4 [], dl tsNode [], dl (.one (.int .i64)) []]], [], 45⟩
theorem law03_less_r4 : R36 C36.r.r.l.r.t (S36_2 g_ y251) q = Option.bind (law03_less_r4_p g_) (fun y252 : Unit => q .normal (S36_3 g_ y251)) := .trans (by kernel_rfl) (bif_b some_b none_b)
def law03_less_j3_p : Option (List Int) := (bif (decide ((g_.2.2.length : Int) > 6)) then (Option.bind (law03_less_r4_p g_) (fun y252 : Unit => (some ((g_.2.2.take (Int.toNat (6 : Int))).drop (Int.toNat (0 : Int)))))) else (some g_.2.2))
abbrev S36_4 : St := ⟨[(1, rF 0), (2, rF 1)], [[dl tsI4 y251, dl tsNode g_.2.1, dl (.one (.int .i64)) y253], [dl tsI4 [], dl tsNode [], dl (.one (.int .i64)) []]], [], 45⟩
theorem law03_less_j3 : R36 C36.r.r.l (S36_2 g_ y251) (Q36 C36.r.r.r q) = Option.bind (law03_less_j3_p g_) (fun y253 : (List Int) => R36 C36.r.r.r (S36_4 g_ y251 y253) q) := by
  refine .trans ?_ (bif_b (bind_b fun y252 => some_b) some_b)
  refine (pre1 (law03_less_f1000004 g_ y251 _)).trans ?_
  refine (cond_e (b := (decide ((g_.2.2.length : Int) > 6))) (st' := (S36_2 g_ y251)) ).trans (bif_g ?_ ?_)
  · refine (law03_less_r4 g_ y251 _).trans (bind_g fun y252 => ?_)
    refine (seqC_normal (st' := (S36_3 g_ y251))).trans ?_
    kernel_rfl
  · refine (skip_eq).trans ?_
    refine (seqC_normal (st' := (S36_2 g_ y251))).trans ?_
    kernel_rfl
abbrev S36_5 : St := ⟨[(1, rF 0), (2, rF 1), (3, .one (.ow tsNode [] (.v 3)))], [[dl tsI4 y251, dl tsNode g_.2.1, dl (.one (.int .i64)) y253], [dl tsI4 [], dl tsNode [], dl (.one (.int .i64)) []]], [], 45⟩
theorem law03_less_f6 : P36 1 C36.r.r.r (S36_4 g_ y251 y253) k = k (S36_5 g_ y251 y253) := by kernel_rfl
abbrev S36_6 : St := ⟨[(1, rF 0), (2, rF 1), (3, .one (.ow tsNode [] (.v 3))), (4, ri 0)], [[dl tsI4 y251, dl tsNode g_.2.1, dl (.one (.int .i64)) y253], [dl tsI4 [], dl tsNode [], dl (.one (.int .i64)) []]], [], 45⟩
theorem law03_less_f7 : P36 1 C36.r.r.r.r.l (S36_5 g_ y251 y253) k = k (S36_6 g_ y251 y253) := by kernel_rfl
def law03_less_r7_q (K : Bool → β) : β := (bif (decide (s282.2 < (g_.2.1.length : Int))) then (K (decide (s282.2 < 14))) else (K false))
def law03_less_r7_p : Bool := law03_less_r7_q g_ s282 (fun y => y)
theorem law03_less_r7_n (K : Bool → β) : law03_less_r7_q g_ s282 K = K (law03_less_r7_p g_ s282) := (bif_k K rfl rfl)
abbrev S36_7 : St := ⟨[(1, rF 0), (2, rF 1), (3, rO tsNode s282.1 3), (4, ri s282.2)], [[dl tsI4 y251, dl tsNode g_.2.1, dl (.one (.int .i64)) y253], [dl tsI4 [], dl tsNode [], dl (.one (.int .i64)) []]], [], 45⟩
theorem law03_less_r7 : P36 1 C36.r.r.r.r.l.r.b.b.l (S36_7 g_ y251 y253 s282) k = k ⟨[(1, rF 0), (2, rF 1), (3, rO tsNode s282.1 3), (4, ri s282.2), (30, rb (law03_less_r7_p g_ s282))], [[dl tsI4 y251, dl tsNode g_.2.1, dl (.one (.int .i64)) y253], [dl tsI4 [], dl tsNode [], dl (.one (.int .i64)) []]], [], 45⟩ := Eq.trans (by kernel_rfl) (law03_less_r7_n g_ s282 (fun y284 : Bool => k ⟨[(1, rF 0), (2, rF 1), (3, rO tsNode s282.1 3), (4, ri s282.2), (30, rb y284)], [[dl tsI4 y251, dl tsNode g_.2.1, dl (.one (.int .i64)) y253], [dl tsI4 [], dl tsNode [], dl (.one (.int .i64)) []]], [], 45⟩))
def law03_less_r9_p : Option (List Node) := (bif (decide ((0 : Int) ≤ s282.2)) then (bif (decide (s282.2 < (g_.2.1.length : Int))) then (Option.bind (law03_few (gt g_.2.1 s282.2 dNode)) (fun y287 : Node => (bif (decide (s282.1.length + ([y287] : List Node).length ≤ maxL)) then (some (s282.1 ++ [y287])) else none))) else none) else none)
abbrev S36_8 : St := ⟨[(1, rF 0), (2, rF 1), (3, rO tsNode y288 3), (4, ri s282.2)], [[dl tsI4 y251, dl tsNode g_.2.1, dl (.one (.int .i64)) y253], [dl tsI4 [], dl tsNode [], dl (.one (.int .i64)) []]], [], 45⟩
theorem law03_less_r9 : R36 C36.r.r.r.r.l.r.b.b.r.l.b (S36_7 g_ y251 y253 s282) q = Option.bind (law03_less_r9_p g_ s282) (fun y288 : (List Node) => q .normal (S36_8 g_ y251 y253 s282 y288)) := .trans (by kernel_rfl) (bif_b (bif_b (bind_b fun y287 => (bif_b some_b none_b)) none_b) none_b)
theorem law03_less_r8 : R36 C36.r.r.r.r.l.r.b.b.r.r (S36_8 g_ y251 y253 s282 y288) q = q .normal ⟨[(1, rF 0), (2, rF 1), (3, rO tsNode y288 3), (4, ri (IntKind.wrap .i64 (s282.2 + 1)))], [[dl tsI4 y251, dl tsNode g_.2.1, dl (.one (.int .i64)) y253], [dl tsI4 [], dl tsNode [], dl (.one (.int .i64)) []]], [], 45⟩ := by kernel_rfl
def law03_less_l7_p : Option (((List Node) × Int) ⊕ ((List Node) × Int)) := (bif (law03_less_r7_p g_ s282) then (Option.bind (law03_less_r9_p g_ s282) (fun y288 : (List Node) => (some (Sum.inl (y288, (IntKind.wrap .i64 (s282.2 + 1))))))) else (some (Sum.inr s282)))
abbrev S36_9 : St := ⟨[(1, rF 0), (2, rF 1), (3, rO tsNode y289.1 3), (4, ri y289.2)], [[dl tsI4 y251, dl tsNode g_.2.1, dl (.one (.int .i64)) y253], [dl tsI4 [], dl tsNode [], dl (.one (.int .i64)) []]], [], 45⟩
theorem law03_less_l7_b : R36 C36.r.r.r.r.l.r.b.b (S36_7 g_ y251 y253 s282) (loopKont 2 q) = Option.bind (law03_less_l7_p g_ s282) (either (fun y : ((List Node) × Int) => q .normal ⟨[(1, rF 0), (2, rF 1), (3, rO tsNode y.1 3), (4, ri y.2)], [[dl tsI4 y251, dl tsNode g_.2.1, dl (.one (.int .i64)) y253], [dl tsI4 [], dl tsNode [], dl (.one (.int .i64)) []]], [], 45⟩) (fun y289 : ((List Node) × Int) => q (.exit 0) (S36_9 g_ y251 y253 y289))) := by
  refine .trans ?_ (bif_b (bind_b fun y288 => e2_0) e2_1)
  refine .trans seq_push ?_
  refine (pre1 (law03_less_r7 g_ y251 y253 s282 _)).trans ?_
  refine (cond_e (b := (law03_less_r7_p g_ s282)) (st' := (S36_7 g_ y251 y253 s282)) ).trans (bif_g ?_ ?_)
  · refine (skip_eq).trans ?_
    refine (seqC_normal (st' := (S36_7 g_ y251 y253 s282))).trans ?_
    refine .trans seq_push ?_
    refine (block_push (id := 1)).trans ?_
    refine (law03_less_r9 g_ y251 y253 s282 _).trans (bind_g fun y288 => ?_)
    refine block_normal.trans ?_
    refine (seqC_normal (st' := (S36_8 g_ y251 y253 s282 y288))).trans ?_
    refine (law03_less_r8 g_ y251 y253 s282 y288 _).trans ?_
    kernel_rfl
  · refine ((exit_eq (j := 0))).trans ?_
    refine seqC_exit.trans ?_
    kernel_rfl
theorem law03_less_l7 : R36 C36.r.r.r.r.l.r.b (S36_6 g_ y251 y253) q = Option.bind (iterN (law03_less_l7_p g_) LL ([], (0 : Int))) (fun y289 : ((List Node) × Int) => q (.exit 0) (S36_9 g_ y251 y253 y289)) :=
  Eq.trans (by kernel_rfl) (loop_iter1 (S := fun s282 : ((List Node) × Int) => (S36_7 g_ y251 y253 s282)) (Y1 := fun y289 : ((List Node) × Int) => ((.exit 0), (S36_9 g_ y251 y253 y289))) (fun s q => law03_less_l7_b g_ y251 y253 s q) (fun z => rfl) LL ([], (0 : Int)))
abbrev S36_10 : St := ⟨[(1, rF 0), (2, rF 1), (3, rO tsNode y289.1 3)], [[dl tsI4 y251, dl tsNode g_.2.1, dl (.one (.int .i64)) y253], [dl tsI4 [], dl tsNode [], dl (.one (.int .i64)) []]], [], 45⟩
theorem law03_less_fz : P36 2 C36.r.r.r.r.r (S36_10 g_ y251 y253 y289) k = k ⟨[(2, rF 1)], [[], [dl tsI4 y251, dl tsNode y289.1, dl (.one (.int .i64)) y253]], [], 45⟩ := by kernel_rfl
/-- quilt/quiltlaw03.less -/
def law03_less : Option Graph := (Option.bind (law03_less_j1_p g_) (fun y251 : (List I4) => (Option.bind (law03_less_j3_p g_) (fun y253 : (List Int) => (Option.bind (iterN (law03_less_l7_p g_) LL ([], (0 : Int))) (fun y289 : ((List Node) × Int) => (some (y251, y289.1, y253))))))))
theorem law03_less_is : stepS E cp36 noE 16 [rA tsGraph g_] = Option.bind (law03_less g_) (fun y : Graph => some (rA tsGraph y : R)) := by
  refine .trans ?_ (bind_b fun y251 => (bind_b fun y253 => (bind_b fun y289 => some_b)))
  refine (stepG_is (nt := 45) (regs := [(0, rA tsGraph g_)])).trans ?_
  refine (pre1 (law03_less_f1 g_ _)).trans ?_
  refine .trans seq_push ?_
  refine (law03_less_j1 g_ _).trans (bind_g fun y251 => ?_)
  refine .trans seq_push ?_
  refine (law03_less_j3 g_ y251 _).trans (bind_g fun y253 => ?_)
  refine (pre1 (law03_less_f6 g_ y251 y253 _)).trans ?_
  refine .trans seq_push ?_
  refine (pre1 (law03_less_f7 g_ y251 y253 _)).trans ?_
  refine (block_push (id := 0)).trans ?_
  refine (law03_less_l7 g_ y251 y253 _).trans (bind_g fun y289 => ?_)
  refine block_same.trans ?_
  refine (seqC_normal (st' := (S36_10 g_ y251 y253 y289))).trans ?_
  refine (pre2 (law03_less_fz g_ y251 y253 y289 _)).trans ?_
  refine (ret_eq).trans ?_
  kernel_rfl
noncomputable def cp37 : CallP := withC cp36 16 [(.agg tsGraph)] (.one (.agg tsGraph)) (fun y : Graph => y) (fun x => law03_less x.1)
theorem cp37_ok : PureOK E cp37 := conS eok cp36_ok noE_ok fun x => Eq.mp (by kernel_rfl) (law03_less_is x.1)
end
/-- slices.Clone -/
def slices_Cloneapi_Value_api_Value (s_ : (List I4)) : Option (List I4) := bif s_.isEmpty then some [] else bif decide (([] : (List I4)).length + s_.length ≤ maxL) then some ([] ++ s_) else none
theorem slices_Cloneapi_Value_api_Value_is (s_ : (List I4)) : stepO E cp37 noE 69 [.one (dl tsI4 s_)] = Option.bind (slices_Cloneapi_Value_api_Value s_) (fun y : (List I4) => some (.one (.ow tsI4 y (.s 0)))) := by
  cases s_ with
  | nil =>
    have h : stepO E cp37 noE 69 [.one (dl tsI4 [])] = both (some (.one (.ow tsI4 [] (.s 0)))) (some (.one (.ow tsI4 [] (.s 0)))) := by kernel_rfl
    exact h.trans (if_pos rfl)
  | cons x l =>
    have h : stepO E cp37 noE 69 [.one (dl tsI4 (x :: l))] = bif decide (([] : (List I4)).length + (x :: l).length ≤ maxL) then some (.one (.ow tsI4 ([] ++ (x :: l)) (.s 0))) else none := by kernel_rfl
    refine h.trans ?_
    show _ = Option.bind (bif decide (([] : (List I4)).length + (x :: l).length ≤ maxL) then some ([] ++ (x :: l)) else none) _
    cases decide (([] : (List I4)).length + (x :: l).length ≤ maxL) <;> rfl
theorem slices_Cloneapi_Value_api_Value_c (x : denL [(.one (.g (.sl tsI4)))]) : stepO E cp37 noE 69 (encL [(.one (.g (.sl tsI4)))] x) = (slices_Cloneapi_Value_api_Value x.1).bind fun y => some (Po.enc (.one (.one (.ow tsI4))) y) := Eq.mp (by kernel_rfl) (slices_Cloneapi_Value_api_Value_is x.1)
noncomputable def cp38 : CallP := withC cp37 69 [(.one (.g (.sl tsI4)))] (.one (.one (.ow tsI4))) (fun y => y) (fun x => slices_Cloneapi_Value_api_Value x.1)
theorem cp38_ok : PureOK E cp38 := withC_ok cp37_ok (stepO_ok eok cp37_ok noE_ok) fun x => con_of (enc := fun y => Po.enc (.one (.one (.ow tsI4))) y) (slices_Cloneapi_Value_api_Value_c x)
end Go.V.P
