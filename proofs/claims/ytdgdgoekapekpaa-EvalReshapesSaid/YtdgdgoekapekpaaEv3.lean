/- What functions compute. -/
import Derived.Test.YtdgdgoekapekpaaEv2
namespace Go.V.P
open Go.RowKit Go.V Go.Proofs
set_option linter.unusedVariables false
set_option maxRecDepth 100000
section
variable {α β : Type} (n_ : Node) (v_ : I4) (panes : A8) (k : St → Option α) (q : Kont α)
noncomputable abbrev C50 := codeOf E.P 51
noncomputable abbrev P50 := @preK α E 51 cp50 noE
noncomputable abbrev R50 := @runCode α E 51 cp50 noE
noncomputable abbrev Q50 := @seqC α E 51 cp50 noE
abbrev S50_0 : St := ⟨[(3, rC a00 n_), (4, rC tsI4 v_), (5, rC tsA8 panes), (7, rF 0)], [[di panes.1, di panes.2.1, di panes.2.2.1, di panes.2.2.2.1, di panes.2.2.2.2.1, di panes.2.2.2.2.2.1, dl (.one (.int .i8)) panes.2.2.2.2.2.2.1]], [], 50⟩
theorem d9q : P50 2 C50 ⟨[(0, rA a00 n_), (1, rA tsI4 v_), (2, rA tsA8 panes)], [], [], 50⟩ k = k (S50_0 n_ v_ panes) := by kernel_rfl
abbrev S50_1 : St := ⟨[(3, rC a00 n_), (4, rC tsI4 v_), (5, rC tsA8 panes), (7, rF 0), (11, ri n_.1)], [[di panes.1, di panes.2.1, di panes.2.2.1, di panes.2.2.2.1, di panes.2.2.2.2.1, di panes.2.2.2.2.2.1, dl (.one (.int .i8)) panes.2.2.2.2.2.2.1]], [], 50⟩
theorem d9r : P50 1 C50.r.r.l (S50_0 n_ v_ panes) k = k (S50_1 n_ v_ panes) := by kernel_rfl
abbrev S50_2 : St := ⟨[(3, rC a00 n_), (4, rC tsI4 v_), (5, rC tsA8 panes), (7, rF 0), (11, ri n_.1), (12, rb (n_.1 == 1))], [[di panes.1, di panes.2.1, di panes.2.2.1, di panes.2.2.2.1, di panes.2.2.2.2.1, di panes.2.2.2.2.2.1, dl (.one (.int .i8)) panes.2.2.2.2.2.2.1]], [], 50⟩
theorem b8z : P50 1 C50.r.r.l.r.b.l (S50_1 n_ v_ panes) k = k (S50_2 n_ v_ panes) := by kernel_rfl
abbrev S50_3 : St := ⟨[(3, rC a00 n_), (4, rC tsI4 v_), (5, rC tsA8 panes), (7, rF 0), (11, ri n_.1), (12, rb (n_.1 == 2))], [[di panes.1, di panes.2.1, di panes.2.2.1, di panes.2.2.2.1, di panes.2.2.2.2.1, di panes.2.2.2.2.2.1, dl (.one (.int .i8)) panes.2.2.2.2.2.2.1]], [], 50⟩
theorem d9w : R50 C50.r.r.l.r.b.l.r.e (S50_2 n_ v_ panes) q = q .normal (S50_3 n_ v_ panes) := by kernel_rfl
def a8h (K : Bool → β) : β := (bif (n_.1 == 1) then (K (n_.1 == 1)) else (K (n_.1 == 2)))
def a51 : Bool := a8h n_ (fun y => y)
theorem d0r (K : Bool → β) : a8h n_ K = K (a51 n_) := (bif_k K rfl rfl)
abbrev S50_4 : St := ⟨[(3, rC a00 n_), (4, rC tsI4 v_), (5, rC tsA8 panes), (7, rF 0), (11, ri n_.1), (12, rb (a51 n_))], [[di panes.1, di panes.2.1, di panes.2.2.1, di panes.2.2.2.1, di panes.2.2.2.2.1, di panes.2.2.2.2.2.1, dl (.one (.int .i8)) panes.2.2.2.2.2.2.1]], [], 50⟩
theorem d9u : R50 C50.r.r.l.r.b.l (S50_1 n_ v_ panes) (Q50 C50.r.r.l.r.b.r q) = R50 C50.r.r.l.r.b.r (S50_4 n_ v_ panes) q := by
  refine Eq.trans ?_ (d0r n_ (fun y701 : Bool => R50 C50.r.r.l.r.b.r ⟨[(3, rC a00 n_), (4, rC tsI4 v_), (5, rC tsA8 panes), (7, rF 0), (11, ri n_.1), (12, rb y701)], [[di panes.1, di panes.2.1, di panes.2.2.1, di panes.2.2.2.1, di panes.2.2.2.2.1, di panes.2.2.2.2.2.1, dl (.one (.int .i8)) panes.2.2.2.2.2.2.1]], [], 50⟩ q))
  unfold a8h
  refine (pre1 (b8z n_ v_ panes _)).trans ?_
  refine (cond_s (b := (n_.1 == 1)) ).trans (bif_g ?_ ?_)
  · refine (skip_eq).trans ?_
    refine (seqC_normal (st' := (S50_2 n_ v_ panes))).trans ?_
    kernel_rfl
  · refine (d9w n_ v_ panes _).trans ?_
    refine (seqC_normal (st' := (S50_3 n_ v_ panes))).trans ?_
    kernel_rfl
def b5g (K : U15 → β) : β := (K ((((a0c n_ (panes.1, panes.2.1, panes.2.2.1, panes.2.2.2.1, panes.2.2.2.2.1, panes.2.2.2.2.2.1, panes.2.2.2.2.2.2.1)).1).1, ((a0c n_ (panes.1, panes.2.1, panes.2.2.1, panes.2.2.2.1, panes.2.2.2.2.1, panes.2.2.2.2.2.1, panes.2.2.2.2.2.2.1)).1).2.1, ((a0c n_ (panes.1, panes.2.1, panes.2.2.1, panes.2.2.2.1, panes.2.2.2.2.1, panes.2.2.2.2.2.1, panes.2.2.2.2.2.2.1)).1).2.2.1, ((a0c n_ (panes.1, panes.2.1, panes.2.2.1, panes.2.2.2.1, panes.2.2.2.2.1, panes.2.2.2.2.2.1, panes.2.2.2.2.2.2.1)).1).2.2.2.1, ((a0c n_ (panes.1, panes.2.1, panes.2.2.1, panes.2.2.2.1, panes.2.2.2.2.1, panes.2.2.2.2.2.1, panes.2.2.2.2.2.2.1)).1).2.2.2.2.1, ((a0c n_ (panes.1, panes.2.1, panes.2.2.1, panes.2.2.2.1, panes.2.2.2.2.1, panes.2.2.2.2.2.1, panes.2.2.2.2.2.2.1)).1).2.2.2.2.2.1, ((a0c n_ (panes.1, panes.2.1, panes.2.2.1, panes.2.2.2.1, panes.2.2.2.2.1, panes.2.2.2.2.2.1, panes.2.2.2.2.2.2.1)).1).2.2.2.2.2.2.1, ((a0c n_ (panes.1, panes.2.1, panes.2.2.1, panes.2.2.2.1, panes.2.2.2.2.1, panes.2.2.2.2.2.1, panes.2.2.2.2.2.2.1)).1).2.2.2.2.2.2.2.1, ((a0c n_ (panes.1, panes.2.1, panes.2.2.1, panes.2.2.2.1, panes.2.2.2.2.1, panes.2.2.2.2.2.1, panes.2.2.2.2.2.2.1)).1).2.2.2.2.2.2.2.2.1, ((a0c n_ (panes.1, panes.2.1, panes.2.2.1, panes.2.2.2.1, panes.2.2.2.2.1, panes.2.2.2.2.2.1, panes.2.2.2.2.2.2.1)).1).2.2.2.2.2.2.2.2.2.1, ((a0c n_ (panes.1, panes.2.1, panes.2.2.1, panes.2.2.2.1, panes.2.2.2.2.1, panes.2.2.2.2.2.1, panes.2.2.2.2.2.2.1)).1).2.2.2.2.2.2.2.2.2.2.1, ((a0c n_ (panes.1, panes.2.1, panes.2.2.1, panes.2.2.2.1, panes.2.2.2.2.1, panes.2.2.2.2.2.1, panes.2.2.2.2.2.2.1)).1).2.2.2.2.2.2.2.2.2.2.2.1, ((a0c n_ (panes.1, panes.2.1, panes.2.2.1, panes.2.2.2.1, panes.2.2.2.2.1, panes.2.2.2.2.2.1, panes.2.2.2.2.2.2.1)).1).2.2.2.2.2.2.2.2.2.2.2.2.1, ((a0c n_ (panes.1, panes.2.1, panes.2.2.1, panes.2.2.2.1, panes.2.2.2.2.1, panes.2.2.2.2.2.1, panes.2.2.2.2.2.2.1)).1).2.2.2.2.2.2.2.2.2.2.2.2.2.1, ()), (((a0c n_ (panes.1, panes.2.1, panes.2.2.1, panes.2.2.2.1, panes.2.2.2.2.1, panes.2.2.2.2.2.1, panes.2.2.2.2.2.2.1)).2.1).1, ((a0c n_ (panes.1, panes.2.1, panes.2.2.1, panes.2.2.2.1, panes.2.2.2.2.1, panes.2.2.2.2.2.1, panes.2.2.2.2.2.2.1)).2.1).2.1, ((a0c n_ (panes.1, panes.2.1, panes.2.2.1, panes.2.2.2.1, panes.2.2.2.2.1, panes.2.2.2.2.2.1, panes.2.2.2.2.2.2.1)).2.1).2.2.1, ((a0c n_ (panes.1, panes.2.1, panes.2.2.1, panes.2.2.2.1, panes.2.2.2.2.1, panes.2.2.2.2.2.1, panes.2.2.2.2.2.2.1)).2.1).2.2.2.1, ((a0c n_ (panes.1, panes.2.1, panes.2.2.1, panes.2.2.2.1, panes.2.2.2.2.1, panes.2.2.2.2.2.1, panes.2.2.2.2.2.2.1)).2.1).2.2.2.2.1, ((a0c n_ (panes.1, panes.2.1, panes.2.2.1, panes.2.2.2.1, panes.2.2.2.2.1, panes.2.2.2.2.2.1, panes.2.2.2.2.2.2.1)).2.1).2.2.2.2.2.1, ((a0c n_ (panes.1, panes.2.1, panes.2.2.1, panes.2.2.2.1, panes.2.2.2.2.1, panes.2.2.2.2.2.1, panes.2.2.2.2.2.2.1)).2.1).2.2.2.2.2.2.1, ()), ()))
def a06 : U15 := b5g n_ panes (fun y => y)
theorem d0t (K : U15 → β) : b5g n_ panes K = K (a06 n_ panes) := rfl
theorem d9x : P50 1 C50.r.r.l.r.b.r.t (S50_4 n_ v_ panes) k = k ⟨[(6, .one (.fn 83 [.cell [di (((a06 n_ panes).1).1), dl (.one (.int .i64)) (((a06 n_ panes).1).2.1), di (((a06 n_ panes).1).2.2.1), di (((a06 n_ panes).1).2.2.2.1), di (((a06 n_ panes).1).2.2.2.2.1), di (((a06 n_ panes).1).2.2.2.2.2.1), di (((a06 n_ panes).1).2.2.2.2.2.2.1), di (((a06 n_ panes).1).2.2.2.2.2.2.2.1), di (((a06 n_ panes).1).2.2.2.2.2.2.2.2.1), di (((a06 n_ panes).1).2.2.2.2.2.2.2.2.2.1), di (((a06 n_ panes).1).2.2.2.2.2.2.2.2.2.2.1), di (((a06 n_ panes).1).2.2.2.2.2.2.2.2.2.2.2.1), dl (.one (.int .i8)) (((a06 n_ panes).1).2.2.2.2.2.2.2.2.2.2.2.2.1), dl (.one (.int .i32)) (((a06 n_ panes).1).2.2.2.2.2.2.2.2.2.2.2.2.2.1)], .cell [di (((a06 n_ panes).2.1).1), di (((a06 n_ panes).2.1).2.1), di (((a06 n_ panes).2.1).2.2.1), di (((a06 n_ panes).2.1).2.2.2.1), di (((a06 n_ panes).2.1).2.2.2.2.1), di (((a06 n_ panes).2.1).2.2.2.2.2.1), dl (.one (.int .i8)) (((a06 n_ panes).2.1).2.2.2.2.2.2.1)]]))], [[di panes.1, di panes.2.1, di panes.2.2.1, di panes.2.2.2.1, di panes.2.2.2.2.1, di panes.2.2.2.2.2.1, dl (.one (.int .i8)) panes.2.2.2.2.2.2.1]], [], 50⟩ := Eq.trans (by kernel_rfl) (d0t n_ panes (fun y702 : U15 => k ⟨[(6, .one (.fn 83 [.cell [di y702.1.1, dl (.one (.int .i64)) y702.1.2.1, di y702.1.2.2.1, di y702.1.2.2.2.1, di y702.1.2.2.2.2.1, di y702.1.2.2.2.2.2.1, di y702.1.2.2.2.2.2.2.1, di y702.1.2.2.2.2.2.2.2.1, di y702.1.2.2.2.2.2.2.2.2.1, di y702.1.2.2.2.2.2.2.2.2.2.1, di y702.1.2.2.2.2.2.2.2.2.2.2.1, di y702.1.2.2.2.2.2.2.2.2.2.2.2.1, dl (.one (.int .i8)) y702.1.2.2.2.2.2.2.2.2.2.2.2.2.1, dl (.one (.int .i32)) y702.1.2.2.2.2.2.2.2.2.2.2.2.2.2.1], .cell [di y702.2.1.1, di y702.2.1.2.1, di y702.2.1.2.2.1, di y702.2.1.2.2.2.1, di y702.2.1.2.2.2.2.1, di y702.2.1.2.2.2.2.2.1, dl (.one (.int .i8)) y702.2.1.2.2.2.2.2.2.1]]))], [[di panes.1, di panes.2.1, di panes.2.2.1, di panes.2.2.2.1, di panes.2.2.2.2.1, di panes.2.2.2.2.2.1, dl (.one (.int .i8)) panes.2.2.2.2.2.2.1]], [], 50⟩))
theorem b8u : P50 1 C50.r.r.l.r.b.r.e (S50_4 n_ v_ panes) k = k ⟨[(3, rC a00 n_), (4, rC tsI4 v_), (5, rC tsA8 panes), (7, rF 0), (11, ri n_.1), (18, rb (n_.1 == 3))], [[di panes.1, di panes.2.1, di panes.2.2.1, di panes.2.2.2.1, di panes.2.2.2.2.1, di panes.2.2.2.2.2.1, dl (.one (.int .i8)) panes.2.2.2.2.2.2.1]], [], 50⟩ := by kernel_rfl
def b5h (K : U15 → β) : β := (K ((((a0d n_ (panes.1, panes.2.1, panes.2.2.1, panes.2.2.2.1, panes.2.2.2.2.1, panes.2.2.2.2.2.1, panes.2.2.2.2.2.2.1)).1).1, ((a0d n_ (panes.1, panes.2.1, panes.2.2.1, panes.2.2.2.1, panes.2.2.2.2.1, panes.2.2.2.2.2.1, panes.2.2.2.2.2.2.1)).1).2.1, ((a0d n_ (panes.1, panes.2.1, panes.2.2.1, panes.2.2.2.1, panes.2.2.2.2.1, panes.2.2.2.2.2.1, panes.2.2.2.2.2.2.1)).1).2.2.1, ((a0d n_ (panes.1, panes.2.1, panes.2.2.1, panes.2.2.2.1, panes.2.2.2.2.1, panes.2.2.2.2.2.1, panes.2.2.2.2.2.2.1)).1).2.2.2.1, ((a0d n_ (panes.1, panes.2.1, panes.2.2.1, panes.2.2.2.1, panes.2.2.2.2.1, panes.2.2.2.2.2.1, panes.2.2.2.2.2.2.1)).1).2.2.2.2.1, ((a0d n_ (panes.1, panes.2.1, panes.2.2.1, panes.2.2.2.1, panes.2.2.2.2.1, panes.2.2.2.2.2.1, panes.2.2.2.2.2.2.1)).1).2.2.2.2.2.1, ((a0d n_ (panes.1, panes.2.1, panes.2.2.1, panes.2.2.2.1, panes.2.2.2.2.1, panes.2.2.2.2.2.1, panes.2.2.2.2.2.2.1)).1).2.2.2.2.2.2.1, ((a0d n_ (panes.1, panes.2.1, panes.2.2.1, panes.2.2.2.1, panes.2.2.2.2.1, panes.2.2.2.2.2.1, panes.2.2.2.2.2.2.1)).1).2.2.2.2.2.2.2.1, ((a0d n_ (panes.1, panes.2.1, panes.2.2.1, panes.2.2.2.1, panes.2.2.2.2.1, panes.2.2.2.2.2.1, panes.2.2.2.2.2.2.1)).1).2.2.2.2.2.2.2.2.1, ((a0d n_ (panes.1, panes.2.1, panes.2.2.1, panes.2.2.2.1, panes.2.2.2.2.1, panes.2.2.2.2.2.1, panes.2.2.2.2.2.2.1)).1).2.2.2.2.2.2.2.2.2.1, ((a0d n_ (panes.1, panes.2.1, panes.2.2.1, panes.2.2.2.1, panes.2.2.2.2.1, panes.2.2.2.2.2.1, panes.2.2.2.2.2.2.1)).1).2.2.2.2.2.2.2.2.2.2.1, ((a0d n_ (panes.1, panes.2.1, panes.2.2.1, panes.2.2.2.1, panes.2.2.2.2.1, panes.2.2.2.2.2.1, panes.2.2.2.2.2.2.1)).1).2.2.2.2.2.2.2.2.2.2.2.1, ((a0d n_ (panes.1, panes.2.1, panes.2.2.1, panes.2.2.2.1, panes.2.2.2.2.1, panes.2.2.2.2.2.1, panes.2.2.2.2.2.2.1)).1).2.2.2.2.2.2.2.2.2.2.2.2.1, ((a0d n_ (panes.1, panes.2.1, panes.2.2.1, panes.2.2.2.1, panes.2.2.2.2.1, panes.2.2.2.2.2.1, panes.2.2.2.2.2.2.1)).1).2.2.2.2.2.2.2.2.2.2.2.2.2.1, ()), (((a0d n_ (panes.1, panes.2.1, panes.2.2.1, panes.2.2.2.1, panes.2.2.2.2.1, panes.2.2.2.2.2.1, panes.2.2.2.2.2.2.1)).2.1).1, ((a0d n_ (panes.1, panes.2.1, panes.2.2.1, panes.2.2.2.1, panes.2.2.2.2.1, panes.2.2.2.2.2.1, panes.2.2.2.2.2.2.1)).2.1).2.1, ((a0d n_ (panes.1, panes.2.1, panes.2.2.1, panes.2.2.2.1, panes.2.2.2.2.1, panes.2.2.2.2.2.1, panes.2.2.2.2.2.2.1)).2.1).2.2.1, ((a0d n_ (panes.1, panes.2.1, panes.2.2.1, panes.2.2.2.1, panes.2.2.2.2.1, panes.2.2.2.2.2.1, panes.2.2.2.2.2.2.1)).2.1).2.2.2.1, ((a0d n_ (panes.1, panes.2.1, panes.2.2.1, panes.2.2.2.1, panes.2.2.2.2.1, panes.2.2.2.2.2.1, panes.2.2.2.2.2.2.1)).2.1).2.2.2.2.1, ((a0d n_ (panes.1, panes.2.1, panes.2.2.1, panes.2.2.2.1, panes.2.2.2.2.1, panes.2.2.2.2.2.1, panes.2.2.2.2.2.2.1)).2.1).2.2.2.2.2.1, ((a0d n_ (panes.1, panes.2.1, panes.2.2.1, panes.2.2.2.1, panes.2.2.2.2.1, panes.2.2.2.2.2.1, panes.2.2.2.2.2.2.1)).2.1).2.2.2.2.2.2.1, ()), ()))
def a07 : U15 := b5h n_ panes (fun y => y)
theorem d0u (K : U15 → β) : b5h n_ panes K = K (a07 n_ panes) := rfl
theorem d9y : P50 1 C50.r.r.l.r.b.r.e.r.t (S50_1 n_ v_ panes) k = k ⟨[(6, .one (.fn 87 [.cell [di (((a07 n_ panes).1).1), dl (.one (.int .i64)) (((a07 n_ panes).1).2.1), di (((a07 n_ panes).1).2.2.1), di (((a07 n_ panes).1).2.2.2.1), di (((a07 n_ panes).1).2.2.2.2.1), di (((a07 n_ panes).1).2.2.2.2.2.1), di (((a07 n_ panes).1).2.2.2.2.2.2.1), di (((a07 n_ panes).1).2.2.2.2.2.2.2.1), di (((a07 n_ panes).1).2.2.2.2.2.2.2.2.1), di (((a07 n_ panes).1).2.2.2.2.2.2.2.2.2.1), di (((a07 n_ panes).1).2.2.2.2.2.2.2.2.2.2.1), di (((a07 n_ panes).1).2.2.2.2.2.2.2.2.2.2.2.1), dl (.one (.int .i8)) (((a07 n_ panes).1).2.2.2.2.2.2.2.2.2.2.2.2.1), dl (.one (.int .i32)) (((a07 n_ panes).1).2.2.2.2.2.2.2.2.2.2.2.2.2.1)], .cell [di (((a07 n_ panes).2.1).1), di (((a07 n_ panes).2.1).2.1), di (((a07 n_ panes).2.1).2.2.1), di (((a07 n_ panes).2.1).2.2.2.1), di (((a07 n_ panes).2.1).2.2.2.2.1), di (((a07 n_ panes).2.1).2.2.2.2.2.1), dl (.one (.int .i8)) (((a07 n_ panes).2.1).2.2.2.2.2.2.1)]]))], [[di panes.1, di panes.2.1, di panes.2.2.1, di panes.2.2.2.1, di panes.2.2.2.2.1, di panes.2.2.2.2.2.1, dl (.one (.int .i8)) panes.2.2.2.2.2.2.1]], [], 50⟩ := Eq.trans (by kernel_rfl) (d0u n_ panes (fun y703 : U15 => k ⟨[(6, .one (.fn 87 [.cell [di y703.1.1, dl (.one (.int .i64)) y703.1.2.1, di y703.1.2.2.1, di y703.1.2.2.2.1, di y703.1.2.2.2.2.1, di y703.1.2.2.2.2.2.1, di y703.1.2.2.2.2.2.2.1, di y703.1.2.2.2.2.2.2.2.1, di y703.1.2.2.2.2.2.2.2.2.1, di y703.1.2.2.2.2.2.2.2.2.2.1, di y703.1.2.2.2.2.2.2.2.2.2.2.1, di y703.1.2.2.2.2.2.2.2.2.2.2.2.1, dl (.one (.int .i8)) y703.1.2.2.2.2.2.2.2.2.2.2.2.2.1, dl (.one (.int .i32)) y703.1.2.2.2.2.2.2.2.2.2.2.2.2.2.1], .cell [di y703.2.1.1, di y703.2.1.2.1, di y703.2.1.2.2.1, di y703.2.1.2.2.2.1, di y703.2.1.2.2.2.2.1, di y703.2.1.2.2.2.2.2.1, dl (.one (.int .i8)) y703.2.1.2.2.2.2.2.2.1]]))], [[di panes.1, di panes.2.1, di panes.2.2.1, di panes.2.2.2.1, di panes.2.2.2.2.1, di panes.2.2.2.2.2.1, dl (.one (.int .i8)) panes.2.2.2.2.2.2.1]], [], 50⟩))
abbrev S50_5 : St := ⟨[(3, rC a00 n_), (4, rC tsI4 v_), (5, rC tsA8 panes), (7, rF 0), (11, ri n_.1), (23, rb (n_.1 == 4))], [[di panes.1, di panes.2.1, di panes.2.2.1, di panes.2.2.2.1, di panes.2.2.2.2.1, di panes.2.2.2.2.2.1, dl (.one (.int .i8)) panes.2.2.2.2.2.2.1]], [], 50⟩
theorem b90 : P50 1 C50.r.r.l.r.b.r.e.r.e.l (S50_1 n_ v_ panes) k = k (S50_5 n_ v_ panes) := by kernel_rfl
abbrev S50_6 : St := ⟨[(3, rC a00 n_), (4, rC tsI4 v_), (5, rC tsA8 panes), (7, rF 0), (11, ri n_.1), (23, rb (n_.1 == 5))], [[di panes.1, di panes.2.1, di panes.2.2.1, di panes.2.2.2.1, di panes.2.2.2.2.1, di panes.2.2.2.2.2.1, dl (.one (.int .i8)) panes.2.2.2.2.2.2.1]], [], 50⟩
theorem d9z : R50 C50.r.r.l.r.b.r.e.r.e.l.r.e (S50_5 n_ v_ panes) q = q .normal (S50_6 n_ v_ panes) := by kernel_rfl
def a8i (K : Bool → β) : β := (bif (n_.1 == 4) then (K (n_.1 == 4)) else (K (n_.1 == 5)))
def a52 : Bool := a8i n_ (fun y => y)
theorem d0s (K : Bool → β) : a8i n_ K = K (a52 n_) := (bif_k K rfl rfl)
abbrev S50_7 : St := ⟨[(3, rC a00 n_), (4, rC tsI4 v_), (5, rC tsA8 panes), (7, rF 0), (11, ri n_.1), (23, rb (a52 n_))], [[di panes.1, di panes.2.1, di panes.2.2.1, di panes.2.2.2.1, di panes.2.2.2.2.1, di panes.2.2.2.2.2.1, dl (.one (.int .i8)) panes.2.2.2.2.2.2.1]], [], 50⟩
theorem d9v : R50 C50.r.r.l.r.b.r.e.r.e.l (S50_1 n_ v_ panes) (Q50 C50.r.r.l.r.b.r.e.r.e.r q) = R50 C50.r.r.l.r.b.r.e.r.e.r (S50_7 n_ v_ panes) q := by
  refine Eq.trans ?_ (d0s n_ (fun y704 : Bool => R50 C50.r.r.l.r.b.r.e.r.e.r ⟨[(3, rC a00 n_), (4, rC tsI4 v_), (5, rC tsA8 panes), (7, rF 0), (11, ri n_.1), (23, rb y704)], [[di panes.1, di panes.2.1, di panes.2.2.1, di panes.2.2.2.1, di panes.2.2.2.2.1, di panes.2.2.2.2.2.1, dl (.one (.int .i8)) panes.2.2.2.2.2.2.1]], [], 50⟩ q))
  unfold a8i
  refine (pre1 (b90 n_ v_ panes _)).trans ?_
  refine (cond_s (b := (n_.1 == 4)) ).trans (bif_g ?_ ?_)
  · refine (skip_eq).trans ?_
    refine (seqC_normal (st' := (S50_5 n_ v_ panes))).trans ?_
    kernel_rfl
  · refine (d9z n_ v_ panes _).trans ?_
    refine (seqC_normal (st' := (S50_6 n_ v_ panes))).trans ?_
    kernel_rfl
def b38 (K : U15 → β) : β := (K ((((a0e n_ (panes.1, panes.2.1, panes.2.2.1, panes.2.2.2.1, panes.2.2.2.2.1, panes.2.2.2.2.2.1, panes.2.2.2.2.2.2.1)).1).1, ((a0e n_ (panes.1, panes.2.1, panes.2.2.1, panes.2.2.2.1, panes.2.2.2.2.1, panes.2.2.2.2.2.1, panes.2.2.2.2.2.2.1)).1).2.1, ((a0e n_ (panes.1, panes.2.1, panes.2.2.1, panes.2.2.2.1, panes.2.2.2.2.1, panes.2.2.2.2.2.1, panes.2.2.2.2.2.2.1)).1).2.2.1, ((a0e n_ (panes.1, panes.2.1, panes.2.2.1, panes.2.2.2.1, panes.2.2.2.2.1, panes.2.2.2.2.2.1, panes.2.2.2.2.2.2.1)).1).2.2.2.1, ((a0e n_ (panes.1, panes.2.1, panes.2.2.1, panes.2.2.2.1, panes.2.2.2.2.1, panes.2.2.2.2.2.1, panes.2.2.2.2.2.2.1)).1).2.2.2.2.1, ((a0e n_ (panes.1, panes.2.1, panes.2.2.1, panes.2.2.2.1, panes.2.2.2.2.1, panes.2.2.2.2.2.1, panes.2.2.2.2.2.2.1)).1).2.2.2.2.2.1, ((a0e n_ (panes.1, panes.2.1, panes.2.2.1, panes.2.2.2.1, panes.2.2.2.2.1, panes.2.2.2.2.2.1, panes.2.2.2.2.2.2.1)).1).2.2.2.2.2.2.1, ((a0e n_ (panes.1, panes.2.1, panes.2.2.1, panes.2.2.2.1, panes.2.2.2.2.1, panes.2.2.2.2.2.1, panes.2.2.2.2.2.2.1)).1).2.2.2.2.2.2.2.1, ((a0e n_ (panes.1, panes.2.1, panes.2.2.1, panes.2.2.2.1, panes.2.2.2.2.1, panes.2.2.2.2.2.1, panes.2.2.2.2.2.2.1)).1).2.2.2.2.2.2.2.2.1, ((a0e n_ (panes.1, panes.2.1, panes.2.2.1, panes.2.2.2.1, panes.2.2.2.2.1, panes.2.2.2.2.2.1, panes.2.2.2.2.2.2.1)).1).2.2.2.2.2.2.2.2.2.1, ((a0e n_ (panes.1, panes.2.1, panes.2.2.1, panes.2.2.2.1, panes.2.2.2.2.1, panes.2.2.2.2.2.1, panes.2.2.2.2.2.2.1)).1).2.2.2.2.2.2.2.2.2.2.1, ((a0e n_ (panes.1, panes.2.1, panes.2.2.1, panes.2.2.2.1, panes.2.2.2.2.1, panes.2.2.2.2.2.1, panes.2.2.2.2.2.2.1)).1).2.2.2.2.2.2.2.2.2.2.2.1, ((a0e n_ (panes.1, panes.2.1, panes.2.2.1, panes.2.2.2.1, panes.2.2.2.2.1, panes.2.2.2.2.2.1, panes.2.2.2.2.2.2.1)).1).2.2.2.2.2.2.2.2.2.2.2.2.1, ((a0e n_ (panes.1, panes.2.1, panes.2.2.1, panes.2.2.2.1, panes.2.2.2.2.1, panes.2.2.2.2.2.1, panes.2.2.2.2.2.2.1)).1).2.2.2.2.2.2.2.2.2.2.2.2.2.1, ()), (((a0e n_ (panes.1, panes.2.1, panes.2.2.1, panes.2.2.2.1, panes.2.2.2.2.1, panes.2.2.2.2.2.1, panes.2.2.2.2.2.2.1)).2.1).1, ((a0e n_ (panes.1, panes.2.1, panes.2.2.1, panes.2.2.2.1, panes.2.2.2.2.1, panes.2.2.2.2.2.1, panes.2.2.2.2.2.2.1)).2.1).2.1, ((a0e n_ (panes.1, panes.2.1, panes.2.2.1, panes.2.2.2.1, panes.2.2.2.2.1, panes.2.2.2.2.2.1, panes.2.2.2.2.2.2.1)).2.1).2.2.1, ((a0e n_ (panes.1, panes.2.1, panes.2.2.1, panes.2.2.2.1, panes.2.2.2.2.1, panes.2.2.2.2.2.1, panes.2.2.2.2.2.2.1)).2.1).2.2.2.1, ((a0e n_ (panes.1, panes.2.1, panes.2.2.1, panes.2.2.2.1, panes.2.2.2.2.1, panes.2.2.2.2.2.1, panes.2.2.2.2.2.2.1)).2.1).2.2.2.2.1, ((a0e n_ (panes.1, panes.2.1, panes.2.2.1, panes.2.2.2.1, panes.2.2.2.2.1, panes.2.2.2.2.2.1, panes.2.2.2.2.2.2.1)).2.1).2.2.2.2.2.1, ((a0e n_ (panes.1, panes.2.1, panes.2.2.1, panes.2.2.2.1, panes.2.2.2.2.1, panes.2.2.2.2.2.1, panes.2.2.2.2.2.2.1)).2.1).2.2.2.2.2.2.1, ()), ()))
def a05 : U15 := b38 n_ panes (fun y => y)
theorem c6f (K : U15 → β) : b38 n_ panes K = K (a05 n_ panes) := rfl
theorem d4i : P50 1 C50.r.r.l.r.b.r.e.r.e.r.t (S50_7 n_ v_ panes) k = k ⟨[(6, .one (.fn 88 [.cell [di (((a05 n_ panes).1).1), dl (.one (.int .i64)) (((a05 n_ panes).1).2.1), di (((a05 n_ panes).1).2.2.1), di (((a05 n_ panes).1).2.2.2.1), di (((a05 n_ panes).1).2.2.2.2.1), di (((a05 n_ panes).1).2.2.2.2.2.1), di (((a05 n_ panes).1).2.2.2.2.2.2.1), di (((a05 n_ panes).1).2.2.2.2.2.2.2.1), di (((a05 n_ panes).1).2.2.2.2.2.2.2.2.1), di (((a05 n_ panes).1).2.2.2.2.2.2.2.2.2.1), di (((a05 n_ panes).1).2.2.2.2.2.2.2.2.2.2.1), di (((a05 n_ panes).1).2.2.2.2.2.2.2.2.2.2.2.1), dl (.one (.int .i8)) (((a05 n_ panes).1).2.2.2.2.2.2.2.2.2.2.2.2.1), dl (.one (.int .i32)) (((a05 n_ panes).1).2.2.2.2.2.2.2.2.2.2.2.2.2.1)], .cell [di (((a05 n_ panes).2.1).1), di (((a05 n_ panes).2.1).2.1), di (((a05 n_ panes).2.1).2.2.1), di (((a05 n_ panes).2.1).2.2.2.1), di (((a05 n_ panes).2.1).2.2.2.2.1), di (((a05 n_ panes).2.1).2.2.2.2.2.1), dl (.one (.int .i8)) (((a05 n_ panes).2.1).2.2.2.2.2.2.1)]]))], [[di panes.1, di panes.2.1, di panes.2.2.1, di panes.2.2.2.1, di panes.2.2.2.2.1, di panes.2.2.2.2.2.1, dl (.one (.int .i8)) panes.2.2.2.2.2.2.1]], [], 50⟩ := Eq.trans (by kernel_rfl) (c6f n_ panes (fun y705 : U15 => k ⟨[(6, .one (.fn 88 [.cell [di y705.1.1, dl (.one (.int .i64)) y705.1.2.1, di y705.1.2.2.1, di y705.1.2.2.2.1, di y705.1.2.2.2.2.1, di y705.1.2.2.2.2.2.1, di y705.1.2.2.2.2.2.2.1, di y705.1.2.2.2.2.2.2.2.1, di y705.1.2.2.2.2.2.2.2.2.1, di y705.1.2.2.2.2.2.2.2.2.2.1, di y705.1.2.2.2.2.2.2.2.2.2.2.1, di y705.1.2.2.2.2.2.2.2.2.2.2.2.1, dl (.one (.int .i8)) y705.1.2.2.2.2.2.2.2.2.2.2.2.2.1, dl (.one (.int .i32)) y705.1.2.2.2.2.2.2.2.2.2.2.2.2.2.1], .cell [di y705.2.1.1, di y705.2.1.2.1, di y705.2.1.2.2.1, di y705.2.1.2.2.2.1, di y705.2.1.2.2.2.2.1, di y705.2.1.2.2.2.2.2.1, dl (.one (.int .i8)) y705.2.1.2.2.2.2.2.2.1]]))], [[di panes.1, di panes.2.1, di panes.2.2.1, di panes.2.2.2.1, di panes.2.2.2.2.1, di panes.2.2.2.2.2.1, dl (.one (.int .i8)) panes.2.2.2.2.2.2.1]], [], 50⟩))
abbrev S50_8 : St := ⟨[(3, rC a00 n_), (4, rC tsI4 v_), (5, rC tsA8 panes), (7, rF 0), (11, ri n_.1), (29, rb (n_.1 == 6))], [[di panes.1, di panes.2.1, di panes.2.2.1, di panes.2.2.2.1, di panes.2.2.2.2.1, di panes.2.2.2.2.2.1, dl (.one (.int .i8)) panes.2.2.2.2.2.2.1]], [], 50⟩
theorem b91 : P50 1 C50.r.r.l.r.b.r.e.r.e.r.e.l (S50_7 n_ v_ panes) k = k (S50_8 n_ v_ panes) := by kernel_rfl
abbrev S50_9 : St := ⟨[(3, rC a00 n_), (4, rC tsI4 v_), (5, rC tsA8 panes), (7, rF 0), (11, ri n_.1), (29, rb (n_.1 == 7))], [[di panes.1, di panes.2.1, di panes.2.2.1, di panes.2.2.2.1, di panes.2.2.2.2.1, di panes.2.2.2.2.2.1, dl (.one (.int .i8)) panes.2.2.2.2.2.2.1]], [], 50⟩
theorem d4j : R50 C50.r.r.l.r.b.r.e.r.e.r.e.l.r.e (S50_8 n_ v_ panes) q = q .normal (S50_9 n_ v_ panes) := by kernel_rfl
def a76 (K : Bool → β) : β := (bif (n_.1 == 6) then (K (n_.1 == 6)) else (K (n_.1 == 7)))
def a48 : Bool := a76 n_ (fun y => y)
theorem c6e (K : Bool → β) : a76 n_ K = K (a48 n_) := (bif_k K rfl rfl)
abbrev d6p : St := ⟨[(3, rC a00 n_), (4, rC tsI4 v_), (5, rC tsA8 panes), (7, rF 0), (11, ri n_.1), (29, rb (a48 n_))], [[di panes.1, di panes.2.1, di panes.2.2.1, di panes.2.2.2.1, di panes.2.2.2.2.1, di panes.2.2.2.2.2.1, dl (.one (.int .i8)) panes.2.2.2.2.2.2.1]], [], 50⟩
theorem d4h : R50 C50.r.r.l.r.b.r.e.r.e.r.e.l (S50_7 n_ v_ panes) (Q50 C50.r.r.l.r.b.r.e.r.e.r.e.r q) = R50 C50.r.r.l.r.b.r.e.r.e.r.e.r (d6p n_ v_ panes) q := by
  refine Eq.trans ?_ (c6e n_ (fun y706 : Bool => R50 C50.r.r.l.r.b.r.e.r.e.r.e.r ⟨[(3, rC a00 n_), (4, rC tsI4 v_), (5, rC tsA8 panes), (7, rF 0), (11, ri n_.1), (29, rb y706)], [[di panes.1, di panes.2.1, di panes.2.2.1, di panes.2.2.2.1, di panes.2.2.2.2.1, di panes.2.2.2.2.2.1, dl (.one (.int .i8)) panes.2.2.2.2.2.2.1]], [], 50⟩ q))
  unfold a76
  refine (pre1 (b91 n_ v_ panes _)).trans ?_
  refine (cond_s (b := (n_.1 == 6)) ).trans (bif_g ?_ ?_)
  · refine (skip_eq).trans ?_
    refine (seqC_normal (st' := (S50_8 n_ v_ panes))).trans ?_
    kernel_rfl
  · refine (d4j n_ v_ panes _).trans ?_
    refine (seqC_normal (st' := (S50_9 n_ v_ panes))).trans ?_
    kernel_rfl
def b39 (K : U19 → β) : β := (K ((((a0a n_ (panes.1, panes.2.1, panes.2.2.1, panes.2.2.2.1, panes.2.2.2.2.1, panes.2.2.2.2.2.1, panes.2.2.2.2.2.2.1) panes.2.2.2.2.2.2.2).1).1, ((a0a n_ (panes.1, panes.2.1, panes.2.2.1, panes.2.2.2.1, panes.2.2.2.2.1, panes.2.2.2.2.2.1, panes.2.2.2.2.2.2.1) panes.2.2.2.2.2.2.2).1).2.1, ((a0a n_ (panes.1, panes.2.1, panes.2.2.1, panes.2.2.2.1, panes.2.2.2.2.1, panes.2.2.2.2.2.1, panes.2.2.2.2.2.2.1) panes.2.2.2.2.2.2.2).1).2.2.1, ((a0a n_ (panes.1, panes.2.1, panes.2.2.1, panes.2.2.2.1, panes.2.2.2.2.1, panes.2.2.2.2.2.1, panes.2.2.2.2.2.2.1) panes.2.2.2.2.2.2.2).1).2.2.2.1, ((a0a n_ (panes.1, panes.2.1, panes.2.2.1, panes.2.2.2.1, panes.2.2.2.2.1, panes.2.2.2.2.2.1, panes.2.2.2.2.2.2.1) panes.2.2.2.2.2.2.2).1).2.2.2.2.1, ((a0a n_ (panes.1, panes.2.1, panes.2.2.1, panes.2.2.2.1, panes.2.2.2.2.1, panes.2.2.2.2.2.1, panes.2.2.2.2.2.2.1) panes.2.2.2.2.2.2.2).1).2.2.2.2.2.1, ((a0a n_ (panes.1, panes.2.1, panes.2.2.1, panes.2.2.2.1, panes.2.2.2.2.1, panes.2.2.2.2.2.1, panes.2.2.2.2.2.2.1) panes.2.2.2.2.2.2.2).1).2.2.2.2.2.2.1, ()), (((a0a n_ (panes.1, panes.2.1, panes.2.2.1, panes.2.2.2.1, panes.2.2.2.2.1, panes.2.2.2.2.2.1, panes.2.2.2.2.2.2.1) panes.2.2.2.2.2.2.2).2.1).1, ((a0a n_ (panes.1, panes.2.1, panes.2.2.1, panes.2.2.2.1, panes.2.2.2.2.1, panes.2.2.2.2.2.1, panes.2.2.2.2.2.2.1) panes.2.2.2.2.2.2.2).2.1).2.1, ((a0a n_ (panes.1, panes.2.1, panes.2.2.1, panes.2.2.2.1, panes.2.2.2.2.1, panes.2.2.2.2.2.1, panes.2.2.2.2.2.2.1) panes.2.2.2.2.2.2.2).2.1).2.2.1, ((a0a n_ (panes.1, panes.2.1, panes.2.2.1, panes.2.2.2.1, panes.2.2.2.2.1, panes.2.2.2.2.2.1, panes.2.2.2.2.2.2.1) panes.2.2.2.2.2.2.2).2.1).2.2.2.1, ((a0a n_ (panes.1, panes.2.1, panes.2.2.1, panes.2.2.2.1, panes.2.2.2.2.1, panes.2.2.2.2.2.1, panes.2.2.2.2.2.2.1) panes.2.2.2.2.2.2.2).2.1).2.2.2.2.1, ((a0a n_ (panes.1, panes.2.1, panes.2.2.1, panes.2.2.2.1, panes.2.2.2.2.1, panes.2.2.2.2.2.1, panes.2.2.2.2.2.2.1) panes.2.2.2.2.2.2.2).2.1).2.2.2.2.2.1, ((a0a n_ (panes.1, panes.2.1, panes.2.2.1, panes.2.2.2.1, panes.2.2.2.2.1, panes.2.2.2.2.2.1, panes.2.2.2.2.2.2.1) panes.2.2.2.2.2.2.2).2.1).2.2.2.2.2.2.1, ()), (((a0a n_ (panes.1, panes.2.1, panes.2.2.1, panes.2.2.2.1, panes.2.2.2.2.1, panes.2.2.2.2.2.1, panes.2.2.2.2.2.2.1) panes.2.2.2.2.2.2.2).2.2.1).1, ((a0a n_ (panes.1, panes.2.1, panes.2.2.1, panes.2.2.2.1, panes.2.2.2.2.1, panes.2.2.2.2.2.1, panes.2.2.2.2.2.2.1) panes.2.2.2.2.2.2.2).2.2.1).2.1, ((a0a n_ (panes.1, panes.2.1, panes.2.2.1, panes.2.2.2.1, panes.2.2.2.2.1, panes.2.2.2.2.2.1, panes.2.2.2.2.2.2.1) panes.2.2.2.2.2.2.2).2.2.1).2.2.1, ((a0a n_ (panes.1, panes.2.1, panes.2.2.1, panes.2.2.2.1, panes.2.2.2.2.1, panes.2.2.2.2.2.1, panes.2.2.2.2.2.2.1) panes.2.2.2.2.2.2.2).2.2.1).2.2.2.1, ((a0a n_ (panes.1, panes.2.1, panes.2.2.1, panes.2.2.2.1, panes.2.2.2.2.1, panes.2.2.2.2.2.1, panes.2.2.2.2.2.2.1) panes.2.2.2.2.2.2.2).2.2.1).2.2.2.2.1, ((a0a n_ (panes.1, panes.2.1, panes.2.2.1, panes.2.2.2.1, panes.2.2.2.2.1, panes.2.2.2.2.2.1, panes.2.2.2.2.2.2.1) panes.2.2.2.2.2.2.2).2.2.1).2.2.2.2.2.1, ((a0a n_ (panes.1, panes.2.1, panes.2.2.1, panes.2.2.2.1, panes.2.2.2.2.1, panes.2.2.2.2.2.1, panes.2.2.2.2.2.2.1) panes.2.2.2.2.2.2.2).2.2.1).2.2.2.2.2.2.1, ((a0a n_ (panes.1, panes.2.1, panes.2.2.1, panes.2.2.2.1, panes.2.2.2.2.1, panes.2.2.2.2.2.1, panes.2.2.2.2.2.2.1) panes.2.2.2.2.2.2.2).2.2.1).2.2.2.2.2.2.2.1, ((a0a n_ (panes.1, panes.2.1, panes.2.2.1, panes.2.2.2.1, panes.2.2.2.2.1, panes.2.2.2.2.2.1, panes.2.2.2.2.2.2.1) panes.2.2.2.2.2.2.2).2.2.1).2.2.2.2.2.2.2.2.1, ((a0a n_ (panes.1, panes.2.1, panes.2.2.1, panes.2.2.2.1, panes.2.2.2.2.1, panes.2.2.2.2.2.1, panes.2.2.2.2.2.2.1) panes.2.2.2.2.2.2.2).2.2.1).2.2.2.2.2.2.2.2.2.1, ((a0a n_ (panes.1, panes.2.1, panes.2.2.1, panes.2.2.2.1, panes.2.2.2.2.1, panes.2.2.2.2.2.1, panes.2.2.2.2.2.2.1) panes.2.2.2.2.2.2.2).2.2.1).2.2.2.2.2.2.2.2.2.2.1, ((a0a n_ (panes.1, panes.2.1, panes.2.2.1, panes.2.2.2.1, panes.2.2.2.2.1, panes.2.2.2.2.2.1, panes.2.2.2.2.2.2.1) panes.2.2.2.2.2.2.2).2.2.1).2.2.2.2.2.2.2.2.2.2.2.1, ((a0a n_ (panes.1, panes.2.1, panes.2.2.1, panes.2.2.2.1, panes.2.2.2.2.1, panes.2.2.2.2.2.1, panes.2.2.2.2.2.2.1) panes.2.2.2.2.2.2.2).2.2.1).2.2.2.2.2.2.2.2.2.2.2.2.1, ((a0a n_ (panes.1, panes.2.1, panes.2.2.1, panes.2.2.2.1, panes.2.2.2.2.1, panes.2.2.2.2.2.1, panes.2.2.2.2.2.2.1) panes.2.2.2.2.2.2.2).2.2.1).2.2.2.2.2.2.2.2.2.2.2.2.2.1, ()), ()))
def a02 : U19 := b39 n_ panes (fun y => y)
theorem c6g (K : U19 → β) : b39 n_ panes K = K (a02 n_ panes) := rfl
theorem d4k : P50 1 C50.r.r.l.r.b.r.e.r.e.r.e.r.t (d6p n_ v_ panes) k = k ⟨[(6, .one (.fn 91 [.cell [di (((a02 n_ panes).1).1), di (((a02 n_ panes).1).2.1), di (((a02 n_ panes).1).2.2.1), di (((a02 n_ panes).1).2.2.2.1), di (((a02 n_ panes).1).2.2.2.2.1), di (((a02 n_ panes).1).2.2.2.2.2.1), dl (.one (.int .i8)) (((a02 n_ panes).1).2.2.2.2.2.2.1)], .cell [di (((a02 n_ panes).2.1).1), di (((a02 n_ panes).2.1).2.1), di (((a02 n_ panes).2.1).2.2.1), di (((a02 n_ panes).2.1).2.2.2.1), di (((a02 n_ panes).2.1).2.2.2.2.1), di (((a02 n_ panes).2.1).2.2.2.2.2.1), dl (.one (.int .i8)) (((a02 n_ panes).2.1).2.2.2.2.2.2.1)], .cell [di (((a02 n_ panes).2.2.1).1), dl (.one (.int .i64)) (((a02 n_ panes).2.2.1).2.1), di (((a02 n_ panes).2.2.1).2.2.1), di (((a02 n_ panes).2.2.1).2.2.2.1), di (((a02 n_ panes).2.2.1).2.2.2.2.1), di (((a02 n_ panes).2.2.1).2.2.2.2.2.1), di (((a02 n_ panes).2.2.1).2.2.2.2.2.2.1), di (((a02 n_ panes).2.2.1).2.2.2.2.2.2.2.1), di (((a02 n_ panes).2.2.1).2.2.2.2.2.2.2.2.1), di (((a02 n_ panes).2.2.1).2.2.2.2.2.2.2.2.2.1), di (((a02 n_ panes).2.2.1).2.2.2.2.2.2.2.2.2.2.1), di (((a02 n_ panes).2.2.1).2.2.2.2.2.2.2.2.2.2.2.1), dl (.one (.int .i8)) (((a02 n_ panes).2.2.1).2.2.2.2.2.2.2.2.2.2.2.2.1), dl (.one (.int .i32)) (((a02 n_ panes).2.2.1).2.2.2.2.2.2.2.2.2.2.2.2.2.1)]]))], [[di panes.1, di panes.2.1, di panes.2.2.1, di panes.2.2.2.1, di panes.2.2.2.2.1, di panes.2.2.2.2.2.1, dl (.one (.int .i8)) panes.2.2.2.2.2.2.1]], [], 50⟩ := Eq.trans (by kernel_rfl) (c6g n_ panes (fun y707 : U19 => k ⟨[(6, .one (.fn 91 [.cell [di y707.1.1, di y707.1.2.1, di y707.1.2.2.1, di y707.1.2.2.2.1, di y707.1.2.2.2.2.1, di y707.1.2.2.2.2.2.1, dl (.one (.int .i8)) y707.1.2.2.2.2.2.2.1], .cell [di y707.2.1.1, di y707.2.1.2.1, di y707.2.1.2.2.1, di y707.2.1.2.2.2.1, di y707.2.1.2.2.2.2.1, di y707.2.1.2.2.2.2.2.1, dl (.one (.int .i8)) y707.2.1.2.2.2.2.2.2.1], .cell [di y707.2.2.1.1, dl (.one (.int .i64)) y707.2.2.1.2.1, di y707.2.2.1.2.2.1, di y707.2.2.1.2.2.2.1, di y707.2.2.1.2.2.2.2.1, di y707.2.2.1.2.2.2.2.2.1, di y707.2.2.1.2.2.2.2.2.2.1, di y707.2.2.1.2.2.2.2.2.2.2.1, di y707.2.2.1.2.2.2.2.2.2.2.2.1, di y707.2.2.1.2.2.2.2.2.2.2.2.2.1, di y707.2.2.1.2.2.2.2.2.2.2.2.2.2.1, di y707.2.2.1.2.2.2.2.2.2.2.2.2.2.2.1, dl (.one (.int .i8)) y707.2.2.1.2.2.2.2.2.2.2.2.2.2.2.2.1, dl (.one (.int .i32)) y707.2.2.1.2.2.2.2.2.2.2.2.2.2.2.2.2.1]]))], [[di panes.1, di panes.2.1, di panes.2.2.1, di panes.2.2.2.1, di panes.2.2.2.2.1, di panes.2.2.2.2.2.1, dl (.one (.int .i8)) panes.2.2.2.2.2.2.1]], [], 50⟩))
theorem b8v : P50 1 C50.r.r.l.r.b.r.e.r.e.r.e.r.e (d6p n_ v_ panes) k = k ⟨[(3, rC a00 n_), (4, rC tsI4 v_), (5, rC tsA8 panes), (7, rF 0), (11, ri n_.1), (37, rb (n_.1 == 8))], [[di panes.1, di panes.2.1, di panes.2.2.1, di panes.2.2.2.1, di panes.2.2.2.2.1, di panes.2.2.2.2.2.1, dl (.one (.int .i8)) panes.2.2.2.2.2.2.1]], [], 50⟩ := by kernel_rfl
theorem d9s : P50 1 C50.r.r.l.r.b.r.e.r.e.r.e.r.e.r.t (S50_1 n_ v_ panes) k = k ⟨[(6, .one (.fn 74 [.ref 0 0, .cell (a00.leaves n_)]))], [[di panes.1, di panes.2.1, di panes.2.2.1, di panes.2.2.2.1, di panes.2.2.2.2.1, di panes.2.2.2.2.2.1, dl (.one (.int .i8)) panes.2.2.2.2.2.2.1]], [], 50⟩ := by kernel_rfl
theorem b8w : P50 1 C50.r.r.l.r.b.r.e.r.e.r.e.r.e.r.e (S50_1 n_ v_ panes) k = k ⟨[(3, rC a00 n_), (4, rC tsI4 v_), (5, rC tsA8 panes), (7, rF 0), (11, ri n_.1), (40, rb (n_.1 == 9))], [[di panes.1, di panes.2.1, di panes.2.2.1, di panes.2.2.2.1, di panes.2.2.2.2.1, di panes.2.2.2.2.2.1, dl (.one (.int .i8)) panes.2.2.2.2.2.2.1]], [], 50⟩ := by kernel_rfl
theorem d0n : P50 1 C50.r.r.l.r.b.r.e.r.e.r.e.r.e.r.e.r.t (S50_1 n_ v_ panes) k = k ⟨[(6, .one (.fn 76 [.ref 0 0]))], [[di panes.1, di panes.2.1, di panes.2.2.1, di panes.2.2.2.1, di panes.2.2.2.2.1, di panes.2.2.2.2.2.1, dl (.one (.int .i8)) panes.2.2.2.2.2.2.1]], [], 50⟩ := by kernel_rfl
theorem b8x : P50 1 C50.r.r.l.r.b.r.e.r.e.r.e.r.e.r.e.r.e (S50_1 n_ v_ panes) k = k ⟨[(3, rC a00 n_), (4, rC tsI4 v_), (5, rC tsA8 panes), (7, rF 0), (11, ri n_.1), (43, rb (n_.1 == 10))], [[di panes.1, di panes.2.1, di panes.2.2.1, di panes.2.2.2.1, di panes.2.2.2.2.1, di panes.2.2.2.2.2.1, dl (.one (.int .i8)) panes.2.2.2.2.2.2.1]], [], 50⟩ := by kernel_rfl
theorem d0o : P50 1 C50.r.r.l.r.b.r.e.r.e.r.e.r.e.r.e.r.e.r.t (S50_1 n_ v_ panes) k = k ⟨[(6, .one (.fn 77 [.ref 0 0, .cell (tsA8.leaves panes)]))], [[di panes.1, di panes.2.1, di panes.2.2.1, di panes.2.2.2.1, di panes.2.2.2.2.1, di panes.2.2.2.2.2.1, dl (.one (.int .i8)) panes.2.2.2.2.2.2.1]], [], 50⟩ := by kernel_rfl
theorem b8y : P50 1 C50.r.r.l.r.b.r.e.r.e.r.e.r.e.r.e.r.e.r.e (S50_1 n_ v_ panes) k = k ⟨[(3, rC a00 n_), (4, rC tsI4 v_), (7, rF 0), (46, rb (n_.1 == 11))], [[di panes.1, di panes.2.1, di panes.2.2.1, di panes.2.2.2.1, di panes.2.2.2.2.1, di panes.2.2.2.2.2.1, dl (.one (.int .i8)) panes.2.2.2.2.2.2.1]], [], 50⟩ := by kernel_rfl
abbrev e2p : St := ⟨[(3, rC a00 n_), (4, rC tsI4 v_), (7, rF 0)], [[di panes.1, di panes.2.1, di panes.2.2.1, di panes.2.2.2.1, di panes.2.2.2.2.1, di panes.2.2.2.2.2.1, dl (.one (.int .i8)) panes.2.2.2.2.2.2.1]], [], 50⟩
theorem d0p : P50 1 C50.r.r.l.r.b.r.e.r.e.r.e.r.e.r.e.r.e.r.e.r.t (e2p n_ v_ panes) k = k ⟨[(6, .one (.fn 78 [.ref 0 0, .cell (tsI4.leaves v_)]))], [[di panes.1, di panes.2.1, di panes.2.2.1, di panes.2.2.2.1, di panes.2.2.2.2.1, di panes.2.2.2.2.2.1, dl (.one (.int .i8)) panes.2.2.2.2.2.2.1]], [], 50⟩ := by kernel_rfl
abbrev e2q : St := ⟨[(3, rC a00 n_), (7, rF 0)], [[di panes.1, di panes.2.1, di panes.2.2.1, di panes.2.2.2.1, di panes.2.2.2.2.1, di panes.2.2.2.2.2.1, dl (.one (.int .i8)) panes.2.2.2.2.2.2.1]], [], 50⟩
theorem d0q : P50 1 C50.r.r.r (e2q n_ panes) k = k ⟨[(6, .one (.fn 80 [.cell (a00.leaves n_), .ref 0 0]))], [[di panes.1, di panes.2.1, di panes.2.2.1, di panes.2.2.2.1, di panes.2.2.2.2.1, di panes.2.2.2.2.2.1, dl (.one (.int .i8)) panes.2.2.2.2.2.2.1]], [], 50⟩ := by kernel_rfl
/-- quilt/kern.made -/
def b42 (K : U27 → β) : β := (bif (a51 n_) then (K (Sum.inr (Sum.inr (Sum.inr (Sum.inr (Sum.inr (Sum.inl ((((a06 n_ panes).1).1, ((a06 n_ panes).1).2.1, ((a06 n_ panes).1).2.2.1, ((a06 n_ panes).1).2.2.2.1, ((a06 n_ panes).1).2.2.2.2.1, ((a06 n_ panes).1).2.2.2.2.2.1, ((a06 n_ panes).1).2.2.2.2.2.2.1, ((a06 n_ panes).1).2.2.2.2.2.2.2.1, ((a06 n_ panes).1).2.2.2.2.2.2.2.2.1, ((a06 n_ panes).1).2.2.2.2.2.2.2.2.2.1, ((a06 n_ panes).1).2.2.2.2.2.2.2.2.2.2.1, ((a06 n_ panes).1).2.2.2.2.2.2.2.2.2.2.2.1, ((a06 n_ panes).1).2.2.2.2.2.2.2.2.2.2.2.2.1, ((a06 n_ panes).1).2.2.2.2.2.2.2.2.2.2.2.2.2.1, ()), (((a06 n_ panes).2.1).1, ((a06 n_ panes).2.1).2.1, ((a06 n_ panes).2.1).2.2.1, ((a06 n_ panes).2.1).2.2.2.1, ((a06 n_ panes).2.1).2.2.2.2.1, ((a06 n_ panes).2.1).2.2.2.2.2.1, ((a06 n_ panes).2.1).2.2.2.2.2.2.1, ()), ())))))))) else (bif (n_.1 == 3) then (K (Sum.inr (Sum.inr (Sum.inr (Sum.inr (Sum.inr (Sum.inr (Sum.inl ((((a07 n_ panes).1).1, ((a07 n_ panes).1).2.1, ((a07 n_ panes).1).2.2.1, ((a07 n_ panes).1).2.2.2.1, ((a07 n_ panes).1).2.2.2.2.1, ((a07 n_ panes).1).2.2.2.2.2.1, ((a07 n_ panes).1).2.2.2.2.2.2.1, ((a07 n_ panes).1).2.2.2.2.2.2.2.1, ((a07 n_ panes).1).2.2.2.2.2.2.2.2.1, ((a07 n_ panes).1).2.2.2.2.2.2.2.2.2.1, ((a07 n_ panes).1).2.2.2.2.2.2.2.2.2.2.1, ((a07 n_ panes).1).2.2.2.2.2.2.2.2.2.2.2.1, ((a07 n_ panes).1).2.2.2.2.2.2.2.2.2.2.2.2.1, ((a07 n_ panes).1).2.2.2.2.2.2.2.2.2.2.2.2.2.1, ()), (((a07 n_ panes).2.1).1, ((a07 n_ panes).2.1).2.1, ((a07 n_ panes).2.1).2.2.1, ((a07 n_ panes).2.1).2.2.2.1, ((a07 n_ panes).2.1).2.2.2.2.1, ((a07 n_ panes).2.1).2.2.2.2.2.1, ((a07 n_ panes).2.1).2.2.2.2.2.2.1, ()), ()))))))))) else (bif (a52 n_) then (K (Sum.inr (Sum.inr (Sum.inr (Sum.inr (Sum.inr (Sum.inr (Sum.inr (Sum.inl ((((a05 n_ panes).1).1, ((a05 n_ panes).1).2.1, ((a05 n_ panes).1).2.2.1, ((a05 n_ panes).1).2.2.2.1, ((a05 n_ panes).1).2.2.2.2.1, ((a05 n_ panes).1).2.2.2.2.2.1, ((a05 n_ panes).1).2.2.2.2.2.2.1, ((a05 n_ panes).1).2.2.2.2.2.2.2.1, ((a05 n_ panes).1).2.2.2.2.2.2.2.2.1, ((a05 n_ panes).1).2.2.2.2.2.2.2.2.2.1, ((a05 n_ panes).1).2.2.2.2.2.2.2.2.2.2.1, ((a05 n_ panes).1).2.2.2.2.2.2.2.2.2.2.2.1, ((a05 n_ panes).1).2.2.2.2.2.2.2.2.2.2.2.2.1, ((a05 n_ panes).1).2.2.2.2.2.2.2.2.2.2.2.2.2.1, ()), (((a05 n_ panes).2.1).1, ((a05 n_ panes).2.1).2.1, ((a05 n_ panes).2.1).2.2.1, ((a05 n_ panes).2.1).2.2.2.1, ((a05 n_ panes).2.1).2.2.2.2.1, ((a05 n_ panes).2.1).2.2.2.2.2.1, ((a05 n_ panes).2.1).2.2.2.2.2.2.1, ()), ())))))))))) else (bif (a48 n_) then (K (Sum.inr (Sum.inr (Sum.inr (Sum.inr (Sum.inr (Sum.inr (Sum.inr (Sum.inr ((((a02 n_ panes).1).1, ((a02 n_ panes).1).2.1, ((a02 n_ panes).1).2.2.1, ((a02 n_ panes).1).2.2.2.1, ((a02 n_ panes).1).2.2.2.2.1, ((a02 n_ panes).1).2.2.2.2.2.1, ((a02 n_ panes).1).2.2.2.2.2.2.1, ()), (((a02 n_ panes).2.1).1, ((a02 n_ panes).2.1).2.1, ((a02 n_ panes).2.1).2.2.1, ((a02 n_ panes).2.1).2.2.2.1, ((a02 n_ panes).2.1).2.2.2.2.1, ((a02 n_ panes).2.1).2.2.2.2.2.1, ((a02 n_ panes).2.1).2.2.2.2.2.2.1, ()), (((a02 n_ panes).2.2.1).1, ((a02 n_ panes).2.2.1).2.1, ((a02 n_ panes).2.2.1).2.2.1, ((a02 n_ panes).2.2.1).2.2.2.1, ((a02 n_ panes).2.2.1).2.2.2.2.1, ((a02 n_ panes).2.2.1).2.2.2.2.2.1, ((a02 n_ panes).2.2.1).2.2.2.2.2.2.1, ((a02 n_ panes).2.2.1).2.2.2.2.2.2.2.1, ((a02 n_ panes).2.2.1).2.2.2.2.2.2.2.2.1, ((a02 n_ panes).2.2.1).2.2.2.2.2.2.2.2.2.1, ((a02 n_ panes).2.2.1).2.2.2.2.2.2.2.2.2.2.1, ((a02 n_ panes).2.2.1).2.2.2.2.2.2.2.2.2.2.2.1, ((a02 n_ panes).2.2.1).2.2.2.2.2.2.2.2.2.2.2.2.1, ((a02 n_ panes).2.2.1).2.2.2.2.2.2.2.2.2.2.2.2.2.1, ()), ())))))))))) else (bif (n_.1 == 8) then (K (Sum.inl ((panes.1, panes.2.1, panes.2.2.1, panes.2.2.2.1, panes.2.2.2.2.1, panes.2.2.2.2.2.1, panes.2.2.2.2.2.2.1, ()), (n_.1, n_.2.1, n_.2.2.1, n_.2.2.2.1, n_.2.2.2.2.1, n_.2.2.2.2.2.1, n_.2.2.2.2.2.2.1, n_.2.2.2.2.2.2.2.1, n_.2.2.2.2.2.2.2.2.1, n_.2.2.2.2.2.2.2.2.2.1, n_.2.2.2.2.2.2.2.2.2.2.1, n_.2.2.2.2.2.2.2.2.2.2.2.1, n_.2.2.2.2.2.2.2.2.2.2.2.2.1, n_.2.2.2.2.2.2.2.2.2.2.2.2.2, ()), ()))) else (bif (n_.1 == 9) then (K (Sum.inr (Sum.inl ((panes.1, panes.2.1, panes.2.2.1, panes.2.2.2.1, panes.2.2.2.2.1, panes.2.2.2.2.2.1, panes.2.2.2.2.2.2.1, ()), ())))) else (bif (n_.1 == 10) then (K (Sum.inr (Sum.inr (Sum.inl ((panes.1, panes.2.1, panes.2.2.1, panes.2.2.2.1, panes.2.2.2.2.1, panes.2.2.2.2.2.1, panes.2.2.2.2.2.2.1, ()), (panes.1, panes.2.1, panes.2.2.1, panes.2.2.2.1, panes.2.2.2.2.1, panes.2.2.2.2.2.1, panes.2.2.2.2.2.2.1, panes.2.2.2.2.2.2.2.1, panes.2.2.2.2.2.2.2.2.1, panes.2.2.2.2.2.2.2.2.2.1, panes.2.2.2.2.2.2.2.2.2.2.1, panes.2.2.2.2.2.2.2.2.2.2.2.1, panes.2.2.2.2.2.2.2.2.2.2.2.2.1, panes.2.2.2.2.2.2.2.2.2.2.2.2.2, ()), ()))))) else (bif (n_.1 == 11) then (K (Sum.inr (Sum.inr (Sum.inr (Sum.inl ((panes.1, panes.2.1, panes.2.2.1, panes.2.2.2.1, panes.2.2.2.2.1, panes.2.2.2.2.2.1, panes.2.2.2.2.2.2.1, ()), (v_.1, v_.2.1, v_.2.2.1, v_.2.2.2, ()), ())))))) else (K (Sum.inr (Sum.inr (Sum.inr (Sum.inr (Sum.inl ((n_.1, n_.2.1, n_.2.2.1, n_.2.2.2.1, n_.2.2.2.2.1, n_.2.2.2.2.2.1, n_.2.2.2.2.2.2.1, n_.2.2.2.2.2.2.2.1, n_.2.2.2.2.2.2.2.2.1, n_.2.2.2.2.2.2.2.2.2.1, n_.2.2.2.2.2.2.2.2.2.2.1, n_.2.2.2.2.2.2.2.2.2.2.2.1, n_.2.2.2.2.2.2.2.2.2.2.2.2.1, n_.2.2.2.2.2.2.2.2.2.2.2.2.2, ()), (panes.1, panes.2.1, panes.2.2.1, panes.2.2.2.1, panes.2.2.2.2.1, panes.2.2.2.2.2.1, panes.2.2.2.2.2.2.1, ()), ())))))))))))))))
def a90 : U27 := b42 n_ v_ panes (fun y => y)
theorem e24 (K : U27 → β) : b42 n_ v_ panes K = K (a90 n_ v_ panes) := (bif_k K rfl (bif_k K rfl (bif_k K rfl (bif_k K rfl (bif_k K rfl (bif_k K rfl (bif_k K rfl (bif_k K rfl rfl))))))))
theorem d9t : stepS E cp50 noE 51 [rA a00 n_, rA tsI4 v_, rA tsA8 panes] = (fun y : U27 => some (Po.enc (.one (.one Z9)) ((fun y : U27 => y) y))) (a90 n_ v_ panes) := by
  refine Eq.trans ?_ (e24 n_ v_ panes (fun y : U27 => some (Po.enc (.one (.one Z9)) ((fun y : U27 => y) y))))
  refine (stepG_is (nt := 50) (regs := [(0, rA a00 n_), (1, rA tsI4 v_), (2, rA tsA8 panes)])).trans ?_
  unfold b42
  refine (pre2 (d9q n_ v_ panes _)).trans ?_
  refine .trans seq_push ?_
  refine (pre1 (d9r n_ v_ panes _)).trans ?_
  refine (block_push (id := 0)).trans ?_
  refine .trans seq_push ?_
  refine (d9u n_ v_ panes _).trans ?_
  refine (cond_s (b := (a51 n_)) ).trans (bif_g ?_ ?_)
  · refine (pre1 (d9x n_ v_ panes _)).trans ?_
    refine (ret_eq).trans ?_
    refine block_ret.trans ?_
    refine seqC_ret.trans ?_
    kernel_rfl
  · refine (pre1 (b8u n_ v_ panes _)).trans ?_
    refine (cond_e (b := (n_.1 == 3)) (st' := (S50_1 n_ v_ panes)) ).trans (bif_g ?_ ?_)
    · refine (pre1 (d9y n_ v_ panes _)).trans ?_
      refine (ret_eq).trans ?_
      refine block_ret.trans ?_
      refine seqC_ret.trans ?_
      kernel_rfl
    · refine .trans seq_push ?_
      refine (d9v n_ v_ panes _).trans ?_
      refine (cond_s (b := (a52 n_)) ).trans (bif_g ?_ ?_)
      · refine (pre1 (d4i n_ v_ panes _)).trans ?_
        refine (ret_eq).trans ?_
        refine block_ret.trans ?_
        refine seqC_ret.trans ?_
        kernel_rfl
      · refine .trans seq_push ?_
        refine (d4h n_ v_ panes _).trans ?_
        refine (cond_s (b := (a48 n_)) ).trans (bif_g ?_ ?_)
        · refine (pre1 (d4k n_ v_ panes _)).trans ?_
          refine (ret_eq).trans ?_
          refine block_ret.trans ?_
          refine seqC_ret.trans ?_
          kernel_rfl
        · refine (pre1 (b8v n_ v_ panes _)).trans ?_
          refine (cond_e (b := (n_.1 == 8)) (st' := (S50_1 n_ v_ panes)) ).trans (bif_g ?_ ?_)
          · refine (pre1 (d9s n_ v_ panes _)).trans ?_
            refine (ret_eq).trans ?_
            refine block_ret.trans ?_
            refine seqC_ret.trans ?_
            kernel_rfl
          · refine (pre1 (b8w n_ v_ panes _)).trans ?_
            refine (cond_e (b := (n_.1 == 9)) (st' := (S50_1 n_ v_ panes)) ).trans (bif_g ?_ ?_)
            · refine (pre1 (d0n n_ v_ panes _)).trans ?_
              refine (ret_eq).trans ?_
              refine block_ret.trans ?_
              refine seqC_ret.trans ?_
              kernel_rfl
            · refine (pre1 (b8x n_ v_ panes _)).trans ?_
              refine (cond_e (b := (n_.1 == 10)) (st' := (S50_1 n_ v_ panes)) ).trans (bif_g ?_ ?_)
              · refine (pre1 (d0o n_ v_ panes _)).trans ?_
                refine (ret_eq).trans ?_
                refine block_ret.trans ?_
                refine seqC_ret.trans ?_
                kernel_rfl
              · refine (pre1 (b8y n_ v_ panes _)).trans ?_
                refine (cond_e (b := (n_.1 == 11)) (st' := (e2p n_ v_ panes)) ).trans (bif_g ?_ ?_)
                · refine (pre1 (d0p n_ v_ panes _)).trans ?_
                  refine (ret_eq).trans ?_
                  refine block_ret.trans ?_
                  refine seqC_ret.trans ?_
                  kernel_rfl
                · refine (skip_eq).trans ?_
                  refine block_normal.trans ?_
                  refine (seqC_normal (st' := (e2q n_ panes))).trans ?_
                  refine (pre1 (d0q n_ panes _)).trans ?_
                  refine (ret_eq).trans ?_
                  kernel_rfl
noncomputable def cp51 : CallP := withC cp50 51 [(.agg a00), (.agg tsI4), (.agg tsA8)] (.one (.one Z9)) (fun y : U27 => y) (fun x => some (a90 x.1 x.2.1 x.2.2.1))
theorem e56 : PureOK E cp51 := conS eok e55 noE_ok fun x => Eq.mp (by kernel_rfl) (d9t x.1 x.2.1 x.2.2.1)
end
section
variable {α β : Type} (p_ : pane) (y_ : Int) (x_ : Int) (c_ : Int) (k : St → Option α)
noncomputable abbrev C51 := codeOf E.P 75
noncomputable abbrev P51 := @preK α E 75 cp51 noE
abbrev S51_0 : St := ⟨[(1, ri y_), (2, ri x_), (3, ri c_), (4, rC a04 p_), (9, rF 0)], [[di p_.1, di p_.2.1, di p_.2.2.1]], [], 56⟩
theorem c6h : P51 2 C51 ⟨[(0, rA a04 p_), (1, ri y_), (2, ri x_), (3, ri c_)], [], [], 56⟩ k = k (S51_0 p_ y_ x_ c_) := by kernel_rfl
def b00 (K : Bool → β) : β := (bif (decide (y_ < 0)) then (K true) else (bif (decide (y_ ≥ p_.1)) then (K true) else (bif (decide (x_ < 0)) then (K true) else (K (decide (x_ ≥ p_.2.1))))))
def a2q : Bool := b00 p_ y_ x_ (fun y => y)
theorem c0y (K : Bool → β) : b00 p_ y_ x_ K = K (a2q p_ y_ x_) := (bif_k K rfl (bif_k K rfl (bif_k K rfl rfl)))
theorem c6k : P51 1 C51.r.r.l (S51_0 p_ y_ x_ c_) k = k ⟨[(1, ri y_), (2, ri x_), (3, ri c_), (4, rC a04 p_), (9, rF 0), (30, rb (a2q p_ y_ x_))], [[di p_.1, di p_.2.1, di p_.2.2.1]], [], 56⟩ := Eq.trans (by kernel_rfl) (c0y p_ y_ x_ (fun y723 : Bool => k ⟨[(1, ri y_), (2, ri x_), (3, ri c_), (4, rC a04 p_), (9, rF 0), (30, rb y723)], [[di p_.1, di p_.2.1, di p_.2.2.1]], [], 56⟩))
theorem c6i : P51 1 C51.r.r.l.r.t (S51_0 p_ y_ x_ c_) k = k ⟨[(8, ri 0)], [[]], [], 56⟩ := by kernel_rfl
def b01 : Option Int := (bif (decide ((0 : Int) ≤ (IntKind.wrap .i64 ((IntKind.wrap .i64 ((IntKind.wrap .i64 ((IntKind.wrap .i64 ((IntKind.wrap .i64 (y_ - p_.2.2.2.2.1)) * p_.2.1)) + x_)) * p_.2.2.1)) + c_)))) then (bif (decide ((IntKind.wrap .i64 ((IntKind.wrap .i64 ((IntKind.wrap .i64 ((IntKind.wrap .i64 ((IntKind.wrap .i64 (y_ - p_.2.2.2.2.1)) * p_.2.1)) + x_)) * p_.2.2.1)) + c_)) < (p_.2.2.2.2.2.2.length : Int))) then (some (IntKind.wrap .i64 ((IntKind.wrap .i64 (gt p_.2.2.2.2.2.2 (IntKind.wrap .i64 ((IntKind.wrap .i64 ((IntKind.wrap .i64 ((IntKind.wrap .i64 ((IntKind.wrap .i64 (y_ - p_.2.2.2.2.1)) * p_.2.1)) + x_)) * p_.2.2.1)) + c_)) (0 : Int))) - p_.2.2.2.1))) else none) else none)
theorem c6l : P51 1 C51.r.r.r (S51_0 p_ y_ x_ c_) k = Option.bind (b01 p_ y_ x_ c_) (fun y724 : Int => k ⟨[(8, ri y724)], [[]], [], 56⟩) := .trans (by kernel_rfl) (bif_b (bif_b some_b none_b) none_b)
/-- (quilt/kern.pane).at -/
def a0h : Option Int := (bif (a2q p_ y_ x_) then (some (0 : Int)) else (Option.bind (b01 p_ y_ x_ c_) (fun y724 : Int => (some y724))))
theorem c6j : stepS E cp51 noE 75 [rA a04 p_, ri y_, ri x_, ri c_] = Option.bind (a0h p_ y_ x_ c_) (fun y : Int => some (ri y : R)) := by
  refine .trans ?_ (bif_b some_b (bind_b fun y724 => some_b))
  refine (stepG_is (nt := 56) (regs := [(0, rA a04 p_), (1, ri y_), (2, ri x_), (3, ri c_)])).trans ?_
  refine (pre2 (c6h p_ y_ x_ c_ _)).trans ?_
  refine .trans seq_push ?_
  refine (pre1 (c6k p_ y_ x_ c_ _)).trans ?_
  refine (cond_e (b := (a2q p_ y_ x_)) (st' := (S51_0 p_ y_ x_ c_)) ).trans (bif_g ?_ ?_)
  · refine (pre1 (c6i p_ y_ x_ c_ _)).trans ?_
    refine (ret_eq).trans ?_
    refine seqC_ret.trans ?_
    kernel_rfl
  · refine (skip_eq).trans ?_
    refine (seqC_normal (st' := (S51_0 p_ y_ x_ c_))).trans ?_
    refine (pre1 (c6l p_ y_ x_ c_ _)).trans (bind_g fun y724 => ?_)
    refine (ret_eq).trans ?_
    kernel_rfl
noncomputable def cp52 : CallP := withC cp51 75 [(.agg a04), pI, pI, pI] (.one pI) (fun y : Int => y) (fun x => a0h x.1 x.2.1 x.2.2.1 x.2.2.2.1)
theorem e57 : PureOK E cp52 := conS eok e56 noE_ok fun x => Eq.mp (by kernel_rfl) (c6j x.1 x.2.1 x.2.2.1 x.2.2.2.1)
end
section
variable {α : Type} (y_ : Int) (x_ : Int) (c_ : Int) (c3_ : pane) (c4_ : Node) (k : St → Option α)
noncomputable abbrev C52 := codeOf E.P 74
noncomputable abbrev P52 := @preK α E 74 cp52 noE
theorem d0c : P52 2 C52 ⟨[(0, ri y_), (1, ri x_), (2, ri c_), (3, rC a04 c3_), (4, rC a00 c4_)], [], [], 21⟩ k = Option.bind (a0h c3_ y_ x_ c_) fun y725 : Int => k ⟨[(8, ri (max (IntKind.wrap .i64 (y725 + c3_.2.2.2.1)) c4_.2.2.2.2.2.2.2.2.1))], [], [], 21⟩ := by kernel_rfl
/-- quilt/kern.made$1 -/
def b3x : Option Int := (Option.bind (a0h c3_ y_ x_ c_) (fun y725 : Int => (some (max (IntKind.wrap .i64 (y725 + c3_.2.2.2.1)) c4_.2.2.2.2.2.2.2.2.1))))
theorem d0b : stepS E cp52 noE 74 [ri y_, ri x_, ri c_, rC a04 c3_, rC a00 c4_] = Option.bind (b3x y_ x_ c_ c3_ c4_) (fun y : Int => some (ri y : R)) := by
  refine .trans ?_ (bind_b fun y725 => some_b)
  refine (stepG_is (nt := 21) (regs := [(0, ri y_), (1, ri x_), (2, ri c_), (3, rC a04 c3_), (4, rC a00 c4_)])).trans ?_
  refine (pre2 (d0c y_ x_ c_ c3_ c4_ _)).trans (bind_g fun y725 => ?_)
  refine (ret_eq).trans ?_
  kernel_rfl
noncomputable def cp53 : CallP := withC cp52 74 [pI, pI, pI, (.one (.cell (.cons (.g (.int .i64)) (.cons (.g (.int .i64)) (.cons (.g (.int .i64)) (.cons (.g (.int .i64)) (.cons (.g (.int .i64)) (.cons (.g (.int .i64)) (.cons (.g (.sl (.one (.int .i8)))) .nil))))))))), (.one (.cell (.cons (.g (.int .i64)) (.cons (.g (.sl (.one (.int .i64)))) (.cons (.g (.int .i64)) (.cons (.g (.int .i64)) (.cons (.g (.int .i64)) (.cons (.g (.int .i64)) (.cons (.g (.int .i64)) (.cons (.g (.int .i64)) (.cons (.g (.int .i64)) (.cons (.g (.int .i64)) (.cons (.g (.int .i64)) (.cons (.g (.int .i64)) (.cons (.g (.sl (.one (.int .i8)))) (.cons (.g (.sl (.one (.int .i32)))) .nil))))))))))))))))] (.one pI) (fun y : Int => y) (fun x => b3x x.1 x.2.1 x.2.2.1 (x.2.2.2.1.1, x.2.2.2.1.2.1, x.2.2.2.1.2.2.1, x.2.2.2.1.2.2.2.1, x.2.2.2.1.2.2.2.2.1, x.2.2.2.1.2.2.2.2.2.1, x.2.2.2.1.2.2.2.2.2.2.1) (x.2.2.2.2.1.1, x.2.2.2.2.1.2.1, x.2.2.2.2.1.2.2.1, x.2.2.2.2.1.2.2.2.1, x.2.2.2.2.1.2.2.2.2.1, x.2.2.2.2.1.2.2.2.2.2.1, x.2.2.2.2.1.2.2.2.2.2.2.1, x.2.2.2.2.1.2.2.2.2.2.2.2.1, x.2.2.2.2.1.2.2.2.2.2.2.2.2.1, x.2.2.2.2.1.2.2.2.2.2.2.2.2.2.1, x.2.2.2.2.1.2.2.2.2.2.2.2.2.2.2.1, x.2.2.2.2.1.2.2.2.2.2.2.2.2.2.2.2.1, x.2.2.2.2.1.2.2.2.2.2.2.2.2.2.2.2.2.1, x.2.2.2.2.1.2.2.2.2.2.2.2.2.2.2.2.2.2.1))
theorem e58 : PureOK E cp53 := conS eok e57 noE_ok fun x => Eq.mp (by kernel_rfl) (d0b x.1 x.2.1 x.2.2.1 (x.2.2.2.1.1, x.2.2.2.1.2.1, x.2.2.2.1.2.2.1, x.2.2.2.1.2.2.2.1, x.2.2.2.1.2.2.2.2.1, x.2.2.2.1.2.2.2.2.2.1, x.2.2.2.1.2.2.2.2.2.2.1) (x.2.2.2.2.1.1, x.2.2.2.2.1.2.1, x.2.2.2.2.1.2.2.1, x.2.2.2.2.1.2.2.2.1, x.2.2.2.2.1.2.2.2.2.1, x.2.2.2.2.1.2.2.2.2.2.1, x.2.2.2.2.1.2.2.2.2.2.2.1, x.2.2.2.2.1.2.2.2.2.2.2.2.1, x.2.2.2.2.1.2.2.2.2.2.2.2.2.1, x.2.2.2.2.1.2.2.2.2.2.2.2.2.2.1, x.2.2.2.2.1.2.2.2.2.2.2.2.2.2.2.1, x.2.2.2.2.1.2.2.2.2.2.2.2.2.2.2.2.1, x.2.2.2.2.1.2.2.2.2.2.2.2.2.2.2.2.2.1, x.2.2.2.2.1.2.2.2.2.2.2.2.2.2.2.2.2.2.1))
end
section
variable {α : Type} (y_ : Int) (x_ : Int) (c_ : Int) (c3_ : pane) (k : St → Option α)
noncomputable abbrev C53 := codeOf E.P 76
noncomputable abbrev P53 := @preK α E 76 cp53 noE
theorem d0e : P53 2 C53 ⟨[(0, ri y_), (1, ri x_), (2, ri c_), (3, rC a04 c3_)], [], [], 19⟩ k = Option.bind (a0h c3_ (IntKind.wrap .i64 (y_ - 1)) (IntKind.wrap .i64 (x_ - 1)) c_) fun y728 : Int => k ⟨[(7, ri (IntKind.wrap .i64 (y728 + c3_.2.2.2.1)))], [], [], 19⟩ := by kernel_rfl
/-- quilt/kern.made$2 -/
def b3y : Option Int := (Option.bind (a0h c3_ (IntKind.wrap .i64 (y_ - 1)) (IntKind.wrap .i64 (x_ - 1)) c_) (fun y728 : Int => (some (IntKind.wrap .i64 (y728 + c3_.2.2.2.1)))))
theorem d0d : stepS E cp53 noE 76 [ri y_, ri x_, ri c_, rC a04 c3_] = Option.bind (b3y y_ x_ c_ c3_) (fun y : Int => some (ri y : R)) := by
  refine .trans ?_ (bind_b fun y728 => some_b)
  refine (stepG_is (nt := 19) (regs := [(0, ri y_), (1, ri x_), (2, ri c_), (3, rC a04 c3_)])).trans ?_
  refine (pre2 (d0e y_ x_ c_ c3_ _)).trans (bind_g fun y728 => ?_)
  refine (ret_eq).trans ?_
  kernel_rfl
noncomputable def cp54 : CallP := withC cp53 76 [pI, pI, pI, (.one (.cell (.cons (.g (.int .i64)) (.cons (.g (.int .i64)) (.cons (.g (.int .i64)) (.cons (.g (.int .i64)) (.cons (.g (.int .i64)) (.cons (.g (.int .i64)) (.cons (.g (.sl (.one (.int .i8)))) .nil)))))))))] (.one pI) (fun y : Int => y) (fun x => b3y x.1 x.2.1 x.2.2.1 (x.2.2.2.1.1, x.2.2.2.1.2.1, x.2.2.2.1.2.2.1, x.2.2.2.1.2.2.2.1, x.2.2.2.1.2.2.2.2.1, x.2.2.2.1.2.2.2.2.2.1, x.2.2.2.1.2.2.2.2.2.2.1))
theorem e59 : PureOK E cp54 := conS eok e58 noE_ok fun x => Eq.mp (by kernel_rfl) (d0d x.1 x.2.1 x.2.2.1 (x.2.2.2.1.1, x.2.2.2.1.2.1, x.2.2.2.1.2.2.1, x.2.2.2.1.2.2.2.1, x.2.2.2.1.2.2.2.2.1, x.2.2.2.1.2.2.2.2.2.1, x.2.2.2.1.2.2.2.2.2.2.1))
end
section
variable {α : Type} (y_ : Int) (x_ : Int) (c_ : Int) (c3_ : pane) (c4_ : Int) (c4_' : Int) (c4_'' : Int) (c4_''' : Int) (c4_'''' : Int) (c4_''''' : Int) (c4_'''''' : (List Int)) (c4_''''''' : Int) (c4_'''''''' : Int) (c4_''''''''' : Int) (c4_'''''''''' : Int) (c4_''''''''''' : Int) (c4_'''''''''''' : Int) (c4_''''''''''''' : (List Int)) (k : St → Option α)
noncomputable abbrev C54 := codeOf E.P 77
noncomputable abbrev P54 := @preK α E 77 cp54 noE
def b1j : Option Unit := (bif (c3_.2.2.1 == 0) then none else (some ()))
abbrev S54_0 : St := ⟨[(0, ri y_), (1, ri x_), (2, ri c_), (3, rC a04 c3_), (4, .one (.cell [di c4_, di c4_', di c4_'', di c4_''', di c4_'''', di c4_''''', dl (.one (.int .i8)) c4_'''''', di c4_''''''', di c4_'''''''', di c4_''''''''', di c4_'''''''''', di c4_''''''''''', di c4_'''''''''''', dl (.one (.int .i8)) c4_''''''''''''']))], [], [], 43⟩
abbrev S54_1 : St := ⟨[(0, ri y_), (1, ri x_), (2, ri c_), (3, rC a04 c3_), (4, .one (.cell [di c4_, di c4_', di c4_'', di c4_''', di c4_'''', di c4_''''', dl (.one (.int .i8)) c4_'''''', di c4_''''''', di c4_'''''''', di c4_''''''''', di c4_'''''''''', di c4_''''''''''', di c4_'''''''''''', dl (.one (.int .i8)) c4_'''''''''''''])), (9, ri (IntKind.wrap .i64 (Int.tdiv c_ c3_.2.2.1)))], [], [], 43⟩
theorem d0g : P54 2 C54 (S54_0 y_ x_ c_ c3_ c4_ c4_' c4_'' c4_''' c4_'''' c4_''''' c4_'''''' c4_''''''' c4_'''''''' c4_''''''''' c4_'''''''''' c4_''''''''''' c4_'''''''''''' c4_''''''''''''') k = Option.bind (b1j c3_) (fun y731 : Unit => k (S54_1 y_ x_ c_ c3_ c4_ c4_' c4_'' c4_''' c4_'''' c4_''''' c4_'''''' c4_''''''' c4_'''''''' c4_''''''''' c4_'''''''''' c4_''''''''''' c4_'''''''''''' c4_''''''''''''')) := .trans (by kernel_rfl) (bif_b none_b some_b)
theorem b6a : P54 1 C54.r.r.l (S54_1 y_ x_ c_ c3_ c4_ c4_' c4_'' c4_''' c4_'''' c4_''''' c4_'''''' c4_''''''' c4_'''''''' c4_''''''''' c4_'''''''''' c4_''''''''''' c4_'''''''''''' c4_''''''''''''') k = k ⟨[(0, ri y_), (1, ri x_), (2, ri c_), (3, rC a04 c3_), (4, .one (.cell [di c4_, di c4_', di c4_'', di c4_''', di c4_'''', di c4_''''', dl (.one (.int .i8)) c4_'''''', di c4_''''''', di c4_'''''''', di c4_''''''''', di c4_'''''''''', di c4_''''''''''', di c4_'''''''''''', dl (.one (.int .i8)) c4_'''''''''''''])), (17, rb ((IntKind.wrap .i64 (Int.tdiv c_ c3_.2.2.1)) == 0))], [], [], 43⟩ := by kernel_rfl
theorem d0h : P54 1 C54.r.r.l.r.t (S54_0 y_ x_ c_ c3_ c4_ c4_' c4_'' c4_''' c4_'''' c4_''''' c4_'''''' c4_''''''' c4_'''''''' c4_''''''''' c4_'''''''''' c4_''''''''''' c4_'''''''''''' c4_''''''''''''') k = Option.bind (a0h c3_ y_ x_ c_) fun y733 : Int => k ⟨[(8, ri (IntKind.wrap .i64 (y733 + c3_.2.2.2.1)))], [], [], 43⟩ := by kernel_rfl
theorem d0i : P54 1 C54.r.r.r (S54_0 y_ x_ c_ c3_ c4_ c4_' c4_'' c4_''' c4_'''' c4_''''' c4_'''''' c4_''''''' c4_'''''''' c4_''''''''' c4_'''''''''' c4_''''''''''' c4_'''''''''''' c4_''''''''''''') k = Option.bind (a0h (c4_''''''', c4_'''''''', c4_''''''''', c4_'''''''''', c4_''''''''''', c4_'''''''''''', c4_''''''''''''') y_ x_ (IntKind.wrap .i64 (c_ - c3_.2.2.1))) fun y734 : Int => k ⟨[(8, ri (IntKind.wrap .i64 (y734 + c4_'''''''''')))], [], [], 43⟩ := by kernel_rfl
/-- quilt/kern.made$3 -/
def b3z (y_ : Int) (x_ : Int) (c_ : Int) (c3_ : pane) (c4_ : Int) (c4_' : Int) (c4_'' : Int) (c4_''' : Int) (c4_'''' : Int) (c4_''''' : Int) (c4_'''''' : (List Int)) (c4_''''''' : Int) (c4_'''''''' : Int) (c4_''''''''' : Int) (c4_'''''''''' : Int) (c4_''''''''''' : Int) (c4_'''''''''''' : Int) (c4_''''''''''''' : (List Int)) : Option Int := (Option.bind (b1j c3_) (fun y731 : Unit => (bif ((IntKind.wrap .i64 (Int.tdiv c_ c3_.2.2.1)) == 0) then (Option.bind (a0h c3_ y_ x_ c_) (fun y733 : Int => (some (IntKind.wrap .i64 (y733 + c3_.2.2.2.1))))) else (Option.bind (a0h (c4_''''''', c4_'''''''', c4_''''''''', c4_'''''''''', c4_''''''''''', c4_'''''''''''', c4_''''''''''''') y_ x_ (IntKind.wrap .i64 (c_ - c3_.2.2.1))) (fun y734 : Int => (some (IntKind.wrap .i64 (y734 + c4_''''''''''))))))))
theorem d0f : stepS E cp54 noE 77 [ri y_, ri x_, ri c_, rC a04 c3_, .one (.cell [di c4_, di c4_', di c4_'', di c4_''', di c4_'''', di c4_''''', dl (.one (.int .i8)) c4_'''''', di c4_''''''', di c4_'''''''', di c4_''''''''', di c4_'''''''''', di c4_''''''''''', di c4_'''''''''''', dl (.one (.int .i8)) c4_'''''''''''''])] = Option.bind (b3z y_ x_ c_ c3_ c4_ c4_' c4_'' c4_''' c4_'''' c4_''''' c4_'''''' c4_''''''' c4_'''''''' c4_''''''''' c4_'''''''''' c4_''''''''''' c4_'''''''''''' c4_''''''''''''') (fun y : Int => some (ri y : R)) := by
  refine .trans ?_ (bind_b fun y731 => (bif_b (bind_b fun y733 => some_b) (bind_b fun y734 => some_b)))
  refine (stepG_is (nt := 43) (regs := [(0, ri y_), (1, ri x_), (2, ri c_), (3, rC a04 c3_), (4, .one (.cell [di c4_, di c4_', di c4_'', di c4_''', di c4_'''', di c4_''''', dl (.one (.int .i8)) c4_'''''', di c4_''''''', di c4_'''''''', di c4_''''''''', di c4_'''''''''', di c4_''''''''''', di c4_'''''''''''', dl (.one (.int .i8)) c4_''''''''''''']))])).trans ?_
  refine (pre2 (d0g y_ x_ c_ c3_ c4_ c4_' c4_'' c4_''' c4_'''' c4_''''' c4_'''''' c4_''''''' c4_'''''''' c4_''''''''' c4_'''''''''' c4_''''''''''' c4_'''''''''''' c4_''''''''''''' _)).trans (bind_g fun y731 => ?_)
  refine .trans seq_push ?_
  refine (pre1 (b6a y_ x_ c_ c3_ c4_ c4_' c4_'' c4_''' c4_'''' c4_''''' c4_'''''' c4_''''''' c4_'''''''' c4_''''''''' c4_'''''''''' c4_''''''''''' c4_'''''''''''' c4_''''''''''''' _)).trans ?_
  refine (cond_e (b := ((IntKind.wrap .i64 (Int.tdiv c_ c3_.2.2.1)) == 0)) (st' := (S54_0 y_ x_ c_ c3_ c4_ c4_' c4_'' c4_''' c4_'''' c4_''''' c4_'''''' c4_''''''' c4_'''''''' c4_''''''''' c4_'''''''''' c4_''''''''''' c4_'''''''''''' c4_''''''''''''')) ).trans (bif_g ?_ ?_)
  · refine (pre1 (d0h y_ x_ c_ c3_ c4_ c4_' c4_'' c4_''' c4_'''' c4_''''' c4_'''''' c4_''''''' c4_'''''''' c4_''''''''' c4_'''''''''' c4_''''''''''' c4_'''''''''''' c4_''''''''''''' _)).trans (bind_g fun y733 => ?_)
    refine (ret_eq).trans ?_
    refine seqC_ret.trans ?_
    kernel_rfl
  · refine (skip_eq).trans ?_
    refine (seqC_normal (st' := (S54_0 y_ x_ c_ c3_ c4_ c4_' c4_'' c4_''' c4_'''' c4_''''' c4_'''''' c4_''''''' c4_'''''''' c4_''''''''' c4_'''''''''' c4_''''''''''' c4_'''''''''''' c4_'''''''''''''))).trans ?_
    refine (pre1 (d0i y_ x_ c_ c3_ c4_ c4_' c4_'' c4_''' c4_'''' c4_''''' c4_'''''' c4_''''''' c4_'''''''' c4_''''''''' c4_'''''''''' c4_''''''''''' c4_'''''''''''' c4_''''''''''''' _)).trans (bind_g fun y734 => ?_)
    refine (ret_eq).trans ?_
    kernel_rfl
noncomputable def cp55 : CallP := withC cp54 77 [pI, pI, pI, (.one (.cell (.cons (.g (.int .i64)) (.cons (.g (.int .i64)) (.cons (.g (.int .i64)) (.cons (.g (.int .i64)) (.cons (.g (.int .i64)) (.cons (.g (.int .i64)) (.cons (.g (.sl (.one (.int .i8)))) .nil))))))))), (.one Z3)] (.one pI) (fun y : Int => y) (fun x => b3z x.1 x.2.1 x.2.2.1 (x.2.2.2.1.1, x.2.2.2.1.2.1, x.2.2.2.1.2.2.1, x.2.2.2.1.2.2.2.1, x.2.2.2.1.2.2.2.2.1, x.2.2.2.1.2.2.2.2.2.1, x.2.2.2.1.2.2.2.2.2.2.1) x.2.2.2.2.1.1 x.2.2.2.2.1.2.1 x.2.2.2.2.1.2.2.1 x.2.2.2.2.1.2.2.2.1 x.2.2.2.2.1.2.2.2.2.1 x.2.2.2.2.1.2.2.2.2.2.1 x.2.2.2.2.1.2.2.2.2.2.2.1 x.2.2.2.2.1.2.2.2.2.2.2.2.1 x.2.2.2.2.1.2.2.2.2.2.2.2.2.1 x.2.2.2.2.1.2.2.2.2.2.2.2.2.2.1 x.2.2.2.2.1.2.2.2.2.2.2.2.2.2.2.1 x.2.2.2.2.1.2.2.2.2.2.2.2.2.2.2.2.1 x.2.2.2.2.1.2.2.2.2.2.2.2.2.2.2.2.2.1 x.2.2.2.2.1.2.2.2.2.2.2.2.2.2.2.2.2.2.1)
theorem e5a : PureOK E cp55 := conS eok e59 noE_ok fun x => Eq.mp (by kernel_rfl) (d0f x.1 x.2.1 x.2.2.1 (x.2.2.2.1.1, x.2.2.2.1.2.1, x.2.2.2.1.2.2.1, x.2.2.2.1.2.2.2.1, x.2.2.2.1.2.2.2.2.1, x.2.2.2.1.2.2.2.2.2.1, x.2.2.2.1.2.2.2.2.2.2.1) x.2.2.2.2.1.1 x.2.2.2.2.1.2.1 x.2.2.2.2.1.2.2.1 x.2.2.2.2.1.2.2.2.1 x.2.2.2.2.1.2.2.2.2.1 x.2.2.2.2.1.2.2.2.2.2.1 x.2.2.2.2.1.2.2.2.2.2.2.1 x.2.2.2.2.1.2.2.2.2.2.2.2.1 x.2.2.2.2.1.2.2.2.2.2.2.2.2.1 x.2.2.2.2.1.2.2.2.2.2.2.2.2.2.1 x.2.2.2.2.1.2.2.2.2.2.2.2.2.2.2.1 x.2.2.2.2.1.2.2.2.2.2.2.2.2.2.2.2.1 x.2.2.2.2.1.2.2.2.2.2.2.2.2.2.2.2.2.1 x.2.2.2.2.1.2.2.2.2.2.2.2.2.2.2.2.2.2.1)
end
section
variable {α β : Type} (s_ : I3) (y_ : Int) (x_ : Int) (c_ : Int) (k : St → Option α)
noncomputable abbrev C55 := codeOf E.P 79
noncomputable abbrev P55 := @preK α E 79 cp55 noE
abbrev S55_0 : St := ⟨[(1, ri y_), (2, ri x_), (3, ri c_), (4, rC tsI3 s_)], [], [], 53⟩
theorem d2e : P55 1 C55 ⟨[(0, rA tsI3 s_), (1, ri y_), (2, ri x_), (3, ri c_)], [], [], 53⟩ k = k (S55_0 s_ y_ x_ c_) := by kernel_rfl
def b2k : Option Bool := (Option.bind (a4w s_) (fun y742 : Bool => (bif (!y742) then (some true) else (Option.bind (a0t [y_] (((a0b (0 : Int) (IntKind.wrap .i64 (s_.1 - 1))).1).1) (((a0b (0 : Int) (IntKind.wrap .i64 (s_.1 - 1))).2.1).1)) (fun y743 : Bool => (bif (!y743) then (some true) else (Option.bind (a0t [x_] (((a0b (0 : Int) (IntKind.wrap .i64 (s_.2.1 - 1))).1).1) (((a0b (0 : Int) (IntKind.wrap .i64 (s_.2.1 - 1))).2.1).1)) (fun y744 : Bool => (bif (!y744) then (some true) else (Option.bind (a0t [c_] (((a0b (0 : Int) (IntKind.wrap .i64 (s_.2.2 - 1))).1).1) (((a0b (0 : Int) (IntKind.wrap .i64 (s_.2.2 - 1))).2.1).1)) (fun y745 : Bool => (some (!y745)))))))))))))
theorem d2h : P55 1 C55.r.l (S55_0 s_ y_ x_ c_) k = Option.bind (b2k s_ y_ x_ c_) (fun y746 : Bool => k ⟨[(1, ri y_), (2, ri x_), (3, ri c_), (4, rC tsI3 s_), (41, rb y746)], [], [], 53⟩) := .trans (by kernel_rfl) (bind_b fun y742 => (bif_b some_b (bind_b fun y743 => (bif_b some_b (bind_b fun y744 => (bif_b some_b (bind_b fun y745 => some_b)))))))
theorem d2f : P55 1 C55.r.l.r.t (S55_0 s_ y_ x_ c_) k = k ⟨[(8, ri (-1 : Int))], [], [], 53⟩ := by kernel_rfl
def b2l (K : Int → β) : β := (K (IntKind.wrap .i64 ((IntKind.wrap .i64 ((IntKind.wrap .i64 ((IntKind.wrap .i64 (y_ * s_.2.1)) + x_)) * s_.2.2)) + c_)))
def a69 : Int := b2l s_ y_ x_ c_ (fun y => y)
theorem c4l (K : Int → β) : b2l s_ y_ x_ c_ K = K (a69 s_ y_ x_ c_) := rfl
theorem d2i : P55 1 C55.r.r (S55_0 s_ y_ x_ c_) k = k ⟨[(8, ri (a69 s_ y_ x_ c_))], [], [], 53⟩ := Eq.trans (by kernel_rfl) (c4l s_ y_ x_ c_ (fun y747 : Int => k ⟨[(8, ri y747)], [], [], 53⟩))
/-- quilt/shape.Index -/
def b4l : Option Int := (Option.bind (b2k s_ y_ x_ c_) (fun y746 : Bool => (bif y746 then (some (-1 : Int)) else (some (a69 s_ y_ x_ c_)))))
theorem d2g : stepS E cp55 noE 79 [rA tsI3 s_, ri y_, ri x_, ri c_] = Option.bind (b4l s_ y_ x_ c_) (fun y : Int => some (ri y : R)) := by
  refine .trans ?_ (bind_b fun y746 => (bif_b some_b some_b))
  refine (stepG_is (nt := 53) (regs := [(0, rA tsI3 s_), (1, ri y_), (2, ri x_), (3, ri c_)])).trans ?_
  refine (pre1 (d2e s_ y_ x_ c_ _)).trans ?_
  refine .trans seq_push ?_
  refine (pre1 (d2h s_ y_ x_ c_ _)).trans (bind_g fun y746 => ?_)
  refine (cond_e (b := y746) (st' := (S55_0 s_ y_ x_ c_)) ).trans (bif_g ?_ ?_)
  · refine (pre1 (d2f s_ y_ x_ c_ _)).trans ?_
    refine (ret_eq).trans ?_
    refine seqC_ret.trans ?_
    kernel_rfl
  · refine (skip_eq).trans ?_
    refine (seqC_normal (st' := (S55_0 s_ y_ x_ c_))).trans ?_
    refine (pre1 (d2i s_ y_ x_ c_ _)).trans ?_
    refine (ret_eq).trans ?_
    kernel_rfl
noncomputable def cp56 : CallP := withC cp55 79 [(.agg tsI3), pI, pI, pI] (.one pI) (fun y : Int => y) (fun x => b4l x.1 x.2.1 x.2.2.1 x.2.2.2.1)
theorem e5b : PureOK E cp56 := conS eok e5a noE_ok fun x => Eq.mp (by kernel_rfl) (d2g x.1 x.2.1 x.2.2.1 x.2.2.2.1)
end
section
variable {α : Type} (y_ : Int) (x_ : Int) (c_ : Int) (c3_ : pane) (c4_ : I4) (k : St → Option α)
noncomputable abbrev C56 := codeOf E.P 78
noncomputable abbrev P56 := @preK α E 78 cp56 noE
def b1k : Option Int := (Option.bind (b4l (c4_.1, c4_.2.1, c4_.2.2.1) y_ x_ c_) (fun y748 : Int => (bif (decide ((0 : Int) ≤ y748)) then (bif (decide (y748 < (c3_.2.2.2.2.2.2.length : Int))) then (some (IntKind.wrap .i64 (gt c3_.2.2.2.2.2.2 y748 (0 : Int)))) else none) else none)))
theorem d0k : P56 2 C56 ⟨[(0, ri y_), (1, ri x_), (2, ri c_), (3, rC a04 c3_), (4, rC tsI4 c4_)], [], [], 21⟩ k = Option.bind (b1k y_ x_ c_ c3_ c4_) (fun y749 : Int => k ⟨[(8, ri y749)], [], [], 21⟩) := .trans (by kernel_rfl) (bind_b fun y748 => (bif_b (bif_b some_b none_b) none_b))
/-- quilt/kern.made$4 -/
def b40 : Option Int := (Option.bind (b1k y_ x_ c_ c3_ c4_) (fun y749 : Int => (some y749)))
theorem d0j : stepS E cp56 noE 78 [ri y_, ri x_, ri c_, rC a04 c3_, rC tsI4 c4_] = Option.bind (b40 y_ x_ c_ c3_ c4_) (fun y : Int => some (ri y : R)) := by
  refine .trans ?_ (bind_b fun y749 => some_b)
  refine (stepG_is (nt := 21) (regs := [(0, ri y_), (1, ri x_), (2, ri c_), (3, rC a04 c3_), (4, rC tsI4 c4_)])).trans ?_
  refine (pre2 (d0k y_ x_ c_ c3_ c4_ _)).trans (bind_g fun y749 => ?_)
  refine (ret_eq).trans ?_
  kernel_rfl
noncomputable def cp57 : CallP := withC cp56 78 [pI, pI, pI, (.one (.cell (.cons (.g (.int .i64)) (.cons (.g (.int .i64)) (.cons (.g (.int .i64)) (.cons (.g (.int .i64)) (.cons (.g (.int .i64)) (.cons (.g (.int .i64)) (.cons (.g (.sl (.one (.int .i8)))) .nil))))))))), (.one Z1)] (.one pI) (fun y : Int => y) (fun x => b40 x.1 x.2.1 x.2.2.1 (x.2.2.2.1.1, x.2.2.2.1.2.1, x.2.2.2.1.2.2.1, x.2.2.2.1.2.2.2.1, x.2.2.2.1.2.2.2.2.1, x.2.2.2.1.2.2.2.2.2.1, x.2.2.2.1.2.2.2.2.2.2.1) (x.2.2.2.2.1.1, x.2.2.2.2.1.2.1, x.2.2.2.2.1.2.2.1, x.2.2.2.2.1.2.2.2.1))
theorem e5c : PureOK E cp57 := conS eok e5b noE_ok fun x => Eq.mp (by kernel_rfl) (d0j x.1 x.2.1 x.2.2.1 (x.2.2.2.1.1, x.2.2.2.1.2.1, x.2.2.2.1.2.2.1, x.2.2.2.1.2.2.2.1, x.2.2.2.1.2.2.2.2.1, x.2.2.2.1.2.2.2.2.2.1, x.2.2.2.1.2.2.2.2.2.2.1) (x.2.2.2.2.1.1, x.2.2.2.2.1.2.1, x.2.2.2.2.1.2.2.1, x.2.2.2.2.1.2.2.2.1))
end
section
variable {α : Type} (y_ : Int) (x_ : Int) (c_ : Int) (c3_ : Node) (c4_ : pane) (k : St → Option α)
noncomputable abbrev C57 := codeOf E.P 80
noncomputable abbrev P57 := @preK α E 80 cp57 noE
def b1l : Option Int := (Option.bind (a0h c4_ y_ x_ c_) (fun y752 : Int => (bif (decide ((0 : Int) ≤ (IntKind.wrap .i64 ((IntKind.wrap .i64 (y752 + c4_.2.2.2.1)) + 128)))) then (bif (decide ((IntKind.wrap .i64 ((IntKind.wrap .i64 (y752 + c4_.2.2.2.1)) + 128)) < (c3_.2.2.2.2.2.2.2.2.2.2.2.2.1.length : Int))) then (some (IntKind.wrap .i64 (gt c3_.2.2.2.2.2.2.2.2.2.2.2.2.1 (IntKind.wrap .i64 ((IntKind.wrap .i64 (y752 + c4_.2.2.2.1)) + 128)) (0 : Int)))) else none) else none)))
theorem d0m : P57 2 C57 ⟨[(0, ri y_), (1, ri x_), (2, ri c_), (3, rC a00 c3_), (4, rC a04 c4_)], [], [], 24⟩ k = Option.bind (b1l y_ x_ c_ c3_ c4_) (fun y753 : Int => k ⟨[(8, ri y753)], [], [], 24⟩) := .trans (by kernel_rfl) (bind_b fun y752 => (bif_b (bif_b some_b none_b) none_b))
/-- quilt/kern.made$5 -/
def b41 : Option Int := (Option.bind (b1l y_ x_ c_ c3_ c4_) (fun y753 : Int => (some y753)))
theorem d0l : stepS E cp57 noE 80 [ri y_, ri x_, ri c_, rC a00 c3_, rC a04 c4_] = Option.bind (b41 y_ x_ c_ c3_ c4_) (fun y : Int => some (ri y : R)) := by
  refine .trans ?_ (bind_b fun y753 => some_b)
  refine (stepG_is (nt := 24) (regs := [(0, ri y_), (1, ri x_), (2, ri c_), (3, rC a00 c3_), (4, rC a04 c4_)])).trans ?_
  refine (pre2 (d0m y_ x_ c_ c3_ c4_ _)).trans (bind_g fun y753 => ?_)
  refine (ret_eq).trans ?_
  kernel_rfl
noncomputable def cp58 : CallP := withC cp57 80 [pI, pI, pI, (.one (.cell (.cons (.g (.int .i64)) (.cons (.g (.sl (.one (.int .i64)))) (.cons (.g (.int .i64)) (.cons (.g (.int .i64)) (.cons (.g (.int .i64)) (.cons (.g (.int .i64)) (.cons (.g (.int .i64)) (.cons (.g (.int .i64)) (.cons (.g (.int .i64)) (.cons (.g (.int .i64)) (.cons (.g (.int .i64)) (.cons (.g (.int .i64)) (.cons (.g (.sl (.one (.int .i8)))) (.cons (.g (.sl (.one (.int .i32)))) .nil)))))))))))))))), (.one (.cell (.cons (.g (.int .i64)) (.cons (.g (.int .i64)) (.cons (.g (.int .i64)) (.cons (.g (.int .i64)) (.cons (.g (.int .i64)) (.cons (.g (.int .i64)) (.cons (.g (.sl (.one (.int .i8)))) .nil)))))))))] (.one pI) (fun y : Int => y) (fun x => b41 x.1 x.2.1 x.2.2.1 (x.2.2.2.1.1, x.2.2.2.1.2.1, x.2.2.2.1.2.2.1, x.2.2.2.1.2.2.2.1, x.2.2.2.1.2.2.2.2.1, x.2.2.2.1.2.2.2.2.2.1, x.2.2.2.1.2.2.2.2.2.2.1, x.2.2.2.1.2.2.2.2.2.2.2.1, x.2.2.2.1.2.2.2.2.2.2.2.2.1, x.2.2.2.1.2.2.2.2.2.2.2.2.2.1, x.2.2.2.1.2.2.2.2.2.2.2.2.2.2.1, x.2.2.2.1.2.2.2.2.2.2.2.2.2.2.2.1, x.2.2.2.1.2.2.2.2.2.2.2.2.2.2.2.2.1, x.2.2.2.1.2.2.2.2.2.2.2.2.2.2.2.2.2.1) (x.2.2.2.2.1.1, x.2.2.2.2.1.2.1, x.2.2.2.2.1.2.2.1, x.2.2.2.2.1.2.2.2.1, x.2.2.2.2.1.2.2.2.2.1, x.2.2.2.2.1.2.2.2.2.2.1, x.2.2.2.2.1.2.2.2.2.2.2.1))
theorem c8i : PureOK E cp58 := conS eok e5c noE_ok fun x => Eq.mp (by kernel_rfl) (d0l x.1 x.2.1 x.2.2.1 (x.2.2.2.1.1, x.2.2.2.1.2.1, x.2.2.2.1.2.2.1, x.2.2.2.1.2.2.2.1, x.2.2.2.1.2.2.2.2.1, x.2.2.2.1.2.2.2.2.2.1, x.2.2.2.1.2.2.2.2.2.2.1, x.2.2.2.1.2.2.2.2.2.2.2.1, x.2.2.2.1.2.2.2.2.2.2.2.2.1, x.2.2.2.1.2.2.2.2.2.2.2.2.2.1, x.2.2.2.1.2.2.2.2.2.2.2.2.2.2.1, x.2.2.2.1.2.2.2.2.2.2.2.2.2.2.2.1, x.2.2.2.1.2.2.2.2.2.2.2.2.2.2.2.2.1, x.2.2.2.1.2.2.2.2.2.2.2.2.2.2.2.2.2.1) (x.2.2.2.2.1.1, x.2.2.2.2.1.2.1, x.2.2.2.2.1.2.2.1, x.2.2.2.2.1.2.2.2.1, x.2.2.2.2.1.2.2.2.2.1, x.2.2.2.2.1.2.2.2.2.2.1, x.2.2.2.2.1.2.2.2.2.2.2.1))
end
section
variable {α β : Type} (i_ : Int) (j_ : Int) (c2_ : Int) (c3_ : Node) (c4_ : Int) (c5_ : Int) (c7_ : pane) (c8_ : Int) (s769 : (Int × Int)) (y773 : Int) (k : St → Option α) (q : Kont α)
noncomputable abbrev C58 := codeOf E.P 85
noncomputable abbrev P58 := @preK α E 85 cp58 noE
noncomputable abbrev R58 := @runCode α E 85 cp58 noE
def a8x (K : (Int × Int × Int) → β) : β := (K ((IntKind.wrap .i64 ((IntKind.wrap .i64 ((IntKind.wrap .i64 (c2_ * c3_.2.2.2.1)) - c3_.2.2.2.2.1)) + i_)), (IntKind.wrap .i64 ((IntKind.wrap .i64 ((IntKind.wrap .i64 (c4_ * c3_.2.2.2.1)) - c3_.2.2.2.2.1)) + j_)), (IntKind.wrap .i64 ((IntKind.wrap .i64 ((IntKind.wrap .i64 ((IntKind.wrap .i64 (c5_ * c3_.2.2.1)) + i_)) * c3_.2.2.1)) + j_))))
def a03 : (Int × Int × Int) := a8x i_ j_ c2_ c3_ c4_ c5_ (fun y => y)
theorem b8t (K : (Int × Int × Int) → β) : a8x i_ j_ c2_ c3_ c4_ c5_ K = K (a03 i_ j_ c2_ c3_ c4_ c5_) := rfl
abbrev S58_0 : St := ⟨[(3, rC a00 c3_), (5, .one (.cell [di c5_])), (6, rF 0), (7, rC a04 c7_), (10, ri ((a03 i_ j_ c2_ c3_ c4_ c5_).1)), (11, ri ((a03 i_ j_ c2_ c3_ c4_ c5_).2.1)), (12, ri ((a03 i_ j_ c2_ c3_ c4_ c5_).2.2))], [[di c8_]], [], 89⟩
theorem c2r : P58 1 C58 ⟨[(0, ri i_), (1, ri j_), (2, .one (.cell [di c2_])), (3, rC a00 c3_), (4, .one (.cell [di c4_])), (5, .one (.cell [di c5_])), (6, rF 0), (7, rC a04 c7_)], [[di c8_]], [], 89⟩ k = k (S58_0 i_ j_ c2_ c3_ c4_ c5_ c7_ c8_) := Eq.trans (by kernel_rfl) (b8t i_ j_ c2_ c3_ c4_ c5_ (fun y759 : (Int × Int × Int) => k ⟨[(3, rC a00 c3_), (5, .one (.cell [di c5_])), (6, rF 0), (7, rC a04 c7_), (10, ri y759.1), (11, ri y759.2.1), (12, ri y759.2.2)], [[di c8_]], [], 89⟩))
theorem b3t : P58 1 C58.r.l (S58_0 i_ j_ c2_ c3_ c4_ c5_ c7_ c8_) k = k ⟨[(3, rC a00 c3_), (5, .one (.cell [di c5_])), (6, rF 0), (7, rC a04 c7_), (10, ri ((a03 i_ j_ c2_ c3_ c4_ c5_).1)), (11, ri ((a03 i_ j_ c2_ c3_ c4_ c5_).2.1)), (12, ri ((a03 i_ j_ c2_ c3_ c4_ c5_).2.2)), (45, rb (c3_.1 == 2))], [[di c8_]], [], 89⟩ := by kernel_rfl
def a8y : Option Int := (Option.bind (a0h c7_ ((a03 i_ j_ c2_ c3_ c4_ c5_).1) ((a03 i_ j_ c2_ c3_ c4_ c5_).2.1) c5_) (fun y762 : Int => (bif (decide ((0 : Int) ≤ ((a03 i_ j_ c2_ c3_ c4_ c5_).2.2))) then (bif (decide (((a03 i_ j_ c2_ c3_ c4_ c5_).2.2) < (c3_.2.2.2.2.2.2.2.2.2.2.2.2.1.length : Int))) then (some (IntKind.wrap .i64 (c8_ + (IntKind.wrap .i64 (y762 * (IntKind.wrap .i64 (gt c3_.2.2.2.2.2.2.2.2.2.2.2.2.1 ((a03 i_ j_ c2_ c3_ c4_ c5_).2.2) (0 : Int)))))))) else none) else none)))
theorem c2s : P58 1 C58.r.l.r.t (S58_0 i_ j_ c2_ c3_ c4_ c5_ c7_ c8_) k = Option.bind (a8y i_ j_ c2_ c3_ c4_ c5_ c7_ c8_) (fun y763 : Int => k ⟨[], [[di y763]], [], 89⟩) := .trans (by kernel_rfl) (bind_b fun y762 => (bif_b (bif_b some_b none_b) none_b))
abbrev S58_1 : St := ⟨[(3, rC a00 c3_), (6, rF 0), (7, rC a04 c7_), (10, ri ((a03 i_ j_ c2_ c3_ c4_ c5_).1)), (11, ri ((a03 i_ j_ c2_ c3_ c4_ c5_).2.1)), (12, ri ((a03 i_ j_ c2_ c3_ c4_ c5_).2.2))], [[di c8_]], [], 89⟩
abbrev S58_2 : St := ⟨[(3, rC a00 c3_), (6, rF 0), (7, rC a04 c7_), (10, ri ((a03 i_ j_ c2_ c3_ c4_ c5_).1)), (11, ri ((a03 i_ j_ c2_ c3_ c4_ c5_).2.1)), (12, ri ((a03 i_ j_ c2_ c3_ c4_ c5_).2.2)), (63, ri c7_.2.2.1), (64, ri 0)], [[di c8_]], [], 89⟩
theorem c2m : P58 1 C58.r.r (S58_1 i_ j_ c2_ c3_ c4_ c5_ c7_ c8_) k = k (S58_2 i_ j_ c2_ c3_ c4_ c5_ c7_ c8_) := by kernel_rfl
abbrev S58_3 : St := ⟨[(3, rC a00 c3_), (6, rF 0), (7, rC a04 c7_), (10, ri ((a03 i_ j_ c2_ c3_ c4_ c5_).1)), (11, ri ((a03 i_ j_ c2_ c3_ c4_ c5_).2.1)), (12, ri ((a03 i_ j_ c2_ c3_ c4_ c5_).2.2)), (63, ri c7_.2.2.1), (64, ri s769.1)], [[di s769.2]], [], 89⟩
theorem c2o : P58 1 C58.r.r.r.b.b (S58_3 i_ j_ c2_ c3_ c4_ c5_ c7_ s769) k = k ⟨[(3, rC a00 c3_), (6, rF 0), (7, rC a04 c7_), (10, ri ((a03 i_ j_ c2_ c3_ c4_ c5_).1)), (11, ri ((a03 i_ j_ c2_ c3_ c4_ c5_).2.1)), (12, ri ((a03 i_ j_ c2_ c3_ c4_ c5_).2.2)), (63, ri c7_.2.2.1), (64, ri s769.1), (65, rb (decide (s769.1 < c7_.2.2.1)))], [[di s769.2]], [], 89⟩ := by kernel_rfl
abbrev S58_4 : St := ⟨[(3, rC a00 c3_), (6, rF 0), (7, rC a04 c7_), (10, ri ((a03 i_ j_ c2_ c3_ c4_ c5_).1)), (11, ri ((a03 i_ j_ c2_ c3_ c4_ c5_).2.1)), (12, ri ((a03 i_ j_ c2_ c3_ c4_ c5_).2.2)), (13, ri s769.1), (63, ri c7_.2.2.1), (64, ri s769.1)], [[di s769.2]], [], 89⟩
theorem c2n : P58 1 C58.r.r.r.b.b.r.r.l.b (S58_3 i_ j_ c2_ c3_ c4_ c5_ c7_ s769) k = k (S58_4 i_ j_ c2_ c3_ c4_ c5_ c7_ s769) := by kernel_rfl
def a8z : Option Int := (Option.bind (a0h c7_ ((a03 i_ j_ c2_ c3_ c4_ c5_).1) ((a03 i_ j_ c2_ c3_ c4_ c5_).2.1) s769.1) (fun y772 : Int => (bif (decide ((0 : Int) ≤ (IntKind.wrap .i64 ((IntKind.wrap .i64 (((a03 i_ j_ c2_ c3_ c4_ c5_).2.2) * c7_.2.2.1)) + s769.1)))) then (bif (decide ((IntKind.wrap .i64 ((IntKind.wrap .i64 (((a03 i_ j_ c2_ c3_ c4_ c5_).2.2) * c7_.2.2.1)) + s769.1)) < (c3_.2.2.2.2.2.2.2.2.2.2.2.2.1.length : Int))) then (some (IntKind.wrap .i64 (s769.2 + (IntKind.wrap .i64 (y772 * (IntKind.wrap .i64 (gt c3_.2.2.2.2.2.2.2.2.2.2.2.2.1 (IntKind.wrap .i64 ((IntKind.wrap .i64 (((a03 i_ j_ c2_ c3_ c4_ c5_).2.2) * c7_.2.2.1)) + s769.1)) (0 : Int)))))))) else none) else none)))
abbrev S58_5 : St := ⟨[(3, rC a00 c3_), (6, rF 0), (7, rC a04 c7_), (10, ri ((a03 i_ j_ c2_ c3_ c4_ c5_).1)), (11, ri ((a03 i_ j_ c2_ c3_ c4_ c5_).2.1)), (12, ri ((a03 i_ j_ c2_ c3_ c4_ c5_).2.2)), (63, ri c7_.2.2.1), (64, ri s769.1)], [[di y773]], [], 89⟩
theorem c2t : R58 C58.r.r.r.b.b.r.r.l.b.r (S58_4 i_ j_ c2_ c3_ c4_ c5_ c7_ s769) q = Option.bind (a8z i_ j_ c2_ c3_ c4_ c5_ c7_ s769) (fun y773 : Int => q .normal (S58_5 i_ j_ c2_ c3_ c4_ c5_ c7_ s769 y773)) := .trans (by kernel_rfl) (bind_b fun y772 => (bif_b (bif_b some_b none_b) none_b))
theorem c2u : R58 C58.r.r.r.b.b.r.r.r (S58_5 i_ j_ c2_ c3_ c4_ c5_ c7_ s769 y773) q = q .normal ⟨[(3, rC a00 c3_), (6, rF 0), (7, rC a04 c7_), (10, ri ((a03 i_ j_ c2_ c3_ c4_ c5_).1)), (11, ri ((a03 i_ j_ c2_ c3_ c4_ c5_).2.1)), (12, ri ((a03 i_ j_ c2_ c3_ c4_ c5_).2.2)), (63, ri c7_.2.2.1), (64, ri (IntKind.wrap .i64 (s769.1 + 1)))], [[di y773]], [], 89⟩ := by kernel_rfl
def a4g : Option ((Int × Int) ⊕ (Int × Int)) := (bif (decide (s769.1 < c7_.2.2.1)) then (Option.bind (a8z i_ j_ c2_ c3_ c4_ c5_ c7_ s769) (fun y773 : Int => (some (Sum.inl ((IntKind.wrap .i64 (s769.1 + 1)), y773))))) else (some (Sum.inr s769)))
abbrev S58_6 (y774 : (Int × Int)) : St := ⟨[(3, rC a00 c3_), (6, rF 0), (7, rC a04 c7_), (10, ri ((a03 i_ j_ c2_ c3_ c4_ c5_).1)), (11, ri ((a03 i_ j_ c2_ c3_ c4_ c5_).2.1)), (12, ri ((a03 i_ j_ c2_ c3_ c4_ c5_).2.2)), (63, ri c7_.2.2.1), (64, ri y774.1)], [[di y774.2]], [], 89⟩
theorem b8s : R58 C58.r.r.r.b.b (S58_3 i_ j_ c2_ c3_ c4_ c5_ c7_ s769) (loopKont 1 q) = Option.bind (a4g i_ j_ c2_ c3_ c4_ c5_ c7_ s769) (either (fun y : (Int × Int) => q .normal ⟨[(3, rC a00 c3_), (6, rF 0), (7, rC a04 c7_), (10, ri ((a03 i_ j_ c2_ c3_ c4_ c5_).1)), (11, ri ((a03 i_ j_ c2_ c3_ c4_ c5_).2.1)), (12, ri ((a03 i_ j_ c2_ c3_ c4_ c5_).2.2)), (63, ri c7_.2.2.1), (64, ri y.1)], [[di y.2]], [], 89⟩) (fun y774 : (Int × Int) => q (.exit 0) (S58_6 i_ j_ c2_ c3_ c4_ c5_ c7_ y774))) := by
  refine .trans ?_ (bif_b (bind_b fun y773 => e2_0) e2_1)
  refine (pre1 (c2o i_ j_ c2_ c3_ c4_ c5_ c7_ s769 _)).trans ?_
  refine .trans seq_push ?_
  refine (cond_e (b := (decide (s769.1 < c7_.2.2.1))) (st' := (S58_3 i_ j_ c2_ c3_ c4_ c5_ c7_ s769)) ).trans (bif_g ?_ ?_)
  · refine (skip_eq).trans ?_
    refine (seqC_normal (st' := (S58_3 i_ j_ c2_ c3_ c4_ c5_ c7_ s769))).trans ?_
    refine .trans seq_push ?_
    refine (block_push (id := 1)).trans ?_
    refine (pre1 (c2n i_ j_ c2_ c3_ c4_ c5_ c7_ s769 _)).trans ?_
    refine (c2t i_ j_ c2_ c3_ c4_ c5_ c7_ s769 _).trans (bind_g fun y773 => ?_)
    refine block_normal.trans ?_
    refine (seqC_normal (st' := (S58_5 i_ j_ c2_ c3_ c4_ c5_ c7_ s769 y773))).trans ?_
    refine (c2u i_ j_ c2_ c3_ c4_ c5_ c7_ s769 y773 _).trans ?_
    kernel_rfl
  · refine ((exit_eq (j := 0))).trans ?_
    refine seqC_exit.trans ?_
    kernel_rfl
theorem c2q : R58 C58.r.r.r.b (S58_2 i_ j_ c2_ c3_ c4_ c5_ c7_ c8_) q = Option.bind (iterN (a4g i_ j_ c2_ c3_ c4_ c5_ c7_) LL ((0 : Int), c8_)) (fun y774 : (Int × Int) => q (.exit 0) (S58_6 i_ j_ c2_ c3_ c4_ c5_ c7_ y774)) :=
  Eq.trans (by kernel_rfl) (loop_iter1 (S := fun s769 : (Int × Int) => (S58_3 i_ j_ c2_ c3_ c4_ c5_ c7_ s769)) (Y1 := fun y774 : (Int × Int) => ((.exit 0), (S58_6 i_ j_ c2_ c3_ c4_ c5_ c7_ y774))) (fun s q => b8s i_ j_ c2_ c3_ c4_ c5_ c7_ s q) (fun z => rfl) LL ((0 : Int), c8_))
/-- quilt/kern.conv$1$1 -/
def a5s : Option Int := (bif (c3_.1 == 2) then (Option.bind (a8y i_ j_ c2_ c3_ c4_ c5_ c7_ c8_) (fun y763 : Int => (some y763))) else (Option.bind (iterN (a4g i_ j_ c2_ c3_ c4_ c5_ c7_) LL ((0 : Int), c8_)) (fun y774 : (Int × Int) => (some y774.2))))
theorem c2p (k : R → Heap → Option α) : callBody E cp58 noE α 85 [ri i_, ri j_, .one (.cell [di c2_]), rC a00 c3_, .one (.cell [di c4_]), .one (.cell [di c5_]), rF 0, rC a04 c7_] [[di c8_]] k = Option.bind (a5s i_ j_ c2_ c3_ c4_ c5_ c7_ c8_) (fun y : Int => k (.tup []) [[di y]]) := by
  refine .trans ?_ (bif_b (bind_b fun y763 => some_b) (bind_b fun y774 => some_b))
  refine (body_is (nt := 89) (regs := [(0, ri i_), (1, ri j_), (2, .one (.cell [di c2_])), (3, rC a00 c3_), (4, .one (.cell [di c4_])), (5, .one (.cell [di c5_])), (6, rF 0), (7, rC a04 c7_)]) (by kernel_rfl) (by kernel_rfl)).trans ?_
  refine (pre1 (c2r i_ j_ c2_ c3_ c4_ c5_ c7_ c8_ _)).trans ?_
  refine .trans seq_push ?_
  refine (pre1 (b3t i_ j_ c2_ c3_ c4_ c5_ c7_ c8_ _)).trans ?_
  refine (cond_e (b := (c3_.1 == 2)) (st' := (S58_0 i_ j_ c2_ c3_ c4_ c5_ c7_ c8_)) ).trans (bif_g ?_ ?_)
  · refine (pre1 (c2s i_ j_ c2_ c3_ c4_ c5_ c7_ c8_ _)).trans (bind_g fun y763 => ?_)
    refine (ret_eq).trans ?_
    refine seqC_ret.trans ?_
    kernel_rfl
  · refine (skip_eq).trans ?_
    refine (seqC_normal (st' := (S58_1 i_ j_ c2_ c3_ c4_ c5_ c7_ c8_))).trans ?_
    refine (pre1 (c2m i_ j_ c2_ c3_ c4_ c5_ c7_ c8_ _)).trans ?_
    refine (block_push (id := 0)).trans ?_
    refine (c2q i_ j_ c2_ c3_ c4_ c5_ c7_ c8_ _).trans (bind_g fun y774 => ?_)
    refine block_same.trans ?_
    kernel_rfl
noncomputable def ce1 : CallE := withE noE 85 (decA [pI, pI, (.one (.cell (.cons (.g (.int .i64)) .nil))), (.one (.cell (.cons (.g (.int .i64)) (.cons (.g (.sl (.one (.int .i64)))) (.cons (.g (.int .i64)) (.cons (.g (.int .i64)) (.cons (.g (.int .i64)) (.cons (.g (.int .i64)) (.cons (.g (.int .i64)) (.cons (.g (.int .i64)) (.cons (.g (.int .i64)) (.cons (.g (.int .i64)) (.cons (.g (.int .i64)) (.cons (.g (.int .i64)) (.cons (.g (.sl (.one (.int .i8)))) (.cons (.g (.sl (.one (.int .i32)))) .nil)))))))))))))))), (.one (.cell (.cons (.g (.int .i64)) .nil))), (.one (.cell (.cons (.g (.int .i64)) .nil))), (.one (.ref 0 0)), (.one (.cell (.cons (.g (.int .i64)) (.cons (.g (.int .i64)) (.cons (.g (.int .i64)) (.cons (.g (.int .i64)) (.cons (.g (.int .i64)) (.cons (.g (.int .i64)) (.cons (.g (.sl (.one (.int .i8)))) .nil)))))))))] [(.cons (.g (.int .i64)) .nil)]) .unit (fun y : Int => ()) (fun x y => [[di y]]) (fun x => a5s x.1.1 x.1.2.1 x.1.2.2.1.1 (x.1.2.2.2.1.1, x.1.2.2.2.1.2.1, x.1.2.2.2.1.2.2.1, x.1.2.2.2.1.2.2.2.1, x.1.2.2.2.1.2.2.2.2.1, x.1.2.2.2.1.2.2.2.2.2.1, x.1.2.2.2.1.2.2.2.2.2.2.1, x.1.2.2.2.1.2.2.2.2.2.2.2.1, x.1.2.2.2.1.2.2.2.2.2.2.2.2.1, x.1.2.2.2.1.2.2.2.2.2.2.2.2.2.1, x.1.2.2.2.1.2.2.2.2.2.2.2.2.2.2.1, x.1.2.2.2.1.2.2.2.2.2.2.2.2.2.2.2.1, x.1.2.2.2.1.2.2.2.2.2.2.2.2.2.2.2.2.1, x.1.2.2.2.1.2.2.2.2.2.2.2.2.2.2.2.2.2.1) x.1.2.2.2.2.1.1 x.1.2.2.2.2.2.1.1 (x.1.2.2.2.2.2.2.2.1.1, x.1.2.2.2.2.2.2.2.1.2.1, x.1.2.2.2.2.2.2.2.1.2.2.1, x.1.2.2.2.2.2.2.2.1.2.2.2.1, x.1.2.2.2.2.2.2.2.1.2.2.2.2.1, x.1.2.2.2.2.2.2.2.1.2.2.2.2.2.1, x.1.2.2.2.2.2.2.2.1.2.2.2.2.2.2.1) x.2.1.1)
theorem e68 : EffOK E ce1 := conE eok c8i noE_ok fun α x k => Eq.mp (by kernel_rfl) (c2p x.1.1 x.1.2.1 x.1.2.2.1.1 (x.1.2.2.2.1.1, x.1.2.2.2.1.2.1, x.1.2.2.2.1.2.2.1, x.1.2.2.2.1.2.2.2.1, x.1.2.2.2.1.2.2.2.2.1, x.1.2.2.2.1.2.2.2.2.2.1, x.1.2.2.2.1.2.2.2.2.2.2.1, x.1.2.2.2.1.2.2.2.2.2.2.2.1, x.1.2.2.2.1.2.2.2.2.2.2.2.2.1, x.1.2.2.2.1.2.2.2.2.2.2.2.2.2.1, x.1.2.2.2.1.2.2.2.2.2.2.2.2.2.2.1, x.1.2.2.2.1.2.2.2.2.2.2.2.2.2.2.2.1, x.1.2.2.2.1.2.2.2.2.2.2.2.2.2.2.2.2.1, x.1.2.2.2.1.2.2.2.2.2.2.2.2.2.2.2.2.2.1) x.1.2.2.2.2.1.1 x.1.2.2.2.2.2.1.1 (x.1.2.2.2.2.2.2.2.1.1, x.1.2.2.2.2.2.2.2.1.2.1, x.1.2.2.2.2.2.2.2.1.2.2.1, x.1.2.2.2.2.2.2.2.1.2.2.2.1, x.1.2.2.2.2.2.2.2.1.2.2.2.2.1, x.1.2.2.2.2.2.2.2.1.2.2.2.2.2.1, x.1.2.2.2.2.2.2.2.1.2.2.2.2.2.2.1) x.2.1.1 k)
end
end Go.V.P
