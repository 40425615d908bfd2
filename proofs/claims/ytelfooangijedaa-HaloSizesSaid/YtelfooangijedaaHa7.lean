/- What functions compute. -/
import Derived.Test.YtelfooangijedaaHa6
namespace Go.V.P
open Go.RowKit Go.V Go.Proofs
set_option linter.unusedVariables false
set_option maxRecDepth 100000
noncomputable abbrev C52 : Code := codeOf E.P 27
noncomputable abbrev P52 {α : Type} (n : Nat) (c : Code) (st : St) (k : St → Option α) : Option α := preK E 27 cp52 noE n c st k
noncomputable abbrev R52 {α : Type} (c : Code) (st : St) (k : Kont α) : Option α := runCode E 27 cp52 noE c st k
noncomputable abbrev Q52 {α : Type} (c : Code) (k : Kont α) : Kont α := seqC E 27 cp52 noE c k
def ref03_made_r1_q {β : Type} (l_ : (List I4)) (K : Unit → Option β) : Option β := (bif (decide ((0 : Int) < (l_.length : Int))) then (K ()) else none)
def ref03_made_r1_p (l_ : (List I4)) : Option (Unit) := ref03_made_r1_q l_ some
theorem ref03_made_r1_n {β : Type} (l_ : (List I4)) (K : Unit → Option β) : ref03_made_r1_q l_ K = (ref03_made_r1_p l_).bind K := (bif_b some_b none_b)
theorem ref03_made_r1 {α : Type} (n_ : Node) (l_ : (List I4)) (k : St → Option α) : P52 2 C52 ⟨[(0, .agg (tsNode.leaves n_)), (1, rl tsI4 l_)], [], [], 117⟩ k = Option.bind (ref03_made_r1_p l_) (fun y503 : Unit => k ⟨[(1, rl tsI4 l_), (2, .one (.cell (tsNode.leaves n_))), (4, .one (.ref 0 0)), (5, .one (.ref 1 0))], [[di (0 : Int), di (0 : Int), di (0 : Int)], [di ((gt l_ (0 : Int) dI4).1), di ((gt l_ (0 : Int) dI4).2.1), di ((gt l_ (0 : Int) dI4).2.2.1)]], [], 117⟩) := Eq.trans (by kernel_rfl) (ref03_made_r1_n l_ _)
theorem ref03_made_f3 {α : Type} (n_ : Node) (l_ : (List I4)) (k : St → Option α) : P52 1 C52.r.r.l ⟨[(1, rl tsI4 l_), (2, .one (.cell (tsNode.leaves n_))), (4, .one (.ref 0 0)), (5, .one (.ref 1 0))], [[di (0 : Int), di (0 : Int), di (0 : Int)], [di ((gt l_ (0 : Int) dI4).1), di ((gt l_ (0 : Int) dI4).2.1), di ((gt l_ (0 : Int) dI4).2.2.1)]], [], 117⟩ k = k ⟨[(1, rl tsI4 l_), (2, .one (.cell (tsNode.leaves n_))), (4, .one (.ref 0 0)), (5, .one (.ref 1 0)), (12, ri n_.1)], [[di (0 : Int), di (0 : Int), di (0 : Int)], [di ((gt l_ (0 : Int) dI4).1), di ((gt l_ (0 : Int) dI4).2.1), di ((gt l_ (0 : Int) dI4).2.2.1)]], [], 117⟩ := by kernel_rfl
theorem ref03_made_f2000004 {α : Type} (n_ : Node) (l_ : (List I4)) (k : St → Option α) : P52 1 (bodyOf C52.r.r.l.r).l ⟨[(1, rl tsI4 l_), (2, .one (.cell (tsNode.leaves n_))), (4, .one (.ref 0 0)), (5, .one (.ref 1 0)), (12, ri n_.1)], [[di (0 : Int), di (0 : Int), di (0 : Int)], [di ((gt l_ (0 : Int) dI4).1), di ((gt l_ (0 : Int) dI4).2.1), di ((gt l_ (0 : Int) dI4).2.2.1)]], [], 117⟩ k = k ⟨[(1, rl tsI4 l_), (2, .one (.cell (tsNode.leaves n_))), (4, .one (.ref 0 0)), (5, .one (.ref 1 0)), (12, ri n_.1), (13, rb (n_.1 == (1 : Int)))], [[di (0 : Int), di (0 : Int), di (0 : Int)], [di ((gt l_ (0 : Int) dI4).1), di ((gt l_ (0 : Int) dI4).2.1), di ((gt l_ (0 : Int) dI4).2.2.1)]], [], 117⟩ := by kernel_rfl
theorem ref03_made_f2000005 {α : Type} (n_ : Node) (l_ : (List I4)) (k : St → Option α) : P52 1 (bodyOf C52.r.r.l.r).l.r.e ⟨[(1, rl tsI4 l_), (2, .one (.cell (tsNode.leaves n_))), (4, .one (.ref 0 0)), (5, .one (.ref 1 0)), (12, ri n_.1), (13, rb (n_.1 == (1 : Int)))], [[di (0 : Int), di (0 : Int), di (0 : Int)], [di ((gt l_ (0 : Int) dI4).1), di ((gt l_ (0 : Int) dI4).2.1), di ((gt l_ (0 : Int) dI4).2.2.1)]], [], 117⟩ k = k ⟨[(1, rl tsI4 l_), (2, .one (.cell (tsNode.leaves n_))), (4, .one (.ref 0 0)), (5, .one (.ref 1 0)), (12, ri n_.1), (13, rb (n_.1 == (2 : Int)))], [[di (0 : Int), di (0 : Int), di (0 : Int)], [di ((gt l_ (0 : Int) dI4).1), di ((gt l_ (0 : Int) dI4).2.1), di ((gt l_ (0 : Int) dI4).2.2.1)]], [], 117⟩ := by kernel_rfl
theorem ref03_made_f2000006 {α : Type} (n_ : Node) (l_ : (List I4)) (k : St → Option α) : P52 1 (bodyOf C52.r.r.l.r).l.r.e.r.e ⟨[(1, rl tsI4 l_), (2, .one (.cell (tsNode.leaves n_))), (4, .one (.ref 0 0)), (5, .one (.ref 1 0)), (12, ri n_.1), (13, rb (n_.1 == (2 : Int)))], [[di (0 : Int), di (0 : Int), di (0 : Int)], [di ((gt l_ (0 : Int) dI4).1), di ((gt l_ (0 : Int) dI4).2.1), di ((gt l_ (0 : Int) dI4).2.2.1)]], [], 117⟩ k = k ⟨[(1, rl tsI4 l_), (2, .one (.cell (tsNode.leaves n_))), (4, .one (.ref 0 0)), (5, .one (.ref 1 0)), (12, ri n_.1), (13, rb (n_.1 == (4 : Int)))], [[di (0 : Int), di (0 : Int), di (0 : Int)], [di ((gt l_ (0 : Int) dI4).1), di ((gt l_ (0 : Int) dI4).2.1), di ((gt l_ (0 : Int) dI4).2.2.1)]], [], 117⟩ := by kernel_rfl
theorem ref03_made_r6 {α : Type} (n_ : Node) (l_ : (List I4)) (k : Kont α) : R52 (bodyOf C52.r.r.l.r).l.r.e.r.e.r.e ⟨[(1, rl tsI4 l_), (2, .one (.cell (tsNode.leaves n_))), (4, .one (.ref 0 0)), (5, .one (.ref 1 0)), (12, ri n_.1), (13, rb (n_.1 == (4 : Int)))], [[di (0 : Int), di (0 : Int), di (0 : Int)], [di ((gt l_ (0 : Int) dI4).1), di ((gt l_ (0 : Int) dI4).2.1), di ((gt l_ (0 : Int) dI4).2.2.1)]], [], 117⟩ k = k .normal ⟨[(1, rl tsI4 l_), (2, .one (.cell (tsNode.leaves n_))), (4, .one (.ref 0 0)), (5, .one (.ref 1 0)), (12, ri n_.1), (13, rb (n_.1 == (5 : Int)))], [[di (0 : Int), di (0 : Int), di (0 : Int)], [di ((gt l_ (0 : Int) dI4).1), di ((gt l_ (0 : Int) dI4).2.1), di ((gt l_ (0 : Int) dI4).2.2.1)]], [], 117⟩ := by kernel_rfl
def ref03_made_j3_q {β : Type} (n_ : Node) (K : Bool → β) : β := (bif (n_.1 == (1 : Int)) then (K (n_.1 == (1 : Int))) else (bif (n_.1 == (2 : Int)) then (K (n_.1 == (2 : Int))) else (bif (n_.1 == (4 : Int)) then (K (n_.1 == (4 : Int))) else (K (n_.1 == (5 : Int))))))
def ref03_made_j3_p (n_ : Node) : Bool := ref03_made_j3_q n_ (fun y => y)
theorem ref03_made_j3_n {β : Type} (n_ : Node) (K : Bool → β) : ref03_made_j3_q n_ K = K (ref03_made_j3_p n_) := (bif_k K rfl (bif_k K rfl (bif_k K rfl rfl)))
theorem ref03_made_j3 {α : Type} (n_ : Node) (l_ : (List I4)) (k : Kont α) : R52 (bodyOf C52.r.r.l.r).l ⟨[(1, rl tsI4 l_), (2, .one (.cell (tsNode.leaves n_))), (4, .one (.ref 0 0)), (5, .one (.ref 1 0)), (12, ri n_.1)], [[di (0 : Int), di (0 : Int), di (0 : Int)], [di ((gt l_ (0 : Int) dI4).1), di ((gt l_ (0 : Int) dI4).2.1), di ((gt l_ (0 : Int) dI4).2.2.1)]], [], 117⟩ (Q52 (bodyOf C52.r.r.l.r).r k) = R52 (bodyOf C52.r.r.l.r).r ⟨[(1, rl tsI4 l_), (2, .one (.cell (tsNode.leaves n_))), (4, .one (.ref 0 0)), (5, .one (.ref 1 0)), (12, ri n_.1), (13, rb (ref03_made_j3_p n_))], [[di (0 : Int), di (0 : Int), di (0 : Int)], [di ((gt l_ (0 : Int) dI4).1), di ((gt l_ (0 : Int) dI4).2.1), di ((gt l_ (0 : Int) dI4).2.2.1)]], [], 117⟩ k := by
  refine Eq.trans ?_ (ref03_made_j3_n n_ (fun y504 : Bool => R52 (bodyOf C52.r.r.l.r).r ⟨[(1, rl tsI4 l_), (2, .one (.cell (tsNode.leaves n_))), (4, .one (.ref 0 0)), (5, .one (.ref 1 0)), (12, ri n_.1), (13, rb y504)], [[di (0 : Int), di (0 : Int), di (0 : Int)], [di ((gt l_ (0 : Int) dI4).1), di ((gt l_ (0 : Int) dI4).2.1), di ((gt l_ (0 : Int) dI4).2.2.1)]], [], 117⟩ k))
  unfold ref03_made_j3_q
  refine (pre (n := 1) (c' := (bodyOf C52.r.r.l.r).l.r) (by kernel_rfl) (by kernel_rfl) (ref03_made_f2000004 n_ l_ _)).trans ?_
  refine (cond_s (b := (n_.1 == (1 : Int))) (by kernel_rfl) (by kernel_rfl) (by kernel_rfl)).trans (bif_g ?_ ?_)
  · refine (skip_eq (by kernel_rfl)).trans ?_
    refine (seqC_normal (st' := ⟨[(1, rl tsI4 l_), (2, .one (.cell (tsNode.leaves n_))), (4, .one (.ref 0 0)), (5, .one (.ref 1 0)), (12, ri n_.1), (13, rb (n_.1 == (1 : Int)))], [[di (0 : Int), di (0 : Int), di (0 : Int)], [di ((gt l_ (0 : Int) dI4).1), di ((gt l_ (0 : Int) dI4).2.1), di ((gt l_ (0 : Int) dI4).2.2.1)]], [], 117⟩) (by kernel_rfl)).trans ?_
    kernel_rfl
  · refine (pre (n := 1) (c' := (bodyOf C52.r.r.l.r).l.r.e.r) (by kernel_rfl) (by kernel_rfl) (ref03_made_f2000005 n_ l_ _)).trans ?_
    refine (cond_s (b := (n_.1 == (2 : Int))) (by kernel_rfl) (by kernel_rfl) (by kernel_rfl)).trans (bif_g ?_ ?_)
    · refine (skip_eq (by kernel_rfl)).trans ?_
      refine (seqC_normal (st' := ⟨[(1, rl tsI4 l_), (2, .one (.cell (tsNode.leaves n_))), (4, .one (.ref 0 0)), (5, .one (.ref 1 0)), (12, ri n_.1), (13, rb (n_.1 == (2 : Int)))], [[di (0 : Int), di (0 : Int), di (0 : Int)], [di ((gt l_ (0 : Int) dI4).1), di ((gt l_ (0 : Int) dI4).2.1), di ((gt l_ (0 : Int) dI4).2.2.1)]], [], 117⟩) (by kernel_rfl)).trans ?_
      kernel_rfl
    · refine (pre (n := 1) (c' := (bodyOf C52.r.r.l.r).l.r.e.r.e.r) (by kernel_rfl) (by kernel_rfl) (ref03_made_f2000006 n_ l_ _)).trans ?_
      refine (cond_s (b := (n_.1 == (4 : Int))) (by kernel_rfl) (by kernel_rfl) (by kernel_rfl)).trans (bif_g ?_ ?_)
      · refine (skip_eq (by kernel_rfl)).trans ?_
        refine (seqC_normal (st' := ⟨[(1, rl tsI4 l_), (2, .one (.cell (tsNode.leaves n_))), (4, .one (.ref 0 0)), (5, .one (.ref 1 0)), (12, ri n_.1), (13, rb (n_.1 == (4 : Int)))], [[di (0 : Int), di (0 : Int), di (0 : Int)], [di ((gt l_ (0 : Int) dI4).1), di ((gt l_ (0 : Int) dI4).2.1), di ((gt l_ (0 : Int) dI4).2.2.1)]], [], 117⟩) (by kernel_rfl)).trans ?_
        kernel_rfl
      · refine (ref03_made_r6 n_ l_ _).trans ?_
        refine (seqC_normal (st' := ⟨[(1, rl tsI4 l_), (2, .one (.cell (tsNode.leaves n_))), (4, .one (.ref 0 0)), (5, .one (.ref 1 0)), (12, ri n_.1), (13, rb (n_.1 == (5 : Int)))], [[di (0 : Int), di (0 : Int), di (0 : Int)], [di ((gt l_ (0 : Int) dI4).1), di ((gt l_ (0 : Int) dI4).2.1), di ((gt l_ (0 : Int) dI4).2.2.1)]], [], 117⟩) (by kernel_rfl)).trans ?_
        kernel_rfl
theorem ref03_made_f8 {α : Type} (n_ : Node) (l_ : (List I4)) (k : St → Option α) : P52 1 (bodyOf C52.r.r.l.r).r.t ⟨[(1, rl tsI4 l_), (2, .one (.cell (tsNode.leaves n_))), (4, .one (.ref 0 0)), (5, .one (.ref 1 0)), (12, ri n_.1), (13, rb (ref03_made_j3_p n_))], [[di (0 : Int), di (0 : Int), di (0 : Int)], [di ((gt l_ (0 : Int) dI4).1), di ((gt l_ (0 : Int) dI4).2.1), di ((gt l_ (0 : Int) dI4).2.2.1)]], [], 117⟩ k = k ⟨[(2, .one (.cell (tsNode.leaves n_))), (4, .one (.ref 0 0)), (5, .one (.ref 1 0)), (6, ri ((gt l_ (0 : Int) dI4).2.2.1))], [[di (0 : Int), di (0 : Int), di (0 : Int)], [di ((gt l_ (0 : Int) dI4).1), di ((gt l_ (0 : Int) dI4).2.1), di ((gt l_ (0 : Int) dI4).2.2.1)]], [], 117⟩ := by kernel_rfl
theorem ref03_made_f1000009 {α : Type} (n_ : Node) (l_ : (List I4)) (k : St → Option α) : P52 1 (bodyOf C52.r.r.l.r).r.t.r.l ⟨[(2, .one (.cell (tsNode.leaves n_))), (4, .one (.ref 0 0)), (5, .one (.ref 1 0)), (6, ri ((gt l_ (0 : Int) dI4).2.2.1))], [[di (0 : Int), di (0 : Int), di (0 : Int)], [di ((gt l_ (0 : Int) dI4).1), di ((gt l_ (0 : Int) dI4).2.1), di ((gt l_ (0 : Int) dI4).2.2.1)]], [], 117⟩ k = k ⟨[(2, .one (.cell (tsNode.leaves n_))), (4, .one (.ref 0 0)), (5, .one (.ref 1 0)), (6, ri ((gt l_ (0 : Int) dI4).2.2.1)), (22, rb (n_.1 == (1 : Int)))], [[di (0 : Int), di (0 : Int), di (0 : Int)], [di ((gt l_ (0 : Int) dI4).1), di ((gt l_ (0 : Int) dI4).2.1), di ((gt l_ (0 : Int) dI4).2.2.1)]], [], 117⟩ := by kernel_rfl
theorem ref03_made_r9 {α : Type} (n_ : Node) (l_ : (List I4)) (k : Kont α) : R52 (bodyOf C52.r.r.l.r).r.t.r.l.r.t ⟨[(2, .one (.cell (tsNode.leaves n_))), (4, .one (.ref 0 0)), (5, .one (.ref 1 0)), (6, ri ((gt l_ (0 : Int) dI4).2.2.1))], [[di (0 : Int), di (0 : Int), di (0 : Int)], [di ((gt l_ (0 : Int) dI4).1), di ((gt l_ (0 : Int) dI4).2.1), di ((gt l_ (0 : Int) dI4).2.2.1)]], [], 117⟩ k = k .normal ⟨[(2, .one (.cell (tsNode.leaves n_))), (4, .one (.ref 0 0)), (5, .one (.ref 1 0)), (6, ri n_.2.2.2.2.2.1)], [[di (0 : Int), di (0 : Int), di (0 : Int)], [di ((gt l_ (0 : Int) dI4).1), di ((gt l_ (0 : Int) dI4).2.1), di ((gt l_ (0 : Int) dI4).2.2.1)]], [], 117⟩ := by kernel_rfl
def ref03_made_j8_q {β : Type} (n_ : Node) (l_ : (List I4)) (K : Int → β) : β := (bif (n_.1 == (1 : Int)) then (K n_.2.2.2.2.2.1) else (K ((gt l_ (0 : Int) dI4).2.2.1)))
def ref03_made_j8_p (n_ : Node) (l_ : (List I4)) : Int := ref03_made_j8_q n_ l_ (fun y => y)
theorem ref03_made_j8_n {β : Type} (n_ : Node) (l_ : (List I4)) (K : Int → β) : ref03_made_j8_q n_ l_ K = K (ref03_made_j8_p n_ l_) := (bif_k K rfl rfl)
theorem ref03_made_j8 {α : Type} (n_ : Node) (l_ : (List I4)) (k : Kont α) : R52 (bodyOf C52.r.r.l.r).r.t.r.l ⟨[(2, .one (.cell (tsNode.leaves n_))), (4, .one (.ref 0 0)), (5, .one (.ref 1 0)), (6, ri ((gt l_ (0 : Int) dI4).2.2.1))], [[di (0 : Int), di (0 : Int), di (0 : Int)], [di ((gt l_ (0 : Int) dI4).1), di ((gt l_ (0 : Int) dI4).2.1), di ((gt l_ (0 : Int) dI4).2.2.1)]], [], 117⟩ (Q52 (bodyOf C52.r.r.l.r).r.t.r.r k) = R52 (bodyOf C52.r.r.l.r).r.t.r.r ⟨[(2, .one (.cell (tsNode.leaves n_))), (4, .one (.ref 0 0)), (5, .one (.ref 1 0)), (6, ri (ref03_made_j8_p n_ l_))], [[di (0 : Int), di (0 : Int), di (0 : Int)], [di ((gt l_ (0 : Int) dI4).1), di ((gt l_ (0 : Int) dI4).2.1), di ((gt l_ (0 : Int) dI4).2.2.1)]], [], 117⟩ k := by
  refine Eq.trans ?_ (ref03_made_j8_n n_ l_ (fun y505 : Int => R52 (bodyOf C52.r.r.l.r).r.t.r.r ⟨[(2, .one (.cell (tsNode.leaves n_))), (4, .one (.ref 0 0)), (5, .one (.ref 1 0)), (6, ri y505)], [[di (0 : Int), di (0 : Int), di (0 : Int)], [di ((gt l_ (0 : Int) dI4).1), di ((gt l_ (0 : Int) dI4).2.1), di ((gt l_ (0 : Int) dI4).2.2.1)]], [], 117⟩ k))
  unfold ref03_made_j8_q
  refine (pre (n := 1) (c' := (bodyOf C52.r.r.l.r).r.t.r.l.r) (by kernel_rfl) (by kernel_rfl) (ref03_made_f1000009 n_ l_ _)).trans ?_
  refine (cond_eq (b := (n_.1 == (1 : Int))) (st' := ⟨[(2, .one (.cell (tsNode.leaves n_))), (4, .one (.ref 0 0)), (5, .one (.ref 1 0)), (6, ri ((gt l_ (0 : Int) dI4).2.2.1))], [[di (0 : Int), di (0 : Int), di (0 : Int)], [di ((gt l_ (0 : Int) dI4).1), di ((gt l_ (0 : Int) dI4).2.1), di ((gt l_ (0 : Int) dI4).2.2.1)]], [], 117⟩) (by kernel_rfl) (by kernel_rfl) (by kernel_rfl)).trans (bif_g ?_ ?_)
  · refine (ref03_made_r9 n_ l_ _).trans ?_
    refine (seqC_normal (st' := ⟨[(2, .one (.cell (tsNode.leaves n_))), (4, .one (.ref 0 0)), (5, .one (.ref 1 0)), (6, ri n_.2.2.2.2.2.1)], [[di (0 : Int), di (0 : Int), di (0 : Int)], [di ((gt l_ (0 : Int) dI4).1), di ((gt l_ (0 : Int) dI4).2.1), di ((gt l_ (0 : Int) dI4).2.2.1)]], [], 117⟩) (by kernel_rfl)).trans ?_
    kernel_rfl
  · refine (skip_eq (by kernel_rfl)).trans ?_
    refine (seqC_normal (st' := ⟨[(2, .one (.cell (tsNode.leaves n_))), (4, .one (.ref 0 0)), (5, .one (.ref 1 0)), (6, ri ((gt l_ (0 : Int) dI4).2.2.1))], [[di (0 : Int), di (0 : Int), di (0 : Int)], [di ((gt l_ (0 : Int) dI4).1), di ((gt l_ (0 : Int) dI4).2.1), di ((gt l_ (0 : Int) dI4).2.2.1)]], [], 117⟩) (by kernel_rfl)).trans ?_
    kernel_rfl
def ref03_made_r10_q {β : Type} (n_ : Node) (l_ : (List I4)) (K : (Int × Int) → Option β) : Option β := (Option.bind (ref02_Out ((gt l_ (0 : Int) dI4).1) n_.2.2.1 n_.2.2.2.1 n_.2.2.2.2.1) (fun y518 : Int => (Option.bind (ref02_Out ((gt l_ (0 : Int) dI4).2.1) n_.2.2.1 n_.2.2.2.1 n_.2.2.2.2.1) (fun y519 : Int => (K (y518, y519))))))
def ref03_made_r10_p (n_ : Node) (l_ : (List I4)) : Option ((Int × Int)) := ref03_made_r10_q n_ l_ some
theorem ref03_made_r10_n {β : Type} (n_ : Node) (l_ : (List I4)) (K : (Int × Int) → Option β) : ref03_made_r10_q n_ l_ K = (ref03_made_r10_p n_ l_).bind K := (bind_b fun y518 => (bind_b fun y519 => some_b))
theorem ref03_made_r10 {α : Type} (n_ : Node) (l_ : (List I4)) (k : St → Option α) : P52 1 (bodyOf C52.r.r.l.r).r.t.r.r ⟨[(2, .one (.cell (tsNode.leaves n_))), (4, .one (.ref 0 0)), (5, .one (.ref 1 0)), (6, ri (ref03_made_j8_p n_ l_))], [[di (0 : Int), di (0 : Int), di (0 : Int)], [di ((gt l_ (0 : Int) dI4).1), di ((gt l_ (0 : Int) dI4).2.1), di ((gt l_ (0 : Int) dI4).2.2.1)]], [], 117⟩ k = Option.bind (ref03_made_r10_p n_ l_) (fun y520 : (Int × Int) => k ⟨[(4, .one (.ref 0 0))], [[di y520.1, di y520.2, di (ref03_made_j8_p n_ l_)], []], [], 117⟩) := Eq.trans (by kernel_rfl) (ref03_made_r10_n n_ l_ _)
theorem ref03_made_f1000012 {α : Type} (n_ : Node) (l_ : (List I4)) (k : St → Option α) : P52 1 (bodyOf C52.r.r.l.r).r.e ⟨[(1, rl tsI4 l_), (2, .one (.cell (tsNode.leaves n_))), (4, .one (.ref 0 0)), (5, .one (.ref 1 0)), (12, ri n_.1), (13, rb (ref03_made_j3_p n_))], [[di (0 : Int), di (0 : Int), di (0 : Int)], [di ((gt l_ (0 : Int) dI4).1), di ((gt l_ (0 : Int) dI4).2.1), di ((gt l_ (0 : Int) dI4).2.2.1)]], [], 117⟩ k = k ⟨[(1, rl tsI4 l_), (2, .one (.cell (tsNode.leaves n_))), (4, .one (.ref 0 0)), (5, .one (.ref 1 0)), (12, ri n_.1), (45, rb (n_.1 == (3 : Int)))], [[di (0 : Int), di (0 : Int), di (0 : Int)], [di ((gt l_ (0 : Int) dI4).1), di ((gt l_ (0 : Int) dI4).2.1), di ((gt l_ (0 : Int) dI4).2.2.1)]], [], 117⟩ := by kernel_rfl
theorem ref03_made_fz {α : Type} (n_ : Node) (l_ : (List I4)) (k : St → Option α) : P52 1 (bodyOf C52.r.r.l.r).r.e.r.t ⟨[(1, rl tsI4 l_), (2, .one (.cell (tsNode.leaves n_))), (4, .one (.ref 0 0)), (5, .one (.ref 1 0)), (12, ri n_.1)], [[di (0 : Int), di (0 : Int), di (0 : Int)], [di ((gt l_ (0 : Int) dI4).1), di ((gt l_ (0 : Int) dI4).2.1), di ((gt l_ (0 : Int) dI4).2.2.1)]], [], 117⟩ k = k ⟨[(4, .one (.ref 0 0))], [[di (1 : Int), di (1 : Int), di n_.2.2.2.2.2.1], []], [], 117⟩ := by kernel_rfl
theorem ref03_made_f2000014 {α : Type} (n_ : Node) (l_ : (List I4)) (k : St → Option α) : P52 1 (bodyOf C52.r.r.l.r).r.e.r.e.l ⟨[(1, rl tsI4 l_), (2, .one (.cell (tsNode.leaves n_))), (4, .one (.ref 0 0)), (5, .one (.ref 1 0)), (12, ri n_.1)], [[di (0 : Int), di (0 : Int), di (0 : Int)], [di ((gt l_ (0 : Int) dI4).1), di ((gt l_ (0 : Int) dI4).2.1), di ((gt l_ (0 : Int) dI4).2.2.1)]], [], 117⟩ k = k ⟨[(1, rl tsI4 l_), (2, .one (.cell (tsNode.leaves n_))), (4, .one (.ref 0 0)), (5, .one (.ref 1 0)), (12, ri n_.1), (50, rb (n_.1 == (6 : Int)))], [[di (0 : Int), di (0 : Int), di (0 : Int)], [di ((gt l_ (0 : Int) dI4).1), di ((gt l_ (0 : Int) dI4).2.1), di ((gt l_ (0 : Int) dI4).2.2.1)]], [], 117⟩ := by kernel_rfl
theorem ref03_made_r14 {α : Type} (n_ : Node) (l_ : (List I4)) (k : Kont α) : R52 (bodyOf C52.r.r.l.r).r.e.r.e.l.r.e ⟨[(1, rl tsI4 l_), (2, .one (.cell (tsNode.leaves n_))), (4, .one (.ref 0 0)), (5, .one (.ref 1 0)), (12, ri n_.1), (50, rb (n_.1 == (6 : Int)))], [[di (0 : Int), di (0 : Int), di (0 : Int)], [di ((gt l_ (0 : Int) dI4).1), di ((gt l_ (0 : Int) dI4).2.1), di ((gt l_ (0 : Int) dI4).2.2.1)]], [], 117⟩ k = k .normal ⟨[(1, rl tsI4 l_), (2, .one (.cell (tsNode.leaves n_))), (4, .one (.ref 0 0)), (5, .one (.ref 1 0)), (12, ri n_.1), (50, rb (n_.1 == (7 : Int)))], [[di (0 : Int), di (0 : Int), di (0 : Int)], [di ((gt l_ (0 : Int) dI4).1), di ((gt l_ (0 : Int) dI4).2.1), di ((gt l_ (0 : Int) dI4).2.2.1)]], [], 117⟩ := by kernel_rfl
def ref03_made_j13_q {β : Type} (n_ : Node) (K : Bool → β) : β := (bif (n_.1 == (6 : Int)) then (K (n_.1 == (6 : Int))) else (K (n_.1 == (7 : Int))))
def ref03_made_j13_p (n_ : Node) : Bool := ref03_made_j13_q n_ (fun y => y)
theorem ref03_made_j13_n {β : Type} (n_ : Node) (K : Bool → β) : ref03_made_j13_q n_ K = K (ref03_made_j13_p n_) := (bif_k K rfl rfl)
theorem ref03_made_j13 {α : Type} (n_ : Node) (l_ : (List I4)) (k : Kont α) : R52 (bodyOf C52.r.r.l.r).r.e.r.e.l ⟨[(1, rl tsI4 l_), (2, .one (.cell (tsNode.leaves n_))), (4, .one (.ref 0 0)), (5, .one (.ref 1 0)), (12, ri n_.1)], [[di (0 : Int), di (0 : Int), di (0 : Int)], [di ((gt l_ (0 : Int) dI4).1), di ((gt l_ (0 : Int) dI4).2.1), di ((gt l_ (0 : Int) dI4).2.2.1)]], [], 117⟩ (Q52 (bodyOf C52.r.r.l.r).r.e.r.e.r k) = R52 (bodyOf C52.r.r.l.r).r.e.r.e.r ⟨[(1, rl tsI4 l_), (2, .one (.cell (tsNode.leaves n_))), (4, .one (.ref 0 0)), (5, .one (.ref 1 0)), (12, ri n_.1), (50, rb (ref03_made_j13_p n_))], [[di (0 : Int), di (0 : Int), di (0 : Int)], [di ((gt l_ (0 : Int) dI4).1), di ((gt l_ (0 : Int) dI4).2.1), di ((gt l_ (0 : Int) dI4).2.2.1)]], [], 117⟩ k := by
  refine Eq.trans ?_ (ref03_made_j13_n n_ (fun y521 : Bool => R52 (bodyOf C52.r.r.l.r).r.e.r.e.r ⟨[(1, rl tsI4 l_), (2, .one (.cell (tsNode.leaves n_))), (4, .one (.ref 0 0)), (5, .one (.ref 1 0)), (12, ri n_.1), (50, rb y521)], [[di (0 : Int), di (0 : Int), di (0 : Int)], [di ((gt l_ (0 : Int) dI4).1), di ((gt l_ (0 : Int) dI4).2.1), di ((gt l_ (0 : Int) dI4).2.2.1)]], [], 117⟩ k))
  unfold ref03_made_j13_q
  refine (pre (n := 1) (c' := (bodyOf C52.r.r.l.r).r.e.r.e.l.r) (by kernel_rfl) (by kernel_rfl) (ref03_made_f2000014 n_ l_ _)).trans ?_
  refine (cond_s (b := (n_.1 == (6 : Int))) (by kernel_rfl) (by kernel_rfl) (by kernel_rfl)).trans (bif_g ?_ ?_)
  · refine (skip_eq (by kernel_rfl)).trans ?_
    refine (seqC_normal (st' := ⟨[(1, rl tsI4 l_), (2, .one (.cell (tsNode.leaves n_))), (4, .one (.ref 0 0)), (5, .one (.ref 1 0)), (12, ri n_.1), (50, rb (n_.1 == (6 : Int)))], [[di (0 : Int), di (0 : Int), di (0 : Int)], [di ((gt l_ (0 : Int) dI4).1), di ((gt l_ (0 : Int) dI4).2.1), di ((gt l_ (0 : Int) dI4).2.2.1)]], [], 117⟩) (by kernel_rfl)).trans ?_
    kernel_rfl
  · refine (ref03_made_r14 n_ l_ _).trans ?_
    refine (seqC_normal (st' := ⟨[(1, rl tsI4 l_), (2, .one (.cell (tsNode.leaves n_))), (4, .one (.ref 0 0)), (5, .one (.ref 1 0)), (12, ri n_.1), (50, rb (n_.1 == (7 : Int)))], [[di (0 : Int), di (0 : Int), di (0 : Int)], [di ((gt l_ (0 : Int) dI4).1), di ((gt l_ (0 : Int) dI4).2.1), di ((gt l_ (0 : Int) dI4).2.2.1)]], [], 117⟩) (by kernel_rfl)).trans ?_
    kernel_rfl
def ref03_made_r15_q {β : Type} (l_ : (List I4)) (K : Bool → Option β) : Option β := (bif (decide ((1 : Int) < (l_.length : Int))) then (K (!((((gt l_ (1 : Int) dI4).1) == ((gt l_ (0 : Int) dI4).1)) && ((((gt l_ (1 : Int) dI4).2.1) == ((gt l_ (0 : Int) dI4).2.1)) && ((((gt l_ (1 : Int) dI4).2.2.1) == ((gt l_ (0 : Int) dI4).2.2.1)) && true))))) else none)
def ref03_made_r15_p (l_ : (List I4)) : Option (Bool) := ref03_made_r15_q l_ some
theorem ref03_made_r15_n {β : Type} (l_ : (List I4)) (K : Bool → Option β) : ref03_made_r15_q l_ K = (ref03_made_r15_p l_).bind K := (bif_b some_b none_b)
theorem ref03_made_r15 {α : Type} (n_ : Node) (l_ : (List I4)) (k : St → Option α) : P52 1 (bodyOf C52.r.r.l.r).r.e.r.e.r.t ⟨[(1, rl tsI4 l_), (2, .one (.cell (tsNode.leaves n_))), (4, .one (.ref 0 0)), (5, .one (.ref 1 0)), (12, ri n_.1), (50, rb (ref03_made_j13_p n_))], [[di (0 : Int), di (0 : Int), di (0 : Int)], [di ((gt l_ (0 : Int) dI4).1), di ((gt l_ (0 : Int) dI4).2.1), di ((gt l_ (0 : Int) dI4).2.2.1)]], [], 117⟩ k = Option.bind (ref03_made_r15_p l_) (fun y522 : Bool => k ⟨[(4, .one (.ref 0 0)), (5, .one (.ref 1 0)), (58, rb y522)], [[di (0 : Int), di (0 : Int), di (0 : Int)], [di ((gt l_ (0 : Int) dI4).1), di ((gt l_ (0 : Int) dI4).2.1), di ((gt l_ (0 : Int) dI4).2.2.1)]], [], 117⟩) := Eq.trans (by kernel_rfl) (ref03_made_r15_n l_ _)
theorem ref03_made_fzx1 {α : Type} (l_ : (List I4)) (k : St → Option α) : P52 1 (bodyOf C52.r.r.l.r).r.e.r.e.r.t.r.t ⟨[(4, .one (.ref 0 0)), (5, .one (.ref 1 0))], [[di (0 : Int), di (0 : Int), di (0 : Int)], [di ((gt l_ (0 : Int) dI4).1), di ((gt l_ (0 : Int) dI4).2.1), di ((gt l_ (0 : Int) dI4).2.2.1)]], [], 117⟩ k = k ⟨[(4, .one (.ref 0 0))], [[di (0 : Int), di (0 : Int), di (0 : Int)], []], [], 117⟩ := by kernel_rfl
theorem ref03_made_f1000018 {α : Type} (n_ : Node) (l_ : (List I4)) (k : St → Option α) : P52 1 (bodyOf C52.r.r.l.r).r.e.r.e.r.e ⟨[(1, rl tsI4 l_), (2, .one (.cell (tsNode.leaves n_))), (4, .one (.ref 0 0)), (5, .one (.ref 1 0)), (12, ri n_.1), (50, rb (ref03_made_j13_p n_))], [[di (0 : Int), di (0 : Int), di (0 : Int)], [di ((gt l_ (0 : Int) dI4).1), di ((gt l_ (0 : Int) dI4).2.1), di ((gt l_ (0 : Int) dI4).2.2.1)]], [], 117⟩ k = k ⟨[(1, rl tsI4 l_), (2, .one (.cell (tsNode.leaves n_))), (4, .one (.ref 0 0)), (5, .one (.ref 1 0)), (12, ri n_.1), (60, rb (n_.1 == (9 : Int)))], [[di (0 : Int), di (0 : Int), di (0 : Int)], [di ((gt l_ (0 : Int) dI4).1), di ((gt l_ (0 : Int) dI4).2.1), di ((gt l_ (0 : Int) dI4).2.2.1)]], [], 117⟩ := by kernel_rfl
theorem ref03_made_fzx2 {α : Type} (n_ : Node) (l_ : (List I4)) (k : St → Option α) : P52 1 (bodyOf C52.r.r.l.r).r.e.r.e.r.e.r.t ⟨[(1, rl tsI4 l_), (2, .one (.cell (tsNode.leaves n_))), (4, .one (.ref 0 0)), (5, .one (.ref 1 0)), (12, ri n_.1)], [[di (0 : Int), di (0 : Int), di (0 : Int)], [di ((gt l_ (0 : Int) dI4).1), di ((gt l_ (0 : Int) dI4).2.1), di ((gt l_ (0 : Int) dI4).2.2.1)]], [], 117⟩ k = k ⟨[(4, .one (.ref 0 0))], [[di (IntKind.wrap .i64 (((gt l_ (0 : Int) dI4).1) + (2 : Int))), di (IntKind.wrap .i64 (((gt l_ (0 : Int) dI4).2.1) + (2 : Int))), di ((gt l_ (0 : Int) dI4).2.2.1)], []], [], 117⟩ := by kernel_rfl
theorem ref03_made_f1000020 {α : Type} (n_ : Node) (l_ : (List I4)) (k : St → Option α) : P52 1 (bodyOf C52.r.r.l.r).r.e.r.e.r.e.r.e ⟨[(1, rl tsI4 l_), (2, .one (.cell (tsNode.leaves n_))), (4, .one (.ref 0 0)), (5, .one (.ref 1 0)), (12, ri n_.1)], [[di (0 : Int), di (0 : Int), di (0 : Int)], [di ((gt l_ (0 : Int) dI4).1), di ((gt l_ (0 : Int) dI4).2.1), di ((gt l_ (0 : Int) dI4).2.2.1)]], [], 117⟩ k = k ⟨[(1, rl tsI4 l_), (2, .one (.cell (tsNode.leaves n_))), (4, .one (.ref 0 0)), (5, .one (.ref 1 0)), (12, ri n_.1), (71, rb (n_.1 == (10 : Int)))], [[di (0 : Int), di (0 : Int), di (0 : Int)], [di ((gt l_ (0 : Int) dI4).1), di ((gt l_ (0 : Int) dI4).2.1), di ((gt l_ (0 : Int) dI4).2.2.1)]], [], 117⟩ := by kernel_rfl
def ref03_made_r20_q {β : Type} (l_ : (List I4)) (K : Bool → Option β) : Option β := (bif (decide ((1 : Int) < (l_.length : Int))) then (bif (((gt l_ (1 : Int) dI4).1) != ((gt l_ (0 : Int) dI4).1)) then (K true) else (bif (decide ((1 : Int) < (l_.length : Int))) then (K (((gt l_ (1 : Int) dI4).2.1) != ((gt l_ (0 : Int) dI4).2.1))) else none)) else none)
def ref03_made_r20_p (l_ : (List I4)) : Option (Bool) := ref03_made_r20_q l_ some
theorem ref03_made_r20_n {β : Type} (l_ : (List I4)) (K : Bool → Option β) : ref03_made_r20_q l_ K = (ref03_made_r20_p l_).bind K := (bif_b (bif_b some_b (bif_b some_b none_b)) none_b)
theorem ref03_made_r20 {α : Type} (n_ : Node) (l_ : (List I4)) (k : St → Option α) : P52 1 (bodyOf C52.r.r.l.r).r.e.r.e.r.e.r.e.r.t.l ⟨[(1, rl tsI4 l_), (2, .one (.cell (tsNode.leaves n_))), (4, .one (.ref 0 0)), (5, .one (.ref 1 0)), (12, ri n_.1)], [[di (0 : Int), di (0 : Int), di (0 : Int)], [di ((gt l_ (0 : Int) dI4).1), di ((gt l_ (0 : Int) dI4).2.1), di ((gt l_ (0 : Int) dI4).2.2.1)]], [], 117⟩ k = Option.bind (ref03_made_r20_p l_) (fun y524 : Bool => k ⟨[(1, rl tsI4 l_), (4, .one (.ref 0 0)), (5, .one (.ref 1 0)), (90, rb y524)], [[di (0 : Int), di (0 : Int), di (0 : Int)], [di ((gt l_ (0 : Int) dI4).1), di ((gt l_ (0 : Int) dI4).2.1), di ((gt l_ (0 : Int) dI4).2.2.1)]], [], 117⟩) := Eq.trans (by kernel_rfl) (ref03_made_r20_n l_ _)
theorem ref03_made_fzx3 {α : Type} (l_ : (List I4)) (k : St → Option α) : P52 1 (bodyOf C52.r.r.l.r).r.e.r.e.r.e.r.e.r.t.l.r.t ⟨[(1, rl tsI4 l_), (4, .one (.ref 0 0)), (5, .one (.ref 1 0))], [[di (0 : Int), di (0 : Int), di (0 : Int)], [di ((gt l_ (0 : Int) dI4).1), di ((gt l_ (0 : Int) dI4).2.1), di ((gt l_ (0 : Int) dI4).2.2.1)]], [], 117⟩ k = k ⟨[(4, .one (.ref 0 0))], [[di (0 : Int), di (0 : Int), di (0 : Int)], []], [], 117⟩ := by kernel_rfl
def ref03_made_r22_q {β : Type} (l_ : (List I4)) (K : Unit → Option β) : Option β := (bif (decide ((1 : Int) < (l_.length : Int))) then (K ()) else none)
def ref03_made_r22_p (l_ : (List I4)) : Option (Unit) := ref03_made_r22_q l_ some
theorem ref03_made_r22_n {β : Type} (l_ : (List I4)) (K : Unit → Option β) : ref03_made_r22_q l_ K = (ref03_made_r22_p l_).bind K := (bif_b some_b none_b)
theorem ref03_made_r22 {α : Type} (l_ : (List I4)) (k : St → Option α) : P52 1 (bodyOf C52.r.r.l.r).r.e.r.e.r.e.r.e.r.t.r ⟨[(1, rl tsI4 l_), (4, .one (.ref 0 0)), (5, .one (.ref 1 0))], [[di (0 : Int), di (0 : Int), di (0 : Int)], [di ((gt l_ (0 : Int) dI4).1), di ((gt l_ (0 : Int) dI4).2.1), di ((gt l_ (0 : Int) dI4).2.2.1)]], [], 117⟩ k = Option.bind (ref03_made_r22_p l_) (fun y525 : Unit => k ⟨[(4, .one (.ref 0 0))], [[di ((gt l_ (0 : Int) dI4).1), di ((gt l_ (0 : Int) dI4).2.1), di (IntKind.wrap .i64 (((gt l_ (0 : Int) dI4).2.2.1) + ((gt l_ (1 : Int) dI4).2.2.1)))], []], [], 117⟩) := Eq.trans (by kernel_rfl) (ref03_made_r22_n l_ _)
theorem ref03_made_f1000024 {α : Type} (n_ : Node) (l_ : (List I4)) (k : St → Option α) : P52 1 (bodyOf C52.r.r.l.r).r.e.r.e.r.e.r.e.r.e ⟨[(1, rl tsI4 l_), (2, .one (.cell (tsNode.leaves n_))), (4, .one (.ref 0 0)), (5, .one (.ref 1 0)), (12, ri n_.1)], [[di (0 : Int), di (0 : Int), di (0 : Int)], [di ((gt l_ (0 : Int) dI4).1), di ((gt l_ (0 : Int) dI4).2.1), di ((gt l_ (0 : Int) dI4).2.2.1)]], [], 117⟩ k = k ⟨[(2, .one (.cell (tsNode.leaves n_))), (4, .one (.ref 0 0)), (5, .one (.ref 1 0)), (105, rb (n_.1 == (11 : Int)))], [[di (0 : Int), di (0 : Int), di (0 : Int)], [di ((gt l_ (0 : Int) dI4).1), di ((gt l_ (0 : Int) dI4).2.1), di ((gt l_ (0 : Int) dI4).2.2.1)]], [], 117⟩ := by kernel_rfl
def ref03_made_r24_q {β : Type} (n_ : Node) (l_ : (List I4)) (K : Bool → β) : β := (K ((ref02_Size (n_.2.2.2.2.2.2.2.2.2.1, n_.2.2.2.2.2.2.2.2.2.2.1, n_.2.2.2.2.2.2.2.2.2.2.2.1)) != (ref02_Size ((gt l_ (0 : Int) dI4).1, (gt l_ (0 : Int) dI4).2.1, (gt l_ (0 : Int) dI4).2.2.1))))
def ref03_made_r24_p (n_ : Node) (l_ : (List I4)) : Bool := ref03_made_r24_q n_ l_ (fun y => y)
theorem ref03_made_r24_n {β : Type} (n_ : Node) (l_ : (List I4)) (K : Bool → β) : ref03_made_r24_q n_ l_ K = K (ref03_made_r24_p n_ l_) := rfl
theorem ref03_made_r24 {α : Type} (n_ : Node) (l_ : (List I4)) (k : St → Option α) : P52 1 (bodyOf C52.r.r.l.r).r.e.r.e.r.e.r.e.r.e.r.t.l ⟨[(2, .one (.cell (tsNode.leaves n_))), (4, .one (.ref 0 0)), (5, .one (.ref 1 0))], [[di (0 : Int), di (0 : Int), di (0 : Int)], [di ((gt l_ (0 : Int) dI4).1), di ((gt l_ (0 : Int) dI4).2.1), di ((gt l_ (0 : Int) dI4).2.2.1)]], [], 117⟩ k = k ⟨[(2, .one (.cell (tsNode.leaves n_))), (4, .one (.ref 0 0)), (112, rb (ref03_made_r24_p n_ l_))], [[di (0 : Int), di (0 : Int), di (0 : Int)], []], [], 117⟩ := Eq.trans (by kernel_rfl) (ref03_made_r24_n n_ l_ (fun y527 : Bool => k ⟨[(2, .one (.cell (tsNode.leaves n_))), (4, .one (.ref 0 0)), (112, rb y527)], [[di (0 : Int), di (0 : Int), di (0 : Int)], []], [], 117⟩))
theorem ref03_made_fzx4 {α : Type} (n_ : Node) (k : St → Option α) : P52 1 (bodyOf C52.r.r.l.r).r.e.r.e.r.e.r.e.r.e.r.t.l.r.t ⟨[(2, .one (.cell (tsNode.leaves n_))), (4, .one (.ref 0 0))], [[di (0 : Int), di (0 : Int), di (0 : Int)], []], [], 117⟩ k = k ⟨[(4, .one (.ref 0 0))], [[di (0 : Int), di (0 : Int), di (0 : Int)], []], [], 117⟩ := by kernel_rfl
theorem ref03_made_fzx5 {α : Type} (n_ : Node) (k : St → Option α) : P52 1 (bodyOf C52.r.r.l.r).r.e.r.e.r.e.r.e.r.e.r.t.r ⟨[(2, .one (.cell (tsNode.leaves n_))), (4, .one (.ref 0 0))], [[di (0 : Int), di (0 : Int), di (0 : Int)], []], [], 117⟩ k = k ⟨[(4, .one (.ref 0 0))], [[di n_.2.2.2.2.2.2.2.2.2.1, di n_.2.2.2.2.2.2.2.2.2.2.1, di n_.2.2.2.2.2.2.2.2.2.2.2.1], []], [], 117⟩ := by kernel_rfl
def ref03_made_j2_q {β : Type} (n_ : Node) (l_ : (List I4)) (K0 : Unit → Option β) (K1 : (Int × Int × Int) → Option β) : Option β := (bif (ref03_made_j3_p n_) then (Option.bind (ref03_made_r10_p n_ l_) (fun y520 : (Int × Int) => (K1 (y520.1, y520.2, (ref03_made_j8_p n_ l_))))) else (bif (n_.1 == (3 : Int)) then (K1 ((1 : Int), (1 : Int), n_.2.2.2.2.2.1)) else (bif (ref03_made_j13_p n_) then (Option.bind (ref03_made_r15_p l_) (fun y522 : Bool => (bif y522 then (K1 ((0 : Int), (0 : Int), (0 : Int))) else (K0 ())))) else (bif (n_.1 == (9 : Int)) then (K1 ((IntKind.wrap .i64 (((gt l_ (0 : Int) dI4).1) + (2 : Int))), (IntKind.wrap .i64 (((gt l_ (0 : Int) dI4).2.1) + (2 : Int))), (gt l_ (0 : Int) dI4).2.2.1)) else (bif (n_.1 == (10 : Int)) then (Option.bind (ref03_made_r20_p l_) (fun y524 : Bool => (bif y524 then (K1 ((0 : Int), (0 : Int), (0 : Int))) else (Option.bind (ref03_made_r22_p l_) (fun y525 : Unit => (K1 ((gt l_ (0 : Int) dI4).1, (gt l_ (0 : Int) dI4).2.1, (IntKind.wrap .i64 (((gt l_ (0 : Int) dI4).2.2.1) + ((gt l_ (1 : Int) dI4).2.2.1)))))))))) else (bif (n_.1 == (11 : Int)) then (bif (ref03_made_r24_p n_ l_) then (K1 ((0 : Int), (0 : Int), (0 : Int))) else (K1 (n_.2.2.2.2.2.2.2.2.2.1, n_.2.2.2.2.2.2.2.2.2.2.1, n_.2.2.2.2.2.2.2.2.2.2.2.1))) else (K0 ())))))))
def ref03_made_j2_p (n_ : Node) (l_ : (List I4)) : Option (Unit ⊕ (Int × Int × Int)) := ref03_made_j2_q n_ l_ (fun y => some (Sum.inl y)) (fun y => some (Sum.inr y))
theorem ref03_made_j2_n {β : Type} (n_ : Node) (l_ : (List I4)) (K0 : Unit → Option β) (K1 : (Int × Int × Int) → Option β) : ref03_made_j2_q n_ l_ K0 K1 = (ref03_made_j2_p n_ l_).bind (either K0 K1) := (bif_b (bind_b fun y520 => e2_1) (bif_b e2_1 (bif_b (bind_b fun y522 => (bif_b e2_1 e2_0)) (bif_b e2_1 (bif_b (bind_b fun y524 => (bif_b e2_1 (bind_b fun y525 => e2_1))) (bif_b (bif_b e2_1 e2_1) e2_0))))))
theorem ref03_made_j2 {α : Type} (n_ : Node) (l_ : (List I4)) (k : Kont α) : R52 C52.r.r.l ⟨[(1, rl tsI4 l_), (2, .one (.cell (tsNode.leaves n_))), (4, .one (.ref 0 0)), (5, .one (.ref 1 0))], [[di (0 : Int), di (0 : Int), di (0 : Int)], [di ((gt l_ (0 : Int) dI4).1), di ((gt l_ (0 : Int) dI4).2.1), di ((gt l_ (0 : Int) dI4).2.2.1)]], [], 117⟩ (Q52 C52.r.r.r k) = Option.bind (ref03_made_j2_p n_ l_) (either (fun y528 : Unit => R52 C52.r.r.r ⟨[(4, .one (.ref 0 0)), (5, .one (.ref 1 0))], [[di (0 : Int), di (0 : Int), di (0 : Int)], [di ((gt l_ (0 : Int) dI4).1), di ((gt l_ (0 : Int) dI4).2.1), di ((gt l_ (0 : Int) dI4).2.2.1)]], [], 117⟩ k) (fun y529 : (Int × Int × Int) => k .ret ⟨[(4, .one (.ref 0 0))], [(tsI3.leaves y529), []], [], 117⟩)) := by
  refine Eq.trans ?_ (ref03_made_j2_n n_ l_ _ _)
  unfold ref03_made_j2_q
  refine (pre (n := 1) (c' := C52.r.r.l.r) (by kernel_rfl) (by kernel_rfl) (ref03_made_f3 n_ l_ _)).trans ?_
  refine (block_push (id := 0) (by kernel_rfl)).trans ?_
  refine (seq_push (by kernel_rfl)).trans ?_
  refine (ref03_made_j3 n_ l_ _).trans ?_
  refine (cond_s (b := (ref03_made_j3_p n_)) (by kernel_rfl) (by kernel_rfl) (by kernel_rfl)).trans (bif_g ?_ ?_)
  · refine (pre (n := 1) (c' := (bodyOf C52.r.r.l.r).r.t.r) (by kernel_rfl) (by kernel_rfl) (ref03_made_f8 n_ l_ _)).trans ?_
    refine (seq_push (by kernel_rfl)).trans ?_
    refine (ref03_made_j8 n_ l_ _).trans ?_
    refine (pre (n := 1) (c' := (bodyOf C52.r.r.l.r).r.t.r.r.r) (by kernel_rfl) (by kernel_rfl) (ref03_made_r10 n_ l_ _)).trans (bind_g fun y520 => ?_)
    refine (ret_eq (by kernel_rfl)).trans ?_
    refine block_ret.trans ?_
    refine seqC_ret.trans ?_
    kernel_rfl
  · refine (pre (n := 1) (c' := (bodyOf C52.r.r.l.r).r.e.r) (by kernel_rfl) (by kernel_rfl) (ref03_made_f1000012 n_ l_ _)).trans ?_
    refine (cond_eq (b := (n_.1 == (3 : Int))) (st' := ⟨[(1, rl tsI4 l_), (2, .one (.cell (tsNode.leaves n_))), (4, .one (.ref 0 0)), (5, .one (.ref 1 0)), (12, ri n_.1)], [[di (0 : Int), di (0 : Int), di (0 : Int)], [di ((gt l_ (0 : Int) dI4).1), di ((gt l_ (0 : Int) dI4).2.1), di ((gt l_ (0 : Int) dI4).2.2.1)]], [], 117⟩) (by kernel_rfl) (by kernel_rfl) (by kernel_rfl)).trans (bif_g ?_ ?_)
    · refine (pre (n := 1) (c' := (bodyOf C52.r.r.l.r).r.e.r.t.r) (by kernel_rfl) (by kernel_rfl) (ref03_made_fz n_ l_ _)).trans ?_
      refine (ret_eq (by kernel_rfl)).trans ?_
      refine block_ret.trans ?_
      refine seqC_ret.trans ?_
      kernel_rfl
    · refine (seq_push (by kernel_rfl)).trans ?_
      refine (ref03_made_j13 n_ l_ _).trans ?_
      refine (cond_s (b := (ref03_made_j13_p n_)) (by kernel_rfl) (by kernel_rfl) (by kernel_rfl)).trans (bif_g ?_ ?_)
      · refine (pre (n := 1) (c' := (bodyOf C52.r.r.l.r).r.e.r.e.r.t.r) (by kernel_rfl) (by kernel_rfl) (ref03_made_r15 n_ l_ _)).trans (bind_g fun y522 => ?_)
        refine (cond_eq (b := y522) (st' := ⟨[(4, .one (.ref 0 0)), (5, .one (.ref 1 0))], [[di (0 : Int), di (0 : Int), di (0 : Int)], [di ((gt l_ (0 : Int) dI4).1), di ((gt l_ (0 : Int) dI4).2.1), di ((gt l_ (0 : Int) dI4).2.2.1)]], [], 117⟩) (by kernel_rfl) (by kernel_rfl) (by kernel_rfl)).trans (bif_g ?_ ?_)
        · refine (pre (n := 1) (c' := (bodyOf C52.r.r.l.r).r.e.r.e.r.t.r.t.r) (by kernel_rfl) (by kernel_rfl) (ref03_made_fzx1 l_ _)).trans ?_
          refine (ret_eq (by kernel_rfl)).trans ?_
          refine block_ret.trans ?_
          refine seqC_ret.trans ?_
          kernel_rfl
        · refine (skip_eq (by kernel_rfl)).trans ?_
          refine block_normal.trans ?_
          refine (seqC_normal (st' := ⟨[(4, .one (.ref 0 0)), (5, .one (.ref 1 0))], [[di (0 : Int), di (0 : Int), di (0 : Int)], [di ((gt l_ (0 : Int) dI4).1), di ((gt l_ (0 : Int) dI4).2.1), di ((gt l_ (0 : Int) dI4).2.2.1)]], [], 117⟩) (by kernel_rfl)).trans ?_
          kernel_rfl
      · refine (pre (n := 1) (c' := (bodyOf C52.r.r.l.r).r.e.r.e.r.e.r) (by kernel_rfl) (by kernel_rfl) (ref03_made_f1000018 n_ l_ _)).trans ?_
        refine (cond_eq (b := (n_.1 == (9 : Int))) (st' := ⟨[(1, rl tsI4 l_), (2, .one (.cell (tsNode.leaves n_))), (4, .one (.ref 0 0)), (5, .one (.ref 1 0)), (12, ri n_.1)], [[di (0 : Int), di (0 : Int), di (0 : Int)], [di ((gt l_ (0 : Int) dI4).1), di ((gt l_ (0 : Int) dI4).2.1), di ((gt l_ (0 : Int) dI4).2.2.1)]], [], 117⟩) (by kernel_rfl) (by kernel_rfl) (by kernel_rfl)).trans (bif_g ?_ ?_)
        · refine (pre (n := 1) (c' := (bodyOf C52.r.r.l.r).r.e.r.e.r.e.r.t.r) (by kernel_rfl) (by kernel_rfl) (ref03_made_fzx2 n_ l_ _)).trans ?_
          refine (ret_eq (by kernel_rfl)).trans ?_
          refine block_ret.trans ?_
          refine seqC_ret.trans ?_
          kernel_rfl
        · refine (pre (n := 1) (c' := (bodyOf C52.r.r.l.r).r.e.r.e.r.e.r.e.r) (by kernel_rfl) (by kernel_rfl) (ref03_made_f1000020 n_ l_ _)).trans ?_
          refine (cond_eq (b := (n_.1 == (10 : Int))) (st' := ⟨[(1, rl tsI4 l_), (2, .one (.cell (tsNode.leaves n_))), (4, .one (.ref 0 0)), (5, .one (.ref 1 0)), (12, ri n_.1)], [[di (0 : Int), di (0 : Int), di (0 : Int)], [di ((gt l_ (0 : Int) dI4).1), di ((gt l_ (0 : Int) dI4).2.1), di ((gt l_ (0 : Int) dI4).2.2.1)]], [], 117⟩) (by kernel_rfl) (by kernel_rfl) (by kernel_rfl)).trans (bif_g ?_ ?_)
          · refine (seq_push (by kernel_rfl)).trans ?_
            refine (pre (n := 1) (c' := (bodyOf C52.r.r.l.r).r.e.r.e.r.e.r.e.r.t.l.r) (by kernel_rfl) (by kernel_rfl) (ref03_made_r20 n_ l_ _)).trans (bind_g fun y524 => ?_)
            refine (cond_eq (b := y524) (st' := ⟨[(1, rl tsI4 l_), (4, .one (.ref 0 0)), (5, .one (.ref 1 0))], [[di (0 : Int), di (0 : Int), di (0 : Int)], [di ((gt l_ (0 : Int) dI4).1), di ((gt l_ (0 : Int) dI4).2.1), di ((gt l_ (0 : Int) dI4).2.2.1)]], [], 117⟩) (by kernel_rfl) (by kernel_rfl) (by kernel_rfl)).trans (bif_g ?_ ?_)
            · refine (pre (n := 1) (c' := (bodyOf C52.r.r.l.r).r.e.r.e.r.e.r.e.r.t.l.r.t.r) (by kernel_rfl) (by kernel_rfl) (ref03_made_fzx3 l_ _)).trans ?_
              refine (ret_eq (by kernel_rfl)).trans ?_
              refine seqC_ret.trans ?_
              refine block_ret.trans ?_
              refine seqC_ret.trans ?_
              kernel_rfl
            · refine (skip_eq (by kernel_rfl)).trans ?_
              refine (seqC_normal (st' := ⟨[(1, rl tsI4 l_), (4, .one (.ref 0 0)), (5, .one (.ref 1 0))], [[di (0 : Int), di (0 : Int), di (0 : Int)], [di ((gt l_ (0 : Int) dI4).1), di ((gt l_ (0 : Int) dI4).2.1), di ((gt l_ (0 : Int) dI4).2.2.1)]], [], 117⟩) (by kernel_rfl)).trans ?_
              refine (pre (n := 1) (c' := (bodyOf C52.r.r.l.r).r.e.r.e.r.e.r.e.r.t.r.r) (by kernel_rfl) (by kernel_rfl) (ref03_made_r22 l_ _)).trans (bind_g fun y525 => ?_)
              refine (ret_eq (by kernel_rfl)).trans ?_
              refine block_ret.trans ?_
              refine seqC_ret.trans ?_
              kernel_rfl
          · refine (pre (n := 1) (c' := (bodyOf C52.r.r.l.r).r.e.r.e.r.e.r.e.r.e.r) (by kernel_rfl) (by kernel_rfl) (ref03_made_f1000024 n_ l_ _)).trans ?_
            refine (cond_eq (b := (n_.1 == (11 : Int))) (st' := ⟨[(2, .one (.cell (tsNode.leaves n_))), (4, .one (.ref 0 0)), (5, .one (.ref 1 0))], [[di (0 : Int), di (0 : Int), di (0 : Int)], [di ((gt l_ (0 : Int) dI4).1), di ((gt l_ (0 : Int) dI4).2.1), di ((gt l_ (0 : Int) dI4).2.2.1)]], [], 117⟩) (by kernel_rfl) (by kernel_rfl) (by kernel_rfl)).trans (bif_g ?_ ?_)
            · refine (seq_push (by kernel_rfl)).trans ?_
              refine (pre (n := 1) (c' := (bodyOf C52.r.r.l.r).r.e.r.e.r.e.r.e.r.e.r.t.l.r) (by kernel_rfl) (by kernel_rfl) (ref03_made_r24 n_ l_ _)).trans ?_
              refine (cond_eq (b := (ref03_made_r24_p n_ l_)) (st' := ⟨[(2, .one (.cell (tsNode.leaves n_))), (4, .one (.ref 0 0))], [[di (0 : Int), di (0 : Int), di (0 : Int)], []], [], 117⟩) (by kernel_rfl) (by kernel_rfl) (by kernel_rfl)).trans (bif_g ?_ ?_)
              · refine (pre (n := 1) (c' := (bodyOf C52.r.r.l.r).r.e.r.e.r.e.r.e.r.e.r.t.l.r.t.r) (by kernel_rfl) (by kernel_rfl) (ref03_made_fzx4 n_ _)).trans ?_
                refine (ret_eq (by kernel_rfl)).trans ?_
                refine seqC_ret.trans ?_
                refine block_ret.trans ?_
                refine seqC_ret.trans ?_
                kernel_rfl
              · refine (skip_eq (by kernel_rfl)).trans ?_
                refine (seqC_normal (st' := ⟨[(2, .one (.cell (tsNode.leaves n_))), (4, .one (.ref 0 0))], [[di (0 : Int), di (0 : Int), di (0 : Int)], []], [], 117⟩) (by kernel_rfl)).trans ?_
                refine (pre (n := 1) (c' := (bodyOf C52.r.r.l.r).r.e.r.e.r.e.r.e.r.e.r.t.r.r) (by kernel_rfl) (by kernel_rfl) (ref03_made_fzx5 n_ _)).trans ?_
                refine (ret_eq (by kernel_rfl)).trans ?_
                refine block_ret.trans ?_
                refine seqC_ret.trans ?_
                kernel_rfl
            · refine (skip_eq (by kernel_rfl)).trans ?_
              refine block_normal.trans ?_
              refine (seqC_normal (st' := ⟨[(4, .one (.ref 0 0)), (5, .one (.ref 1 0))], [[di (0 : Int), di (0 : Int), di (0 : Int)], [di ((gt l_ (0 : Int) dI4).1), di ((gt l_ (0 : Int) dI4).2.1), di ((gt l_ (0 : Int) dI4).2.2.1)]], [], 117⟩) (by kernel_rfl)).trans ?_
              kernel_rfl
theorem ref03_made_fzx6 {α : Type} (l_ : (List I4)) (k : St → Option α) : P52 1 C52.r.r.r ⟨[(4, .one (.ref 0 0)), (5, .one (.ref 1 0))], [[di (0 : Int), di (0 : Int), di (0 : Int)], [di ((gt l_ (0 : Int) dI4).1), di ((gt l_ (0 : Int) dI4).2.1), di ((gt l_ (0 : Int) dI4).2.2.1)]], [], 117⟩ k = k ⟨[(4, .one (.ref 0 0))], [[di ((gt l_ (0 : Int) dI4).1), di ((gt l_ (0 : Int) dI4).2.1), di ((gt l_ (0 : Int) dI4).2.2.1)], []], [], 117⟩ := by kernel_rfl
/-- quilt/quiltref03.made -/
def ref03_made_q {β : Type} (n_ : Node) (l_ : (List I4)) (K : I3 → Option β) : Option β := (Option.bind (ref03_made_r1_p l_) (fun y503 : Unit => (Option.bind (ref03_made_j2_p n_ l_) (either (fun y528 : Unit => (K ((gt l_ (0 : Int) dI4).1, (gt l_ (0 : Int) dI4).2.1, (gt l_ (0 : Int) dI4).2.2.1))) (fun y529 : (Int × Int × Int) => (K y529))))))
def ref03_made (n_ : Node) (l_ : (List I4)) : Option I3 := ref03_made_q n_ l_ some
theorem ref03_made_n {β : Type} (n_ : Node) (l_ : (List I4)) (K : I3 → Option β) : ref03_made_q n_ l_ K = (ref03_made n_ l_).bind K := (bind_b fun y503 => (bind_b (either_b (fun y528 => some_b) (fun y529 => some_b))))
theorem ref03_made_is (n_ : Node) (l_ : (List I4)) : stepS E cp52 noE 27 [.agg (tsNode.leaves n_), rl tsI4 l_] = Option.bind (ref03_made n_ l_) (fun y : I3 => some (.agg (tsI3.leaves y) : R)) := by
  refine Eq.trans ?_ (ref03_made_n n_ l_ (fun y : I3 => some (.agg (tsI3.leaves y) : R)))
  refine (stepG_is (nt := 117) (regs := [(0, .agg (tsNode.leaves n_)), (1, rl tsI4 l_)]) (by kernel_rfl) (by kernel_rfl)).trans ?_
  unfold ref03_made_q
  refine (pre (n := 2) (c' := C52.r.r) (by kernel_rfl) (by kernel_rfl) (ref03_made_r1 n_ l_ _)).trans (bind_g fun y503 => ?_)
  refine (seq_push (by kernel_rfl)).trans ?_
  refine (ref03_made_j2 n_ l_ _).trans (bind_g (either_g (fun y528 => ?_) (fun y529 => ?_)))
  · refine (pre (n := 1) (c' := C52.r.r.r.r) (by kernel_rfl) (by kernel_rfl) (ref03_made_fzx6 l_ _)).trans ?_
    refine (ret_eq (by kernel_rfl)).trans ?_
    kernel_rfl
  · kernel_rfl
theorem ref03_made_c (x : denL [(.agg tsNode), (.one (.g (.sl tsI4)))]) : stepS E cp52 noE 27 (encL [(.agg tsNode), (.one (.g (.sl tsI4)))] x) = ((fun x => ref03_made x.1 x.2.1) x).bind fun y => some (Po.enc (.one (.agg tsI3)) ((fun y : I3 => y) y)) := Eq.mp (by kernel_rfl) (ref03_made_is x.1 x.2.1)
noncomputable def cp53 : CallP := withC cp52 27 [(.agg tsNode), (.one (.g (.sl tsI4)))] (.one (.agg tsI3)) (fun y : I3 => y) (fun x => ref03_made x.1 x.2.1)
theorem cp53_ok : PureOK E cp53 := withC_ok cp52_ok (stepS_ok eok cp52_ok noE_ok) fun x => con_of (enc := fun y => Po.enc (.one (.agg tsI3)) ((fun y : I3 => y) y)) (ref03_made_c x)
noncomputable abbrev C53 : Code := codeOf E.P 28
noncomputable abbrev P53 {α : Type} (n : Nat) (c : Code) (st : St) (k : St → Option α) : Option α := preK E 28 cp53 noE n c st k
noncomputable abbrev R53 {α : Type} (c : Code) (st : St) (k : Kont α) : Option α := runCode E 28 cp53 noE c st k
noncomputable abbrev Q53 {α : Type} (c : Code) (k : Kont α) : Kont α := seqC E 28 cp53 noE c k
theorem ref03_many_f1 {α : Type} (n_ : Node) (s_ : I3) (k : St → Option α) : P53 1 C53 ⟨[(0, .agg (tsNode.leaves n_)), (1, .agg (tsI3.leaves s_))], [], [], 46⟩ k = k ⟨[(2, .one (.cell (tsNode.leaves n_))), (3, .one (.cell (tsI3.leaves s_)))], [], [], 46⟩ := by kernel_rfl
theorem ref03_many_f2 {α : Type} (n_ : Node) (s_ : I3) (k : St → Option α) : P53 1 C53.r.l ⟨[(2, .one (.cell (tsNode.leaves n_))), (3, .one (.cell (tsI3.leaves s_)))], [], [], 46⟩ k = k ⟨[(2, .one (.cell (tsNode.leaves n_))), (3, .one (.cell (tsI3.leaves s_))), (7, ri n_.1)], [], [], 46⟩ := by kernel_rfl
theorem ref03_many_f1000003 {α : Type} (n_ : Node) (s_ : I3) (k : St → Option α) : P53 1 (bodyOf C53.r.l.r) ⟨[(2, .one (.cell (tsNode.leaves n_))), (3, .one (.cell (tsI3.leaves s_))), (7, ri n_.1)], [], [], 46⟩ k = k ⟨[(2, .one (.cell (tsNode.leaves n_))), (3, .one (.cell (tsI3.leaves s_))), (7, ri n_.1), (8, rb (n_.1 == (1 : Int)))], [], [], 46⟩ := by kernel_rfl
def ref03_many_r3_q {β : Type} (n_ : Node) (s_ : I3) (K : Int → β) : β := (K (IntKind.wrap .i64 ((IntKind.wrap .i64 ((IntKind.wrap .i64 (n_.2.2.1 * n_.2.2.1)) * s_.2.2)) * n_.2.2.2.2.2.1)))
def ref03_many_r3_p (n_ : Node) (s_ : I3) : Int := ref03_many_r3_q n_ s_ (fun y => y)
theorem ref03_many_r3_n {β : Type} (n_ : Node) (s_ : I3) (K : Int → β) : ref03_many_r3_q n_ s_ K = K (ref03_many_r3_p n_ s_) := rfl
theorem ref03_many_r3 {α : Type} (n_ : Node) (s_ : I3) (k : St → Option α) : P53 1 (bodyOf C53.r.l.r).r.t ⟨[(2, .one (.cell (tsNode.leaves n_))), (3, .one (.cell (tsI3.leaves s_))), (7, ri n_.1)], [], [], 46⟩ k = k ⟨[(4, ri (ref03_many_r3_p n_ s_)), (5, ri n_.2.2.2.2.2.1)], [], [], 46⟩ := Eq.trans (by kernel_rfl) (ref03_many_r3_n n_ s_ (fun y532 : Int => k ⟨[(4, ri y532), (5, ri n_.2.2.2.2.2.1)], [], [], 46⟩))
theorem ref03_many_f1000005 {α : Type} (n_ : Node) (s_ : I3) (k : St → Option α) : P53 1 (bodyOf C53.r.l.r).r.e ⟨[(2, .one (.cell (tsNode.leaves n_))), (3, .one (.cell (tsI3.leaves s_))), (7, ri n_.1)], [], [], 46⟩ k = k ⟨[(2, .one (.cell (tsNode.leaves n_))), (3, .one (.cell (tsI3.leaves s_))), (7, ri n_.1), (23, rb (n_.1 == (2 : Int)))], [], [], 46⟩ := by kernel_rfl
theorem ref03_many_fz {α : Type} (n_ : Node) (s_ : I3) (k : St → Option α) : P53 1 (bodyOf C53.r.l.r).r.e.r.t ⟨[(2, .one (.cell (tsNode.leaves n_))), (3, .one (.cell (tsI3.leaves s_))), (7, ri n_.1)], [], [], 46⟩ k = k ⟨[(4, ri (IntKind.wrap .i64 ((IntKind.wrap .i64 (n_.2.2.1 * n_.2.2.1)) * s_.2.2))), (5, ri s_.2.2)], [], [], 46⟩ := by kernel_rfl
theorem ref03_many_f1000007 {α : Type} (n_ : Node) (s_ : I3) (k : St → Option α) : P53 1 (bodyOf C53.r.l.r).r.e.r.e ⟨[(2, .one (.cell (tsNode.leaves n_))), (3, .one (.cell (tsI3.leaves s_))), (7, ri n_.1)], [], [], 46⟩ k = k ⟨[(2, .one (.cell (tsNode.leaves n_))), (3, .one (.cell (tsI3.leaves s_))), (7, ri n_.1), (35, rb (n_.1 == (3 : Int)))], [], [], 46⟩ := by kernel_rfl
theorem ref03_many_fzx1 {α : Type} (n_ : Node) (s_ : I3) (k : St → Option α) : P53 1 (bodyOf C53.r.l.r).r.e.r.e.r.t ⟨[(2, .one (.cell (tsNode.leaves n_))), (3, .one (.cell (tsI3.leaves s_))), (7, ri n_.1)], [], [], 46⟩ k = k ⟨[(4, ri (IntKind.wrap .i64 ((ref02_Size s_) * n_.2.2.2.2.2.1))), (5, ri n_.2.2.2.2.2.1)], [], [], 46⟩ := by kernel_rfl
theorem ref03_many_f1000009 {α : Type} (n_ : Node) (s_ : I3) (k : St → Option α) : P53 1 (bodyOf C53.r.l.r).r.e.r.e.r.e ⟨[(2, .one (.cell (tsNode.leaves n_))), (3, .one (.cell (tsI3.leaves s_))), (7, ri n_.1)], [], [], 46⟩ k = k ⟨[(44, rb (n_.1 == (12 : Int)))], [], [], 46⟩ := by kernel_rfl
theorem ref03_many_fzx2 {α : Type} (k : St → Option α) : P53 1 (bodyOf C53.r.l.r).r.e.r.e.r.e.r.t ⟨[], [], [], 46⟩ k = k ⟨[(4, ri (256 : Int)), (5, ri (0 : Int))], [], [], 46⟩ := by kernel_rfl
theorem ref03_many_fzx3 {α : Type} (k : St → Option α) : P53 1 C53.r.r ⟨[], [], [], 46⟩ k = k ⟨[(4, ri (0 : Int)), (5, ri (0 : Int))], [], [], 46⟩ := by kernel_rfl
/-- quilt/quiltref03.many -/
def ref03_many_q {β : Type} (n_ : Node) (s_ : I3) (K : (Int × Int) → β) : β := (bif (n_.1 == (1 : Int)) then (K ((ref03_many_r3_p n_ s_), n_.2.2.2.2.2.1)) else (bif (n_.1 == (2 : Int)) then (K ((IntKind.wrap .i64 ((IntKind.wrap .i64 (n_.2.2.1 * n_.2.2.1)) * s_.2.2)), s_.2.2)) else (bif (n_.1 == (3 : Int)) then (K ((IntKind.wrap .i64 ((ref02_Size s_) * n_.2.2.2.2.2.1)), n_.2.2.2.2.2.1)) else (bif (n_.1 == (12 : Int)) then (K ((256 : Int), (0 : Int))) else (K ((0 : Int), (0 : Int)))))))
def ref03_many (n_ : Node) (s_ : I3) : (Int × Int) := ref03_many_q n_ s_ (fun y => y)
theorem ref03_many_n {β : Type} (n_ : Node) (s_ : I3) (K : (Int × Int) → β) : ref03_many_q n_ s_ K = K (ref03_many n_ s_) := (bif_k K rfl (bif_k K rfl (bif_k K rfl (bif_k K rfl rfl))))
theorem ref03_many_is (n_ : Node) (s_ : I3) : stepS E cp53 noE 28 [.agg (tsNode.leaves n_), .agg (tsI3.leaves s_)] = (fun y : (Int × Int) => some (.tup [ri y.1, ri y.2] : R)) (ref03_many n_ s_) := by
  refine Eq.trans ?_ (ref03_many_n n_ s_ (fun y : (Int × Int) => some (.tup [ri y.1, ri y.2] : R)))
  refine (stepG_is (nt := 46) (regs := [(0, .agg (tsNode.leaves n_)), (1, .agg (tsI3.leaves s_))]) (by kernel_rfl) (by kernel_rfl)).trans ?_
  unfold ref03_many_q
  refine (pre (n := 1) (c' := C53.r) (by kernel_rfl) (by kernel_rfl) (ref03_many_f1 n_ s_ _)).trans ?_
  refine (seq_push (by kernel_rfl)).trans ?_
  refine (pre (n := 1) (c' := C53.r.l.r) (by kernel_rfl) (by kernel_rfl) (ref03_many_f2 n_ s_ _)).trans ?_
  refine (block_push (id := 0) (by kernel_rfl)).trans ?_
  refine (pre (n := 1) (c' := (bodyOf C53.r.l.r).r) (by kernel_rfl) (by kernel_rfl) (ref03_many_f1000003 n_ s_ _)).trans ?_
  refine (cond_eq (b := (n_.1 == (1 : Int))) (st' := ⟨[(2, .one (.cell (tsNode.leaves n_))), (3, .one (.cell (tsI3.leaves s_))), (7, ri n_.1)], [], [], 46⟩) (by kernel_rfl) (by kernel_rfl) (by kernel_rfl)).trans (bif_g ?_ ?_)
  · refine (pre (n := 1) (c' := (bodyOf C53.r.l.r).r.t.r) (by kernel_rfl) (by kernel_rfl) (ref03_many_r3 n_ s_ _)).trans ?_
    refine (ret_eq (by kernel_rfl)).trans ?_
    refine block_ret.trans ?_
    refine seqC_ret.trans ?_
    kernel_rfl
  · refine (pre (n := 1) (c' := (bodyOf C53.r.l.r).r.e.r) (by kernel_rfl) (by kernel_rfl) (ref03_many_f1000005 n_ s_ _)).trans ?_
    refine (cond_eq (b := (n_.1 == (2 : Int))) (st' := ⟨[(2, .one (.cell (tsNode.leaves n_))), (3, .one (.cell (tsI3.leaves s_))), (7, ri n_.1)], [], [], 46⟩) (by kernel_rfl) (by kernel_rfl) (by kernel_rfl)).trans (bif_g ?_ ?_)
    · refine (pre (n := 1) (c' := (bodyOf C53.r.l.r).r.e.r.t.r) (by kernel_rfl) (by kernel_rfl) (ref03_many_fz n_ s_ _)).trans ?_
      refine (ret_eq (by kernel_rfl)).trans ?_
      refine block_ret.trans ?_
      refine seqC_ret.trans ?_
      kernel_rfl
    · refine (pre (n := 1) (c' := (bodyOf C53.r.l.r).r.e.r.e.r) (by kernel_rfl) (by kernel_rfl) (ref03_many_f1000007 n_ s_ _)).trans ?_
      refine (cond_eq (b := (n_.1 == (3 : Int))) (st' := ⟨[(2, .one (.cell (tsNode.leaves n_))), (3, .one (.cell (tsI3.leaves s_))), (7, ri n_.1)], [], [], 46⟩) (by kernel_rfl) (by kernel_rfl) (by kernel_rfl)).trans (bif_g ?_ ?_)
      · refine (pre (n := 1) (c' := (bodyOf C53.r.l.r).r.e.r.e.r.t.r) (by kernel_rfl) (by kernel_rfl) (ref03_many_fzx1 n_ s_ _)).trans ?_
        refine (ret_eq (by kernel_rfl)).trans ?_
        refine block_ret.trans ?_
        refine seqC_ret.trans ?_
        kernel_rfl
      · refine (pre (n := 1) (c' := (bodyOf C53.r.l.r).r.e.r.e.r.e.r) (by kernel_rfl) (by kernel_rfl) (ref03_many_f1000009 n_ s_ _)).trans ?_
        refine (cond_eq (b := (n_.1 == (12 : Int))) (st' := ⟨[], [], [], 46⟩) (by kernel_rfl) (by kernel_rfl) (by kernel_rfl)).trans (bif_g ?_ ?_)
        · refine (pre (n := 1) (c' := (bodyOf C53.r.l.r).r.e.r.e.r.e.r.t.r) (by kernel_rfl) (by kernel_rfl) (ref03_many_fzx2 _)).trans ?_
          refine (ret_eq (by kernel_rfl)).trans ?_
          refine block_ret.trans ?_
          refine seqC_ret.trans ?_
          kernel_rfl
        · refine (skip_eq (by kernel_rfl)).trans ?_
          refine block_normal.trans ?_
          refine (seqC_normal (st' := ⟨[], [], [], 46⟩) (by kernel_rfl)).trans ?_
          refine (pre (n := 1) (c' := C53.r.r.r) (by kernel_rfl) (by kernel_rfl) (ref03_many_fzx3 _)).trans ?_
          refine (ret_eq (by kernel_rfl)).trans ?_
          kernel_rfl
theorem ref03_many_c (x : denL [(.agg tsNode), (.agg tsI3)]) : stepS E cp53 noE 28 (encL [(.agg tsNode), (.agg tsI3)] x) = ((fun x => some (ref03_many x.1 x.2.1)) x).bind fun y => some (Po.enc (.tup [(.one (.g (.int .i64))), (.one (.g (.int .i64)))]) ((fun y : (Int × Int) => (y.1, y.2, ())) y)) := Eq.mp (by kernel_rfl) (ref03_many_is x.1 x.2.1)
noncomputable def cp54 : CallP := withC cp53 28 [(.agg tsNode), (.agg tsI3)] (.tup [(.one (.g (.int .i64))), (.one (.g (.int .i64)))]) (fun y : (Int × Int) => (y.1, y.2, ())) (fun x => some (ref03_many x.1 x.2.1))
theorem cp54_ok : PureOK E cp54 := withC_ok cp53_ok (stepS_ok eok cp53_ok noE_ok) fun x => con_of (enc := fun y => Po.enc (.tup [(.one (.g (.int .i64))), (.one (.g (.int .i64)))]) ((fun y : (Int × Int) => (y.1, y.2, ())) y)) (ref03_many_c x)
end Go.V.P
