/- What functions compute. -/
import Derived.Test.YtadljnfiehmmgaaTi2
namespace Go.V.P
open Go.RowKit Go.V Go.Proofs
set_option linter.unusedVariables false
set_option maxRecDepth 100000
noncomputable abbrev C44 := codeOf E.P 8
noncomputable abbrev P44 {α : Type} := @preK α E 8 cp44 noE
theorem law16_shown_r1 {α : Type} (k : St → Option α) : P44 2 C44 ⟨[], [], [], 17⟩ k = Option.bind (tile_Best ((8 : Int), [], (0 : Int), (0 : Int), (0 : Int), (0 : Int), (1 : Int), (0 : Int), (0 : Int), (0 : Int), (0 : Int), (0 : Int), [], []) [((16 : Int), (16 : Int), (2 : Int), (0 : Int))]) fun y588 : (Int × Int) => k ⟨[(1, ri y588.1), (2, ri y588.2)], [], [], 17⟩ := by kernel_rfl
def law16_shown_r2_q {β : Type} (y588 : (Int × Int)) (K : Bool → β) : β := (bif (y588.1 == 8) then (K (y588.2 == 0)) else (K false))
def law16_shown_r2_p (y588 : (Int × Int)) : Bool := law16_shown_r2_q y588 (fun y => y)
theorem law16_shown_r2_n {β : Type} (y588 : (Int × Int)) (K : Bool → β) : law16_shown_r2_q y588 K = K (law16_shown_r2_p y588) := (bif_k K rfl rfl)
theorem law16_shown_r2 {α : Type} (y588 : (Int × Int)) (k : St → Option α) : P44 1 C44.r.r ⟨[(1, ri y588.1), (2, ri y588.2)], [], [], 17⟩ k = k ⟨[(0, rb (law16_shown_r2_p y588))], [], [], 17⟩ := Eq.trans (by kernel_rfl) (law16_shown_r2_n y588 (fun y589 : Bool => k ⟨[(0, rb y589)], [], [], 17⟩))
/-- quilt/quiltlaw16.shown -/
def law16_shown : Option Bool := (Option.bind (tile_Best ((8 : Int), [], (0 : Int), (0 : Int), (0 : Int), (0 : Int), (1 : Int), (0 : Int), (0 : Int), (0 : Int), (0 : Int), (0 : Int), [], []) [((16 : Int), (16 : Int), (2 : Int), (0 : Int))]) (fun y588 : (Int × Int) => (some (law16_shown_r2_p y588))))
theorem law16_shown_is : stepS E cp44 noE 8 [] = Option.bind (law16_shown) (fun y : Bool => some (rb y : R)) := by
  refine .trans ?_ (bind_b fun y588 => some_b)
  refine (stepG_is (nt := 17) (regs := [])).trans ?_
  refine (pre2 (law16_shown_r1 _)).trans (bind_g fun y588 => ?_)
  refine (pre1 (law16_shown_r2 y588 _)).trans ?_
  refine (ret_eq).trans ?_
  kernel_rfl
noncomputable def cp45 : CallP := withC cp44 8 [] (.one pB) (fun y : Bool => y) (fun x => law16_shown)
theorem cp45_ok : PureOK E cp45 := conS eok cp44_ok noE_ok fun x => Eq.mp (by kernel_rfl) (law16_shown_is)
noncomputable abbrev C45 := codeOf E.P 9
noncomputable abbrev P45 {α : Type} := @preK α E 9 cp45 noE
abbrev S45_0 (l_ : (List I4)) : St := ⟨[(0, rl tsI4 l_)], [], [], 9⟩
theorem law16_some_f1 {α : Type} (l_ : (List I4)) (k : St → Option α) : P45 1 C45 (S45_0 l_) k = k (S45_0 l_) := by kernel_rfl
theorem law16_some_f1000002 {α : Type} (l_ : (List I4)) (k : St → Option α) : P45 1 C45.r.l (S45_0 l_) k = k ⟨[(0, rl tsI4 l_), (5, rb (decide ((l_.length : Int) > 3)))], [], [], 9⟩ := by kernel_rfl
def law16_some_r2_p (l_ : (List I4)) : Option Unit := (bif (decide ((3 : Int) ≤ (l_.length : Int))) then (some ()) else none)
theorem law16_some_r2 {α : Type} (l_ : (List I4)) (k : St → Option α) : P45 1 C45.r.l.r.t (S45_0 l_) k = Option.bind (law16_some_r2_p l_) (fun y592 : Unit => k ⟨[(2, rl tsI4 ((l_.take (Int.toNat (3 : Int))).drop (Int.toNat (0 : Int))))], [], [], 9⟩) := .trans (by kernel_rfl) (bif_b some_b none_b)
theorem law16_some_fz {α : Type} (l_ : (List I4)) (k : St → Option α) : P45 1 C45.r.r (S45_0 l_) k = k ⟨[(2, rl tsI4 l_)], [], [], 9⟩ := by kernel_rfl
/-- quilt/quiltlaw16.some -/
def law16_some (l_ : (List I4)) : Option (List I4) := (bif (decide ((l_.length : Int) > 3)) then (Option.bind (law16_some_r2_p l_) (fun y592 : Unit => (some ((l_.take (Int.toNat (3 : Int))).drop (Int.toNat (0 : Int)))))) else (some l_))
theorem law16_some_is (l_ : (List I4)) : stepS E cp45 noE 9 [rl tsI4 l_] = Option.bind (law16_some l_) (fun y : (List I4) => some (rl tsI4 y : R)) := by
  refine .trans ?_ (bif_b (bind_b fun y592 => some_b) some_b)
  refine (stepG_is (nt := 9) (regs := [(0, rl tsI4 l_)])).trans ?_
  refine (pre1 (law16_some_f1 l_ _)).trans ?_
  refine .trans seq_push ?_
  refine (pre1 (law16_some_f1000002 l_ _)).trans ?_
  refine (cond_e (b := (decide ((l_.length : Int) > 3))) (st' := (S45_0 l_)) ).trans (bif_g ?_ ?_)
  · refine (pre1 (law16_some_r2 l_ _)).trans (bind_g fun y592 => ?_)
    refine (ret_eq).trans ?_
    refine seqC_ret.trans ?_
    kernel_rfl
  · refine (skip_eq).trans ?_
    refine (seqC_normal (st' := (S45_0 l_))).trans ?_
    refine (pre1 (law16_some_fz l_ _)).trans ?_
    refine (ret_eq).trans ?_
    kernel_rfl
noncomputable def cp46 : CallP := withC cp45 9 [(pL tsI4)] (.one (pL tsI4)) (fun y : (List I4) => y) (fun x => law16_some x.1)
theorem cp46_ok : PureOK E cp46 := conS eok cp45_ok noE_ok fun x => Eq.mp (by kernel_rfl) (law16_some_is x.1)
section
variable {α : Type} (n_ : Node) (y595 : (List Int)) (y597 : (List Int)) (y599 : (List Int)) (k : St → Option α) (q : Kont α)
noncomputable abbrev C46 := codeOf E.P 10
noncomputable abbrev P46 := @preK α E 10 cp46 noE
noncomputable abbrev R46 := @runCode α E 10 cp46 noE
noncomputable abbrev Q46 := @seqC α E 10 cp46 noE
abbrev S46_0 : St := ⟨[(1, rF 0), (2, rF 1)], [(tsNode.leaves n_), [di 0, dl (.one (.int .i64)) [], di 0, di 0, di 0, di 0, di 0, di 0, di 0, di 0, di 0, di 0, dl (.one (.int .i8)) [], dl (.one (.int .i32)) []]], [], 28⟩
theorem law16_few_f1 : P46 1 C46 ⟨[(0, rA tsNode n_)], [], [], 28⟩ k = k (S46_0 n_) := by kernel_rfl
theorem law16_few_f1000002 : P46 1 C46.r.l (S46_0 n_) k = k ⟨[(1, rF 0), (2, rF 1), (6, rb (decide ((n_.2.1.length : Int) > 20)))], [(tsNode.leaves n_), [di 0, dl (.one (.int .i64)) [], di 0, di 0, di 0, di 0, di 0, di 0, di 0, di 0, di 0, di 0, dl (.one (.int .i8)) [], dl (.one (.int .i32)) []]], [], 28⟩ := by kernel_rfl
def law16_few_r2_p : Option Unit := (bif (decide ((20 : Int) ≤ (n_.2.1.length : Int))) then (some ()) else none)
abbrev S46_1 : St := ⟨[(1, rF 0), (2, rF 1)], [[di n_.1, dl (.one (.int .i64)) ((n_.2.1.take (Int.toNat (20 : Int))).drop (Int.toNat (0 : Int))), di n_.2.2.1, di n_.2.2.2.1, di n_.2.2.2.2.1, di n_.2.2.2.2.2.1, di n_.2.2.2.2.2.2.1, di n_.2.2.2.2.2.2.2.1, di n_.2.2.2.2.2.2.2.2.1, di n_.2.2.2.2.2.2.2.2.2.1, di n_.2.2.2.2.2.2.2.2.2.2.1, di n_.2.2.2.2.2.2.2.2.2.2.2.1, dl (.one (.int .i8)) n_.2.2.2.2.2.2.2.2.2.2.2.2.1, dl (.one (.int .i32)) n_.2.2.2.2.2.2.2.2.2.2.2.2.2], [di 0, dl (.one (.int .i64)) [], di 0, di 0, di 0, di 0, di 0, di 0, di 0, di 0, di 0, di 0, dl (.one (.int .i8)) [], dl (.one (.int .i32)) []]], [], 28⟩
theorem law16_few_r2 : R46 C46.r.l.r.t (S46_0 n_) q = Option.bind (law16_few_r2_p n_) (fun y594 : Unit => q .normal (S46_1 n_)) := .trans (by kernel_rfl) (bif_b some_b none_b)
def law16_few_j1_p : Option (List Int) := (bif (decide ((n_.2.1.length : Int) > 20)) then (Option.bind (law16_few_r2_p n_) (fun y594 : Unit => (some ((n_.2.1.take (Int.toNat (20 : Int))).drop (Int.toNat (0 : Int)))))) else (some n_.2.1))
abbrev S46_2 : St := ⟨[(1, rF 0), (2, rF 1)], [[di n_.1, dl (.one (.int .i64)) y595, di n_.2.2.1, di n_.2.2.2.1, di n_.2.2.2.2.1, di n_.2.2.2.2.2.1, di n_.2.2.2.2.2.2.1, di n_.2.2.2.2.2.2.2.1, di n_.2.2.2.2.2.2.2.2.1, di n_.2.2.2.2.2.2.2.2.2.1, di n_.2.2.2.2.2.2.2.2.2.2.1, di n_.2.2.2.2.2.2.2.2.2.2.2.1, dl (.one (.int .i8)) n_.2.2.2.2.2.2.2.2.2.2.2.2.1, dl (.one (.int .i32)) n_.2.2.2.2.2.2.2.2.2.2.2.2.2], [di 0, dl (.one (.int .i64)) [], di 0, di 0, di 0, di 0, di 0, di 0, di 0, di 0, di 0, di 0, dl (.one (.int .i8)) [], dl (.one (.int .i32)) []]], [], 28⟩
theorem law16_few_j1 : R46 C46.r.l (S46_0 n_) (Q46 C46.r.r q) = Option.bind (law16_few_j1_p n_) (fun y595 : (List Int) => R46 C46.r.r (S46_2 n_ y595) q) := by
  refine .trans ?_ (bif_b (bind_b fun y594 => some_b) some_b)
  refine (pre1 (law16_few_f1000002 n_ _)).trans ?_
  refine (cond_e (b := (decide ((n_.2.1.length : Int) > 20))) (st' := (S46_0 n_)) ).trans (bif_g ?_ ?_)
  · refine (law16_few_r2 n_ _).trans (bind_g fun y594 => ?_)
    refine (seqC_normal (st' := (S46_1 n_))).trans ?_
    kernel_rfl
  · refine (skip_eq).trans ?_
    refine (seqC_normal (st' := (S46_0 n_))).trans ?_
    kernel_rfl
theorem law16_few_f1000004 : P46 1 C46.r.r.l (S46_2 n_ y595) k = k ⟨[(1, rF 0), (2, rF 1), (14, rb (decide ((n_.2.2.2.2.2.2.2.2.2.2.2.2.1.length : Int) > 5000)))], [[di n_.1, dl (.one (.int .i64)) y595, di n_.2.2.1, di n_.2.2.2.1, di n_.2.2.2.2.1, di n_.2.2.2.2.2.1, di n_.2.2.2.2.2.2.1, di n_.2.2.2.2.2.2.2.1, di n_.2.2.2.2.2.2.2.2.1, di n_.2.2.2.2.2.2.2.2.2.1, di n_.2.2.2.2.2.2.2.2.2.2.1, di n_.2.2.2.2.2.2.2.2.2.2.2.1, dl (.one (.int .i8)) n_.2.2.2.2.2.2.2.2.2.2.2.2.1, dl (.one (.int .i32)) n_.2.2.2.2.2.2.2.2.2.2.2.2.2], [di 0, dl (.one (.int .i64)) [], di 0, di 0, di 0, di 0, di 0, di 0, di 0, di 0, di 0, di 0, dl (.one (.int .i8)) [], dl (.one (.int .i32)) []]], [], 28⟩ := by kernel_rfl
def law16_few_r4_p : Option (List Int) := (bif (decide ((5000 : Int) ≤ (n_.2.2.2.2.2.2.2.2.2.2.2.2.1.length : Int))) then (some ((n_.2.2.2.2.2.2.2.2.2.2.2.2.1.take (Int.toNat (5000 : Int))).drop (Int.toNat (0 : Int)))) else none)
abbrev S46_3 (y596 : (List Int)) : St := ⟨[(1, rF 0), (2, rF 1)], [[di n_.1, dl (.one (.int .i64)) y595, di n_.2.2.1, di n_.2.2.2.1, di n_.2.2.2.2.1, di n_.2.2.2.2.2.1, di n_.2.2.2.2.2.2.1, di n_.2.2.2.2.2.2.2.1, di n_.2.2.2.2.2.2.2.2.1, di n_.2.2.2.2.2.2.2.2.2.1, di n_.2.2.2.2.2.2.2.2.2.2.1, di n_.2.2.2.2.2.2.2.2.2.2.2.1, dl (.one (.int .i8)) y596, dl (.one (.int .i32)) n_.2.2.2.2.2.2.2.2.2.2.2.2.2], [di 0, dl (.one (.int .i64)) [], di 0, di 0, di 0, di 0, di 0, di 0, di 0, di 0, di 0, di 0, dl (.one (.int .i8)) [], dl (.one (.int .i32)) []]], [], 28⟩
theorem law16_few_r4 : R46 C46.r.r.l.r.t (S46_2 n_ y595) q = Option.bind (law16_few_r4_p n_) (fun y596 : (List Int) => q .normal (S46_3 n_ y595 y596)) := .trans (by kernel_rfl) (bif_b some_b none_b)
def law16_few_j3_p : Option (List Int) := (bif (decide ((n_.2.2.2.2.2.2.2.2.2.2.2.2.1.length : Int) > 5000)) then (Option.bind (law16_few_r4_p n_) (fun y596 : (List Int) => (some y596))) else (some n_.2.2.2.2.2.2.2.2.2.2.2.2.1))
abbrev S46_4 : St := ⟨[(1, rF 0), (2, rF 1)], [[di n_.1, dl (.one (.int .i64)) y595, di n_.2.2.1, di n_.2.2.2.1, di n_.2.2.2.2.1, di n_.2.2.2.2.2.1, di n_.2.2.2.2.2.2.1, di n_.2.2.2.2.2.2.2.1, di n_.2.2.2.2.2.2.2.2.1, di n_.2.2.2.2.2.2.2.2.2.1, di n_.2.2.2.2.2.2.2.2.2.2.1, di n_.2.2.2.2.2.2.2.2.2.2.2.1, dl (.one (.int .i8)) y597, dl (.one (.int .i32)) n_.2.2.2.2.2.2.2.2.2.2.2.2.2], [di 0, dl (.one (.int .i64)) [], di 0, di 0, di 0, di 0, di 0, di 0, di 0, di 0, di 0, di 0, dl (.one (.int .i8)) [], dl (.one (.int .i32)) []]], [], 28⟩
theorem law16_few_j3 : R46 C46.r.r.l (S46_2 n_ y595) (Q46 C46.r.r.r q) = Option.bind (law16_few_j3_p n_) (fun y597 : (List Int) => R46 C46.r.r.r (S46_4 n_ y595 y597) q) := by
  refine .trans ?_ (bif_b (bind_b fun y596 => some_b) some_b)
  refine (pre1 (law16_few_f1000004 n_ y595 _)).trans ?_
  refine (cond_e (b := (decide ((n_.2.2.2.2.2.2.2.2.2.2.2.2.1.length : Int) > 5000))) (st' := (S46_2 n_ y595)) ).trans (bif_g ?_ ?_)
  · refine (law16_few_r4 n_ y595 _).trans (bind_g fun y596 => ?_)
    refine (seqC_normal (st' := (S46_3 n_ y595 y596))).trans ?_
    kernel_rfl
  · refine (skip_eq).trans ?_
    refine (seqC_normal (st' := (S46_2 n_ y595))).trans ?_
    kernel_rfl
theorem law16_few_f1000006 : P46 1 C46.r.r.r.l (S46_4 n_ y595 y597) k = k ⟨[(1, rF 0), (2, rF 1), (22, rb (decide ((n_.2.2.2.2.2.2.2.2.2.2.2.2.2.length : Int) > 20)))], [[di n_.1, dl (.one (.int .i64)) y595, di n_.2.2.1, di n_.2.2.2.1, di n_.2.2.2.2.1, di n_.2.2.2.2.2.1, di n_.2.2.2.2.2.2.1, di n_.2.2.2.2.2.2.2.1, di n_.2.2.2.2.2.2.2.2.1, di n_.2.2.2.2.2.2.2.2.2.1, di n_.2.2.2.2.2.2.2.2.2.2.1, di n_.2.2.2.2.2.2.2.2.2.2.2.1, dl (.one (.int .i8)) y597, dl (.one (.int .i32)) n_.2.2.2.2.2.2.2.2.2.2.2.2.2], [di 0, dl (.one (.int .i64)) [], di 0, di 0, di 0, di 0, di 0, di 0, di 0, di 0, di 0, di 0, dl (.one (.int .i8)) [], dl (.one (.int .i32)) []]], [], 28⟩ := by kernel_rfl
def law16_few_r6_p : Option (List Int) := (bif (decide ((20 : Int) ≤ (n_.2.2.2.2.2.2.2.2.2.2.2.2.2.length : Int))) then (some ((n_.2.2.2.2.2.2.2.2.2.2.2.2.2.take (Int.toNat (20 : Int))).drop (Int.toNat (0 : Int)))) else none)
abbrev S46_5 (y598 : (List Int)) : St := ⟨[(1, rF 0), (2, rF 1)], [[di n_.1, dl (.one (.int .i64)) y595, di n_.2.2.1, di n_.2.2.2.1, di n_.2.2.2.2.1, di n_.2.2.2.2.2.1, di n_.2.2.2.2.2.2.1, di n_.2.2.2.2.2.2.2.1, di n_.2.2.2.2.2.2.2.2.1, di n_.2.2.2.2.2.2.2.2.2.1, di n_.2.2.2.2.2.2.2.2.2.2.1, di n_.2.2.2.2.2.2.2.2.2.2.2.1, dl (.one (.int .i8)) y597, dl (.one (.int .i32)) y598], [di 0, dl (.one (.int .i64)) [], di 0, di 0, di 0, di 0, di 0, di 0, di 0, di 0, di 0, di 0, dl (.one (.int .i8)) [], dl (.one (.int .i32)) []]], [], 28⟩
theorem law16_few_r6 : R46 C46.r.r.r.l.r.t (S46_4 n_ y595 y597) q = Option.bind (law16_few_r6_p n_) (fun y598 : (List Int) => q .normal (S46_5 n_ y595 y597 y598)) := .trans (by kernel_rfl) (bif_b some_b none_b)
def law16_few_j5_p : Option (List Int) := (bif (decide ((n_.2.2.2.2.2.2.2.2.2.2.2.2.2.length : Int) > 20)) then (Option.bind (law16_few_r6_p n_) (fun y598 : (List Int) => (some y598))) else (some n_.2.2.2.2.2.2.2.2.2.2.2.2.2))
abbrev S46_6 : St := ⟨[(1, rF 0), (2, rF 1)], [[di n_.1, dl (.one (.int .i64)) y595, di n_.2.2.1, di n_.2.2.2.1, di n_.2.2.2.2.1, di n_.2.2.2.2.2.1, di n_.2.2.2.2.2.2.1, di n_.2.2.2.2.2.2.2.1, di n_.2.2.2.2.2.2.2.2.1, di n_.2.2.2.2.2.2.2.2.2.1, di n_.2.2.2.2.2.2.2.2.2.2.1, di n_.2.2.2.2.2.2.2.2.2.2.2.1, dl (.one (.int .i8)) y597, dl (.one (.int .i32)) y599], [di 0, dl (.one (.int .i64)) [], di 0, di 0, di 0, di 0, di 0, di 0, di 0, di 0, di 0, di 0, dl (.one (.int .i8)) [], dl (.one (.int .i32)) []]], [], 28⟩
theorem law16_few_j5 : R46 C46.r.r.r.l (S46_4 n_ y595 y597) (Q46 C46.r.r.r.r q) = Option.bind (law16_few_j5_p n_) (fun y599 : (List Int) => R46 C46.r.r.r.r (S46_6 n_ y595 y597 y599) q) := by
  refine .trans ?_ (bif_b (bind_b fun y598 => some_b) some_b)
  refine (pre1 (law16_few_f1000006 n_ y595 y597 _)).trans ?_
  refine (cond_e (b := (decide ((n_.2.2.2.2.2.2.2.2.2.2.2.2.2.length : Int) > 20))) (st' := (S46_4 n_ y595 y597)) ).trans (bif_g ?_ ?_)
  · refine (law16_few_r6 n_ y595 y597 _).trans (bind_g fun y598 => ?_)
    refine (seqC_normal (st' := (S46_5 n_ y595 y597 y598))).trans ?_
    kernel_rfl
  · refine (skip_eq).trans ?_
    refine (seqC_normal (st' := (S46_4 n_ y595 y597))).trans ?_
    kernel_rfl
theorem law16_few_fz : P46 1 C46.r.r.r.r (S46_6 n_ y595 y597 y599) k = k ⟨[(2, rF 1)], [[], [di n_.1, dl (.one (.int .i64)) y595, di n_.2.2.1, di n_.2.2.2.1, di n_.2.2.2.2.1, di n_.2.2.2.2.2.1, di n_.2.2.2.2.2.2.1, di n_.2.2.2.2.2.2.2.1, di n_.2.2.2.2.2.2.2.2.1, di n_.2.2.2.2.2.2.2.2.2.1, di n_.2.2.2.2.2.2.2.2.2.2.1, di n_.2.2.2.2.2.2.2.2.2.2.2.1, dl (.one (.int .i8)) y597, dl (.one (.int .i32)) y599]], [], 28⟩ := by kernel_rfl
/-- quilt/quiltlaw16.few -/
def law16_few : Option Node := (Option.bind (law16_few_j1_p n_) (fun y595 : (List Int) => (Option.bind (law16_few_j3_p n_) (fun y597 : (List Int) => (Option.bind (law16_few_j5_p n_) (fun y599 : (List Int) => (some (n_.1, y595, n_.2.2.1, n_.2.2.2.1, n_.2.2.2.2.1, n_.2.2.2.2.2.1, n_.2.2.2.2.2.2.1, n_.2.2.2.2.2.2.2.1, n_.2.2.2.2.2.2.2.2.1, n_.2.2.2.2.2.2.2.2.2.1, n_.2.2.2.2.2.2.2.2.2.2.1, n_.2.2.2.2.2.2.2.2.2.2.2.1, y597, y599))))))))
theorem law16_few_is : stepS E cp46 noE 10 [rA tsNode n_] = Option.bind (law16_few n_) (fun y : Node => some (rA tsNode y : R)) := by
  refine .trans ?_ (bind_b fun y595 => (bind_b fun y597 => (bind_b fun y599 => some_b)))
  refine (stepG_is (nt := 28) (regs := [(0, rA tsNode n_)])).trans ?_
  refine (pre1 (law16_few_f1 n_ _)).trans ?_
  refine .trans seq_push ?_
  refine (law16_few_j1 n_ _).trans (bind_g fun y595 => ?_)
  refine .trans seq_push ?_
  refine (law16_few_j3 n_ y595 _).trans (bind_g fun y597 => ?_)
  refine .trans seq_push ?_
  refine (law16_few_j5 n_ y595 y597 _).trans (bind_g fun y599 => ?_)
  refine (pre1 (law16_few_fz n_ y595 y597 y599 _)).trans ?_
  refine (ret_eq).trans ?_
  kernel_rfl
noncomputable def cp47 : CallP := withC cp46 10 [(.agg tsNode)] (.one (.agg tsNode)) (fun y : Node => y) (fun x => law16_few x.1)
theorem cp47_ok : PureOK E cp47 := conS eok cp46_ok noE_ok fun x => Eq.mp (by kernel_rfl) (law16_few_is x.1)
end
noncomputable abbrev C47 := codeOf E.P 33
noncomputable abbrev P47 {α : Type} := @preK α E 33 cp47 noE
def ref03_Two_r1_q {β : Type} (op : Int) (K : Bool → β) : β := (bif (op == 6) then (K true) else (bif (op == 7) then (K true) else (K (op == 10))))
def ref03_Two_r1_p (op : Int) : Bool := ref03_Two_r1_q op (fun y => y)
theorem ref03_Two_r1_n {β : Type} (op : Int) (K : Bool → β) : ref03_Two_r1_q op K = K (ref03_Two_r1_p op) := (bif_k K rfl (bif_k K rfl rfl))
theorem ref03_Two_r1 {α : Type} (op : Int) (k : St → Option α) : P47 2 C47 ⟨[(0, ri op)], [], [], 13⟩ k = k ⟨[(2, rb (ref03_Two_r1_p op))], [], [], 13⟩ := Eq.trans (by kernel_rfl) (ref03_Two_r1_n op (fun y601 : Bool => k ⟨[(2, rb y601)], [], [], 13⟩))
/-- quilt/quiltref03.Two -/
def ref03_Two_q {β : Type} (op : Int) (K : Bool → β) : β := (K (ref03_Two_r1_p op))
def ref03_Two (op : Int) : Bool := ref03_Two_q op (fun y => y)
theorem ref03_Two_n {β : Type} (op : Int) (K : Bool → β) : ref03_Two_q op K = K (ref03_Two op) := rfl
theorem ref03_Two_is (op : Int) : stepS E cp47 noE 33 [ri op] = (fun y : Bool => some (rb y : R)) (ref03_Two op) := by
  refine Eq.trans ?_ (ref03_Two_n op (fun y : Bool => some (rb y : R)))
  refine (stepG_is (nt := 13) (regs := [(0, ri op)])).trans ?_
  unfold ref03_Two_q
  refine (pre2 (ref03_Two_r1 op _)).trans ?_
  refine (ret_eq).trans ?_
  kernel_rfl
noncomputable def cp48 : CallP := withC cp47 33 [pI] (.one pB) (fun y : Bool => y) (fun x => some (ref03_Two x.1))
theorem cp48_ok : PureOK E cp48 := conS eok cp47_ok noE_ok fun x => Eq.mp (by kernel_rfl) (ref03_Two_is x.1)
noncomputable abbrev C48 := codeOf E.P 34
noncomputable abbrev P48 {α : Type} := @preK α E 34 cp48 noE
def ref03_Window_r1_q {β : Type} (op : Int) (K : Bool → β) : β := (bif (decide (op ≥ 1)) then (bif (decide (op ≤ 5)) then (K (op != 3)) else (K false)) else (K false))
def ref03_Window_r1_p (op : Int) : Bool := ref03_Window_r1_q op (fun y => y)
theorem ref03_Window_r1_n {β : Type} (op : Int) (K : Bool → β) : ref03_Window_r1_q op K = K (ref03_Window_r1_p op) := (bif_k K (bif_k K rfl rfl) rfl)
theorem ref03_Window_r1 {α : Type} (op : Int) (k : St → Option α) : P48 2 C48 ⟨[(0, ri op)], [], [], 13⟩ k = k ⟨[(2, rb (ref03_Window_r1_p op))], [], [], 13⟩ := Eq.trans (by kernel_rfl) (ref03_Window_r1_n op (fun y604 : Bool => k ⟨[(2, rb y604)], [], [], 13⟩))
/-- quilt/quiltref03.Window -/
def ref03_Window_q {β : Type} (op : Int) (K : Bool → β) : β := (K (ref03_Window_r1_p op))
def ref03_Window (op : Int) : Bool := ref03_Window_q op (fun y => y)
theorem ref03_Window_n {β : Type} (op : Int) (K : Bool → β) : ref03_Window_q op K = K (ref03_Window op) := rfl
theorem ref03_Window_is (op : Int) : stepS E cp48 noE 34 [ri op] = (fun y : Bool => some (rb y : R)) (ref03_Window op) := by
  refine Eq.trans ?_ (ref03_Window_n op (fun y : Bool => some (rb y : R)))
  refine (stepG_is (nt := 13) (regs := [(0, ri op)])).trans ?_
  unfold ref03_Window_q
  refine (pre2 (ref03_Window_r1 op _)).trans ?_
  refine (ret_eq).trans ?_
  kernel_rfl
noncomputable def cp49 : CallP := withC cp48 34 [pI] (.one pB) (fun y : Bool => y) (fun x => some (ref03_Window x.1))
theorem cp49_ok : PureOK E cp49 := conS eok cp48_ok noE_ok fun x => Eq.mp (by kernel_rfl) (ref03_Window_is x.1)
section
variable {α β : Type} (x_ : Int) (low : Int) (high : Int) (k : St → Option α)
noncomputable abbrev C49 := codeOf E.P 26
noncomputable abbrev P49 := @preK α E 26 cp49 noE
def ref03_in_r1_q (K : Bool → β) : β := (bif (decide (x_ ≥ low)) then (K (decide (x_ ≤ high))) else (K false))
def ref03_in_r1_p : Bool := ref03_in_r1_q x_ low high (fun y => y)
theorem ref03_in_r1_n (K : Bool → β) : ref03_in_r1_q x_ low high K = K (ref03_in_r1_p x_ low high) := (bif_k K rfl rfl)
theorem ref03_in_r1 : P49 2 C49 ⟨[(0, ri x_), (1, ri low), (2, ri high)], [], [], 15⟩ k = k ⟨[(6, rb (ref03_in_r1_p x_ low high))], [], [], 15⟩ := Eq.trans (by kernel_rfl) (ref03_in_r1_n x_ low high (fun y605 : Bool => k ⟨[(6, rb y605)], [], [], 15⟩))
/-- quilt/quiltref03.in -/
def ref03_in_q (K : Bool → β) : β := (K (ref03_in_r1_p x_ low high))
def ref03_in : Bool := ref03_in_q x_ low high (fun y => y)
theorem ref03_in_n (K : Bool → β) : ref03_in_q x_ low high K = K (ref03_in x_ low high) := rfl
theorem ref03_in_is : stepS E cp49 noE 26 [ri x_, ri low, ri high] = (fun y : Bool => some (rb y : R)) (ref03_in x_ low high) := by
  refine Eq.trans ?_ (ref03_in_n x_ low high (fun y : Bool => some (rb y : R)))
  refine (stepG_is (nt := 15) (regs := [(0, ri x_), (1, ri low), (2, ri high)])).trans ?_
  unfold ref03_in_q
  refine (pre2 (ref03_in_r1 x_ low high _)).trans ?_
  refine (ret_eq).trans ?_
  kernel_rfl
noncomputable def cp50 : CallP := withC cp49 26 [pI, pI, pI] (.one pB) (fun y : Bool => y) (fun x => some (ref03_in x.1 x.2.1 x.2.2.1))
theorem cp50_ok : PureOK E cp50 := conS eok cp49_ok noE_ok fun x => Eq.mp (by kernel_rfl) (ref03_in_is x.1 x.2.1 x.2.2.1)
end
section
variable {α β : Type} (n_ : Node) (many : Int) (k : St → Option α) (q : Kont α)
noncomputable abbrev C50 := codeOf E.P 21
noncomputable abbrev P50 := @preK α E 21 cp50 noE
noncomputable abbrev R50 := @runCode α E 21 cp50 noE
noncomputable abbrev Q50 := @seqC α E 21 cp50 noE
abbrev S50_0 : St := ⟨[(1, ri many), (2, rC tsNode n_), (5, ri 1)], [], [], 119⟩
theorem ref03_node_f2 : P50 2 C50 ⟨[(0, rA tsNode n_), (1, ri many)], [], [], 119⟩ k = k (S50_0 n_ many) := by kernel_rfl
theorem ref03_node_f1000003 : P50 1 C50.r.r.l (S50_0 n_ many) k = k ⟨[(1, ri many), (2, rC tsNode n_), (5, ri 1), (13, rb (ref03_Two n_.1))], [], [], 119⟩ := by kernel_rfl
abbrev S50_1 : St := ⟨[(1, ri many), (2, rC tsNode n_), (5, ri 2)], [], [], 119⟩
theorem ref03_node_r3 : R50 C50.r.r.l.r.t (S50_0 n_ many) q = q .normal (S50_1 n_ many) := by kernel_rfl
def ref03_node_j2_q (K : Int → β) : β := (bif (ref03_Two n_.1) then (K (2 : Int)) else (K (1 : Int)))
def ref03_node_j2_p : Int := ref03_node_j2_q n_ (fun y => y)
theorem ref03_node_j2_n (K : Int → β) : ref03_node_j2_q n_ K = K (ref03_node_j2_p n_) := (bif_k K rfl rfl)
abbrev S50_2 : St := ⟨[(1, ri many), (2, rC tsNode n_), (5, ri (ref03_node_j2_p n_))], [], [], 119⟩
theorem ref03_node_j2 : R50 C50.r.r.l (S50_0 n_ many) (Q50 C50.r.r.r q) = R50 C50.r.r.r (S50_2 n_ many) q := by
  refine Eq.trans ?_ (ref03_node_j2_n n_ (fun y602 : Int => R50 C50.r.r.r ⟨[(1, ri many), (2, rC tsNode n_), (5, ri y602)], [], [], 119⟩ q))
  unfold ref03_node_j2_q
  refine (pre1 (ref03_node_f1000003 n_ many _)).trans ?_
  refine (cond_e (b := (ref03_Two n_.1)) (st' := (S50_0 n_ many)) ).trans (bif_g ?_ ?_)
  · refine (ref03_node_r3 n_ many _).trans ?_
    refine (seqC_normal (st' := (S50_1 n_ many))).trans ?_
    kernel_rfl
  · refine (skip_eq).trans ?_
    refine (seqC_normal (st' := (S50_0 n_ many))).trans ?_
    kernel_rfl
def ref03_node_r4_q (K : Bool → β) : β := (bif (n_.2.2.1 == 0) then (K (n_.2.2.2.1 == 0)) else (K false))
def ref03_node_r4_p : Bool := ref03_node_r4_q n_ (fun y => y)
theorem ref03_node_r4_n (K : Bool → β) : ref03_node_r4_q n_ K = K (ref03_node_r4_p n_) := (bif_k K rfl rfl)
abbrev S50_3 : St := ⟨[(1, ri many), (2, rC tsNode n_), (5, ri (ref03_node_j2_p n_)), (6, rb (ref03_node_r4_p n_))], [], [], 119⟩
theorem ref03_node_r4 : P50 1 C50.r.r.r (S50_2 n_ many) k = k (S50_3 n_ many) := Eq.trans (by kernel_rfl) (ref03_node_r4_n n_ (fun y603 : Bool => k ⟨[(1, ri many), (2, rC tsNode n_), (5, ri (ref03_node_j2_p n_)), (6, rb y603)], [], [], 119⟩))
theorem ref03_node_f1000006 : P50 1 C50.r.r.r.r.l (S50_3 n_ many) k = k ⟨[(1, ri many), (2, rC tsNode n_), (5, ri (ref03_node_j2_p n_)), (6, rb (ref03_node_r4_p n_)), (24, rb (ref03_Window n_.1))], [], [], 119⟩ := by kernel_rfl
def ref03_node_r6_q (K : Bool → β) : β := (bif (ref03_in n_.2.2.1 (1 : Int) (3 : Int)) then (K (ref03_in n_.2.2.2.1 (1 : Int) (2 : Int))) else (K false))
def ref03_node_r6_p : Bool := ref03_node_r6_q n_ (fun y => y)
theorem ref03_node_r6_n (K : Bool → β) : ref03_node_r6_q n_ K = K (ref03_node_r6_p n_) := (bif_k K rfl rfl)
abbrev S50_4 : St := ⟨[(1, ri many), (2, rC tsNode n_), (5, ri (ref03_node_j2_p n_)), (6, rb (ref03_node_r6_p n_))], [], [], 119⟩
theorem ref03_node_r6 : R50 C50.r.r.r.r.l.r.t (S50_3 n_ many) q = q .normal (S50_4 n_ many) := Eq.trans (by kernel_rfl) (ref03_node_r6_n n_ (fun y606 : Bool => q .normal ⟨[(1, ri many), (2, rC tsNode n_), (5, ri (ref03_node_j2_p n_)), (6, rb y606)], [], [], 119⟩))
def ref03_node_j5_q (K : Bool → β) : β := (bif (ref03_Window n_.1) then (K (ref03_node_r6_p n_)) else (K (ref03_node_r4_p n_)))
def ref03_node_j5_p : Bool := ref03_node_j5_q n_ (fun y => y)
theorem ref03_node_j5_n (K : Bool → β) : ref03_node_j5_q n_ K = K (ref03_node_j5_p n_) := (bif_k K rfl rfl)
abbrev S50_5 : St := ⟨[(1, ri many), (2, rC tsNode n_), (5, ri (ref03_node_j2_p n_)), (6, rb (ref03_node_j5_p n_))], [], [], 119⟩
theorem ref03_node_j5 : R50 C50.r.r.r.r.l (S50_3 n_ many) (Q50 C50.r.r.r.r.r q) = R50 C50.r.r.r.r.r (S50_5 n_ many) q := by
  refine Eq.trans ?_ (ref03_node_j5_n n_ (fun y607 : Bool => R50 C50.r.r.r.r.r ⟨[(1, ri many), (2, rC tsNode n_), (5, ri (ref03_node_j2_p n_)), (6, rb y607)], [], [], 119⟩ q))
  unfold ref03_node_j5_q
  refine (pre1 (ref03_node_f1000006 n_ many _)).trans ?_
  refine (cond_e (b := (ref03_Window n_.1)) (st' := (S50_3 n_ many)) ).trans (bif_g ?_ ?_)
  · refine (ref03_node_r6 n_ many _).trans ?_
    refine (seqC_normal (st' := (S50_4 n_ many))).trans ?_
    kernel_rfl
  · refine (skip_eq).trans ?_
    refine (seqC_normal (st' := (S50_3 n_ many))).trans ?_
    kernel_rfl
abbrev S50_6 : St := ⟨[(1, ri many), (2, rC tsNode n_), (5, ri (ref03_node_j2_p n_)), (6, rb (ref03_node_j5_p n_)), (7, rb (n_.2.2.2.2.1 == 0))], [], [], 119⟩
theorem ref03_node_f8 : P50 1 C50.r.r.r.r.r (S50_5 n_ many) k = k (S50_6 n_ many) := by kernel_rfl
def ref03_node_r8_q (K : Bool → β) : β := (bif (n_.1 == 1) then (K true) else (K (n_.1 == 2)))
def ref03_node_r8_p : Bool := ref03_node_r8_q n_ (fun y => y)
theorem ref03_node_r8_n (K : Bool → β) : ref03_node_r8_q n_ K = K (ref03_node_r8_p n_) := (bif_k K rfl rfl)
theorem ref03_node_r8 : P50 1 C50.r.r.r.r.r.r.l (S50_6 n_ many) k = k ⟨[(1, ri many), (2, rC tsNode n_), (5, ri (ref03_node_j2_p n_)), (6, rb (ref03_node_j5_p n_)), (7, rb (n_.2.2.2.2.1 == 0)), (43, rb (ref03_node_r8_p n_))], [], [], 119⟩ := Eq.trans (by kernel_rfl) (ref03_node_r8_n n_ (fun y608 : Bool => k ⟨[(1, ri many), (2, rC tsNode n_), (5, ri (ref03_node_j2_p n_)), (6, rb (ref03_node_j5_p n_)), (7, rb (n_.2.2.2.2.1 == 0)), (43, rb y608)], [], [], 119⟩))
def ref03_node_r9_q (K : Bool → β) : β := (bif (ref03_in n_.2.2.2.2.1 (0 : Int) (1 : Int)) then (K (decide (n_.2.2.2.2.1 < n_.2.2.1))) else (K false))
def ref03_node_r9_p : Bool := ref03_node_r9_q n_ (fun y => y)
theorem ref03_node_r9_n (K : Bool → β) : ref03_node_r9_q n_ K = K (ref03_node_r9_p n_) := (bif_k K rfl rfl)
abbrev S50_7 : St := ⟨[(1, ri many), (2, rC tsNode n_), (5, ri (ref03_node_j2_p n_)), (6, rb (ref03_node_j5_p n_)), (7, rb (ref03_node_r9_p n_))], [], [], 119⟩
theorem ref03_node_r9 : R50 C50.r.r.r.r.r.r.l.r.t (S50_6 n_ many) q = q .normal (S50_7 n_ many) := Eq.trans (by kernel_rfl) (ref03_node_r9_n n_ (fun y609 : Bool => q .normal ⟨[(1, ri many), (2, rC tsNode n_), (5, ri (ref03_node_j2_p n_)), (6, rb (ref03_node_j5_p n_)), (7, rb y609)], [], [], 119⟩))
def ref03_node_j8_q (K : Bool → β) : β := (bif (ref03_node_r8_p n_) then (K (ref03_node_r9_p n_)) else (K (n_.2.2.2.2.1 == 0)))
def ref03_node_j8_p : Bool := ref03_node_j8_q n_ (fun y => y)
theorem ref03_node_j8_n (K : Bool → β) : ref03_node_j8_q n_ K = K (ref03_node_j8_p n_) := (bif_k K rfl rfl)
abbrev S50_8 : St := ⟨[(1, ri many), (2, rC tsNode n_), (5, ri (ref03_node_j2_p n_)), (6, rb (ref03_node_j5_p n_)), (7, rb (ref03_node_j8_p n_))], [], [], 119⟩
theorem ref03_node_j8 : R50 C50.r.r.r.r.r.r.l (S50_6 n_ many) (Q50 C50.r.r.r.r.r.r.r q) = R50 C50.r.r.r.r.r.r.r (S50_8 n_ many) q := by
  refine Eq.trans ?_ (ref03_node_j8_n n_ (fun y610 : Bool => R50 C50.r.r.r.r.r.r.r ⟨[(1, ri many), (2, rC tsNode n_), (5, ri (ref03_node_j2_p n_)), (6, rb (ref03_node_j5_p n_)), (7, rb y610)], [], [], 119⟩ q))
  unfold ref03_node_j8_q
  refine (pre1 (ref03_node_r8 n_ many _)).trans ?_
  refine (cond_e (b := (ref03_node_r8_p n_)) (st' := (S50_6 n_ many)) ).trans (bif_g ?_ ?_)
  · refine (ref03_node_r9 n_ many _).trans ?_
    refine (seqC_normal (st' := (S50_7 n_ many))).trans ?_
    kernel_rfl
  · refine (skip_eq).trans ?_
    refine (seqC_normal (st' := (S50_6 n_ many))).trans ?_
    kernel_rfl
theorem ref03_node_f1000011 : P50 1 C50.r.r.r.r.r.r.r.l (S50_8 n_ many) k = k ⟨[(1, ri many), (2, rC tsNode n_), (5, ri (ref03_node_j2_p n_)), (6, rb (ref03_node_j5_p n_)), (7, rb (ref03_node_j8_p n_)), (56, rb (n_.1 == 9))], [], [], 119⟩ := by kernel_rfl
abbrev S50_9 : St := ⟨[(1, ri many), (2, rC tsNode n_), (5, ri (ref03_node_j2_p n_)), (6, rb (ref03_node_j5_p n_)), (7, rb (n_.2.2.2.2.1 == 1))], [], [], 119⟩
theorem ref03_node_r11 : R50 C50.r.r.r.r.r.r.r.l.r.t (S50_8 n_ many) q = q .normal (S50_9 n_ many) := by kernel_rfl
def ref03_node_j10_q (K : Bool → β) : β := (bif (n_.1 == 9) then (K (n_.2.2.2.2.1 == 1)) else (K (ref03_node_j8_p n_)))
def ref03_node_j10_p : Bool := ref03_node_j10_q n_ (fun y => y)
theorem ref03_node_j10_n (K : Bool → β) : ref03_node_j10_q n_ K = K (ref03_node_j10_p n_) := (bif_k K rfl rfl)
abbrev S50_10 : St := ⟨[(1, ri many), (2, rC tsNode n_), (5, ri (ref03_node_j2_p n_)), (6, rb (ref03_node_j5_p n_)), (7, rb (ref03_node_j10_p n_))], [], [], 119⟩
theorem ref03_node_j10 : R50 C50.r.r.r.r.r.r.r.l (S50_8 n_ many) (Q50 C50.r.r.r.r.r.r.r.r q) = R50 C50.r.r.r.r.r.r.r.r (S50_10 n_ many) q := by
  refine Eq.trans ?_ (ref03_node_j10_n n_ (fun y611 : Bool => R50 C50.r.r.r.r.r.r.r.r ⟨[(1, ri many), (2, rC tsNode n_), (5, ri (ref03_node_j2_p n_)), (6, rb (ref03_node_j5_p n_)), (7, rb y611)], [], [], 119⟩ q))
  unfold ref03_node_j10_q
  refine (pre1 (ref03_node_f1000011 n_ many _)).trans ?_
  refine (cond_e (b := (n_.1 == 9)) (st' := (S50_8 n_ many)) ).trans (bif_g ?_ ?_)
  · refine (ref03_node_r11 n_ many _).trans ?_
    refine (seqC_normal (st' := (S50_9 n_ many))).trans ?_
    kernel_rfl
  · refine (skip_eq).trans ?_
    refine (seqC_normal (st' := (S50_8 n_ many))).trans ?_
    kernel_rfl
abbrev S50_11 : St := ⟨[(1, ri many), (2, rC tsNode n_), (5, ri (ref03_node_j2_p n_)), (6, rb (ref03_node_j5_p n_)), (7, rb (ref03_node_j10_p n_)), (8, rb (n_.2.2.2.2.2.1 == 0))], [], [], 119⟩
theorem ref03_node_f13 : P50 1 C50.r.r.r.r.r.r.r.r (S50_10 n_ many) k = k (S50_11 n_ many) := by kernel_rfl
def ref03_node_r13_q (K : Bool → β) : β := (bif (n_.1 == 1) then (K true) else (K (n_.1 == 3)))
def ref03_node_r13_p : Bool := ref03_node_r13_q n_ (fun y => y)
theorem ref03_node_r13_n (K : Bool → β) : ref03_node_r13_q n_ K = K (ref03_node_r13_p n_) := (bif_k K rfl rfl)
theorem ref03_node_r13 : P50 1 C50.r.r.r.r.r.r.r.r.r.l (S50_11 n_ many) k = k ⟨[(1, ri many), (2, rC tsNode n_), (5, ri (ref03_node_j2_p n_)), (6, rb (ref03_node_j5_p n_)), (7, rb (ref03_node_j10_p n_)), (8, rb (n_.2.2.2.2.2.1 == 0)), (70, rb (ref03_node_r13_p n_))], [], [], 119⟩ := Eq.trans (by kernel_rfl) (ref03_node_r13_n n_ (fun y612 : Bool => k ⟨[(1, ri many), (2, rC tsNode n_), (5, ri (ref03_node_j2_p n_)), (6, rb (ref03_node_j5_p n_)), (7, rb (ref03_node_j10_p n_)), (8, rb (n_.2.2.2.2.2.1 == 0)), (70, rb y612)], [], [], 119⟩))
abbrev S50_12 : St := ⟨[(1, ri many), (2, rC tsNode n_), (5, ri (ref03_node_j2_p n_)), (6, rb (ref03_node_j5_p n_)), (7, rb (ref03_node_j10_p n_)), (8, rb (ref03_in n_.2.2.2.2.2.1 (1 : Int) (8 : Int)))], [], [], 119⟩
theorem ref03_node_r14 : R50 C50.r.r.r.r.r.r.r.r.r.l.r.t (S50_11 n_ many) q = q .normal (S50_12 n_ many) := by kernel_rfl
def ref03_node_j13_q (K : Bool → β) : β := (bif (ref03_node_r13_p n_) then (K (ref03_in n_.2.2.2.2.2.1 (1 : Int) (8 : Int))) else (K (n_.2.2.2.2.2.1 == 0)))
def ref03_node_j13_p : Bool := ref03_node_j13_q n_ (fun y => y)
theorem ref03_node_j13_n (K : Bool → β) : ref03_node_j13_q n_ K = K (ref03_node_j13_p n_) := (bif_k K rfl rfl)
abbrev S50_13 : St := ⟨[(1, ri many), (2, rC tsNode n_), (5, ri (ref03_node_j2_p n_)), (6, rb (ref03_node_j5_p n_)), (7, rb (ref03_node_j10_p n_)), (8, rb (ref03_node_j13_p n_))], [], [], 119⟩
theorem ref03_node_j13 : R50 C50.r.r.r.r.r.r.r.r.r.l (S50_11 n_ many) (Q50 C50.r.r.r.r.r.r.r.r.r.r q) = R50 C50.r.r.r.r.r.r.r.r.r.r (S50_13 n_ many) q := by
  refine Eq.trans ?_ (ref03_node_j13_n n_ (fun y613 : Bool => R50 C50.r.r.r.r.r.r.r.r.r.r ⟨[(1, ri many), (2, rC tsNode n_), (5, ri (ref03_node_j2_p n_)), (6, rb (ref03_node_j5_p n_)), (7, rb (ref03_node_j10_p n_)), (8, rb y613)], [], [], 119⟩ q))
  unfold ref03_node_j13_q
  refine (pre1 (ref03_node_r13 n_ many _)).trans ?_
  refine (cond_e (b := (ref03_node_r13_p n_)) (st' := (S50_11 n_ many)) ).trans (bif_g ?_ ?_)
  · refine (ref03_node_r14 n_ many _).trans ?_
    refine (seqC_normal (st' := (S50_12 n_ many))).trans ?_
    kernel_rfl
  · refine (skip_eq).trans ?_
    refine (seqC_normal (st' := (S50_11 n_ many))).trans ?_
    kernel_rfl
def ref03_node_r15_q (K : Bool → β) : β := (bif ((n_.2.2.2.2.2.2.2.2.2.1 == 0) && ((n_.2.2.2.2.2.2.2.2.2.2.1 == 0) && ((n_.2.2.2.2.2.2.2.2.2.2.2.1 == 0) && true))) then (K true) else (K (n_.1 == 11)))
def ref03_node_r15_p : Bool := ref03_node_r15_q n_ (fun y => y)
theorem ref03_node_r15_n (K : Bool → β) : ref03_node_r15_q n_ K = K (ref03_node_r15_p n_) := (bif_k K rfl rfl)
abbrev S50_14 : St := ⟨[(1, ri many), (2, rC tsNode n_), (5, ri (ref03_node_j2_p n_)), (6, rb (ref03_node_j5_p n_)), (7, rb (ref03_node_j10_p n_)), (8, rb (ref03_node_j13_p n_)), (9, rb (ref03_node_r15_p n_))], [], [], 119⟩
theorem ref03_node_r15 : P50 1 C50.r.r.r.r.r.r.r.r.r.r (S50_13 n_ many) k = k (S50_14 n_ many) := Eq.trans (by kernel_rfl) (ref03_node_r15_n n_ (fun y614 : Bool => k ⟨[(1, ri many), (2, rC tsNode n_), (5, ri (ref03_node_j2_p n_)), (6, rb (ref03_node_j5_p n_)), (7, rb (ref03_node_j10_p n_)), (8, rb (ref03_node_j13_p n_)), (9, rb y614)], [], [], 119⟩))
def ref03_node_r16_q (K : Bool → β) : β := (bif (ref03_in n_.2.2.2.2.2.2.1 (1 : Int) (32767 : Int)) then (bif (ref03_in n_.2.2.2.2.2.2.2.1 (0 : Int) (31 : Int)) then (K (ref03_in n_.2.2.2.2.2.2.2.2.1 (-128 : Int) (127 : Int))) else (K false)) else (K false))
def ref03_node_r16_p : Bool := ref03_node_r16_q n_ (fun y => y)
theorem ref03_node_r16_n (K : Bool → β) : ref03_node_r16_q n_ K = K (ref03_node_r16_p n_) := (bif_k K (bif_k K rfl rfl) rfl)
abbrev S50_15 : St := ⟨[(1, ri many), (2, rC tsNode n_), (5, ri (ref03_node_j2_p n_)), (6, rb (ref03_node_j5_p n_)), (7, rb (ref03_node_j10_p n_)), (8, rb (ref03_node_j13_p n_)), (9, rb (ref03_node_r15_p n_)), (10, rb (ref03_node_r16_p n_))], [], [], 119⟩
theorem ref03_node_r16 : P50 1 C50.r.r.r.r.r.r.r.r.r.r.r (S50_14 n_ many) k = k (S50_15 n_ many) := Eq.trans (by kernel_rfl) (ref03_node_r16_n n_ (fun y615 : Bool => k ⟨[(1, ri many), (2, rC tsNode n_), (5, ri (ref03_node_j2_p n_)), (6, rb (ref03_node_j5_p n_)), (7, rb (ref03_node_j10_p n_)), (8, rb (ref03_node_j13_p n_)), (9, rb (ref03_node_r15_p n_)), (10, rb y615)], [], [], 119⟩))
def ref03_node_r17_q (K : Bool → β) : β := (bif (ref03_in n_.1 (1 : Int) (12 : Int)) then (bif (many == (ref03_node_j2_p n_)) then (bif (ref03_node_j5_p n_) then (bif (ref03_node_j10_p n_) then (bif (ref03_node_j13_p n_) then (bif (ref03_node_r15_p n_) then (K (ref03_node_r16_p n_)) else (K false)) else (K false)) else (K false)) else (K false)) else (K false)) else (K false))
def ref03_node_r17_p : Bool := ref03_node_r17_q n_ many (fun y => y)
theorem ref03_node_r17_n (K : Bool → β) : ref03_node_r17_q n_ many K = K (ref03_node_r17_p n_ many) := (bif_k K (bif_k K (bif_k K (bif_k K (bif_k K (bif_k K rfl rfl) rfl) rfl) rfl) rfl) rfl)
theorem ref03_node_r17 : P50 1 C50.r.r.r.r.r.r.r.r.r.r.r.r (S50_15 n_ many) k = k ⟨[(4, rb (ref03_node_r17_p n_ many))], [], [], 119⟩ := Eq.trans (by kernel_rfl) (ref03_node_r17_n n_ many (fun y616 : Bool => k ⟨[(4, rb y616)], [], [], 119⟩))
/-- quilt/quiltref03.node -/
def ref03_node_q (K : Bool → β) : β := (K (ref03_node_r17_p n_ many))
def ref03_node : Bool := ref03_node_q n_ many (fun y => y)
theorem ref03_node_n (K : Bool → β) : ref03_node_q n_ many K = K (ref03_node n_ many) := rfl
theorem ref03_node_is : stepS E cp50 noE 21 [rA tsNode n_, ri many] = (fun y : Bool => some (rb y : R)) (ref03_node n_ many) := by
  refine Eq.trans ?_ (ref03_node_n n_ many (fun y : Bool => some (rb y : R)))
  refine (stepG_is (nt := 119) (regs := [(0, rA tsNode n_), (1, ri many)])).trans ?_
  unfold ref03_node_q
  refine (pre2 (ref03_node_f2 n_ many _)).trans ?_
  refine .trans seq_push ?_
  refine (ref03_node_j2 n_ many _).trans ?_
  refine (pre1 (ref03_node_r4 n_ many _)).trans ?_
  refine .trans seq_push ?_
  refine (ref03_node_j5 n_ many _).trans ?_
  refine (pre1 (ref03_node_f8 n_ many _)).trans ?_
  refine .trans seq_push ?_
  refine (ref03_node_j8 n_ many _).trans ?_
  refine .trans seq_push ?_
  refine (ref03_node_j10 n_ many _).trans ?_
  refine (pre1 (ref03_node_f13 n_ many _)).trans ?_
  refine .trans seq_push ?_
  refine (ref03_node_j13 n_ many _).trans ?_
  refine (pre1 (ref03_node_r15 n_ many _)).trans ?_
  refine (pre1 (ref03_node_r16 n_ many _)).trans ?_
  refine (pre1 (ref03_node_r17 n_ many _)).trans ?_
  refine (ret_eq).trans ?_
  kernel_rfl
noncomputable def cp51 : CallP := withC cp50 21 [(.agg tsNode), pI] (.one pB) (fun y : Bool => y) (fun x => some (ref03_node x.1 x.2.1))
theorem cp51_ok : PureOK E cp51 := conS eok cp50_ok noE_ok fun x => Eq.mp (by kernel_rfl) (ref03_node_is x.1 x.2.1)
end
noncomputable abbrev C51 := codeOf E.P 22
noncomputable abbrev P51 {α : Type} := @preK α E 22 cp51 noE
def ref03_keeps_r1_q {β : Type} (op : Int) (K : Bool → β) : β := (bif (op == 4) then (K true) else (bif (op == 5) then (K true) else (bif (op == 8) then (K true) else (bif (op == 9) then (K true) else (bif (op == 10) then (K true) else (K (op == 11)))))))
def ref03_keeps_r1_p (op : Int) : Bool := ref03_keeps_r1_q op (fun y => y)
theorem ref03_keeps_r1_n {β : Type} (op : Int) (K : Bool → β) : ref03_keeps_r1_q op K = K (ref03_keeps_r1_p op) := (bif_k K rfl (bif_k K rfl (bif_k K rfl (bif_k K rfl (bif_k K rfl rfl)))))
theorem ref03_keeps_r1 {α : Type} (op : Int) (k : St → Option α) : P51 2 C51 ⟨[(0, ri op)], [], [], 25⟩ k = k ⟨[(2, rb (ref03_keeps_r1_p op))], [], [], 25⟩ := Eq.trans (by kernel_rfl) (ref03_keeps_r1_n op (fun y618 : Bool => k ⟨[(2, rb y618)], [], [], 25⟩))
/-- quilt/quiltref03.keeps -/
def ref03_keeps_q {β : Type} (op : Int) (K : Bool → β) : β := (K (ref03_keeps_r1_p op))
def ref03_keeps (op : Int) : Bool := ref03_keeps_q op (fun y => y)
theorem ref03_keeps_n {β : Type} (op : Int) (K : Bool → β) : ref03_keeps_q op K = K (ref03_keeps op) := rfl
theorem ref03_keeps_is (op : Int) : stepS E cp51 noE 22 [ri op] = (fun y : Bool => some (rb y : R)) (ref03_keeps op) := by
  refine Eq.trans ?_ (ref03_keeps_n op (fun y : Bool => some (rb y : R)))
  refine (stepG_is (nt := 25) (regs := [(0, ri op)])).trans ?_
  unfold ref03_keeps_q
  refine (pre2 (ref03_keeps_r1 op _)).trans ?_
  refine (ret_eq).trans ?_
  kernel_rfl
noncomputable def cp52 : CallP := withC cp51 22 [pI] (.one pB) (fun y : Bool => y) (fun x => some (ref03_keeps x.1))
theorem cp52_ok : PureOK E cp52 := conS eok cp51_ok noE_ok fun x => Eq.mp (by kernel_rfl) (ref03_keeps_is x.1)
noncomputable abbrev C52 := codeOf E.P 23
noncomputable abbrev P52 {α : Type} := @preK α E 23 cp52 noE
theorem ref02_May_f1 {α : Type} (s_ : I3) (k : St → Option α) : P52 1 C52 ⟨[(0, rA tsI3 s_)], [], [], 31⟩ k = k ⟨[(1, rC tsI3 s_)], [], [], 31⟩ := by kernel_rfl
def ref02_May_r1_q {β : Type} (s_ : I3) (K : Bool → β) : β := (bif (decide (s_.1 < 1)) then (K true) else (bif (decide (s_.1 > 16)) then (K true) else (bif (decide (s_.2.1 < 1)) then (K true) else (bif (decide (s_.2.1 > 16)) then (K true) else (bif (decide (s_.2.2 < 1)) then (K true) else (K (decide (s_.2.2 > 8))))))))
def ref02_May_r1_p (s_ : I3) : Bool := ref02_May_r1_q s_ (fun y => y)
theorem ref02_May_r1_n {β : Type} (s_ : I3) (K : Bool → β) : ref02_May_r1_q s_ K = K (ref02_May_r1_p s_) := (bif_k K rfl (bif_k K rfl (bif_k K rfl (bif_k K rfl (bif_k K rfl rfl)))))
theorem ref02_May_r1 {α : Type} (s_ : I3) (k : St → Option α) : P52 1 C52.r.l ⟨[(1, rC tsI3 s_)], [], [], 31⟩ k = k ⟨[(30, rb (ref02_May_r1_p s_))], [], [], 31⟩ := Eq.trans (by kernel_rfl) (ref02_May_r1_n s_ (fun y636 : Bool => k ⟨[(30, rb y636)], [], [], 31⟩))
theorem ref02_May_fz {α : Type} (k : St → Option α) : P52 1 C52.r.l.r.t ⟨[], [], [], 31⟩ k = k ⟨[(2, ri 10)], [], [], 31⟩ := by kernel_rfl
theorem ref02_May_fzx1 {α : Type} (k : St → Option α) : P52 1 C52.r.r ⟨[], [], [], 31⟩ k = k ⟨[(2, ri 0)], [], [], 31⟩ := by kernel_rfl
/-- quilt/quiltref02.May -/
def ref02_May_q {β : Type} (s_ : I3) (K : Int → β) : β := (bif (ref02_May_r1_p s_) then (K (10 : Int)) else (K (0 : Int)))
def ref02_May (s_ : I3) : Int := ref02_May_q s_ (fun y => y)
theorem ref02_May_n {β : Type} (s_ : I3) (K : Int → β) : ref02_May_q s_ K = K (ref02_May s_) := (bif_k K rfl rfl)
theorem ref02_May_is (s_ : I3) : stepS E cp52 noE 23 [rA tsI3 s_] = (fun y : Int => some (ri y : R)) (ref02_May s_) := by
  refine Eq.trans ?_ (ref02_May_n s_ (fun y : Int => some (ri y : R)))
  refine (stepG_is (nt := 31) (regs := [(0, rA tsI3 s_)])).trans ?_
  unfold ref02_May_q
  refine (pre1 (ref02_May_f1 s_ _)).trans ?_
  refine .trans seq_push ?_
  refine (pre1 (ref02_May_r1 s_ _)).trans ?_
  refine (cond_e (b := (ref02_May_r1_p s_)) (st' := ⟨[], [], [], 31⟩) ).trans (bif_g ?_ ?_)
  · refine (pre1 (ref02_May_fz _)).trans ?_
    refine (ret_eq).trans ?_
    refine seqC_ret.trans ?_
    kernel_rfl
  · refine (skip_eq).trans ?_
    refine (seqC_normal (st' := ⟨[], [], [], 31⟩)).trans ?_
    refine (pre1 (ref02_May_fzx1 _)).trans ?_
    refine (ret_eq).trans ?_
    kernel_rfl
noncomputable def cp53 : CallP := withC cp52 23 [(.agg tsI3)] (.one pI) (fun y : Int => y) (fun x => some (ref02_May x.1))
theorem cp53_ok : PureOK E cp53 := conS eok cp52_ok noE_ok fun x => Eq.mp (by kernel_rfl) (ref02_May_is x.1)
section
variable {α β : Type} (size : Int) (k_ : Int) (stride : Int) (pad : Int) (s665 : (Int × Int)) (y666 : (Int × Int)) (k : St → Option α) (q : Kont α)
noncomputable abbrev C53 := codeOf E.P 35
noncomputable abbrev P53 := @preK α E 35 cp53 noE
noncomputable abbrev R53 := @runCode α E 35 cp53 noE
abbrev S53_0 : St := ⟨[(0, ri size), (1, ri k_), (2, ri stride), (3, ri pad)], [], [], 56⟩
theorem ref02_Out_f1 : P53 1 C53 (S53_0 size k_ stride pad) k = k (S53_0 size k_ stride pad) := by kernel_rfl
def ref02_Out_r1_q (K : Bool → β) : β := (bif (decide (size < 1)) then (K true) else (bif (decide (size > 64)) then (K true) else (bif (decide (k_ < 1)) then (K true) else (bif (decide (k_ > 16)) then (K true) else (bif (decide (stride < 1)) then (K true) else (bif (decide (stride > 16)) then (K true) else (bif (decide (pad < 0)) then (K true) else (K (decide (pad > 16))))))))))
def ref02_Out_r1_p : Bool := ref02_Out_r1_q size k_ stride pad (fun y => y)
theorem ref02_Out_r1_n (K : Bool → β) : ref02_Out_r1_q size k_ stride pad K = K (ref02_Out_r1_p size k_ stride pad) := (bif_k K rfl (bif_k K rfl (bif_k K rfl (bif_k K rfl (bif_k K rfl (bif_k K rfl (bif_k K rfl rfl)))))))
theorem ref02_Out_r1 : P53 1 C53.r.l (S53_0 size k_ stride pad) k = k ⟨[(0, ri size), (1, ri k_), (2, ri stride), (3, ri pad), (40, rb (ref02_Out_r1_p size k_ stride pad))], [], [], 56⟩ := Eq.trans (by kernel_rfl) (ref02_Out_r1_n size k_ stride pad (fun y656 : Bool => k ⟨[(0, ri size), (1, ri k_), (2, ri stride), (3, ri pad), (40, rb y656)], [], [], 56⟩))
theorem ref02_Out_fz : P53 1 C53.r.l.r.t (S53_0 size k_ stride pad) k = k ⟨[(8, ri 0)], [], [], 56⟩ := by kernel_rfl
theorem ref02_Out_f4 : P53 1 C53.r.r (S53_0 size k_ stride pad) k = k ⟨[(0, ri size), (1, ri k_), (2, ri stride), (3, ri pad), (9, ri 0)], [], [], 56⟩ := by kernel_rfl
abbrev S53_1 : St := ⟨[(0, ri size), (1, ri k_), (2, ri stride), (3, ri pad), (9, ri 0), (10, ri (IntKind.wrap .i64 (0 - pad)))], [], [], 56⟩
theorem ref02_Out_f5 : P53 1 C53.r.r.r.l ⟨[(0, ri size), (1, ri k_), (2, ri stride), (3, ri pad), (9, ri 0)], [], [], 56⟩ k = k (S53_1 size k_ stride pad) := by kernel_rfl
abbrev S53_2 : St := ⟨[(0, ri size), (1, ri k_), (2, ri stride), (3, ri pad), (9, ri s665.1), (10, ri s665.2)], [], [], 56⟩
theorem ref02_Out_fzx1 : P53 1 C53.r.r.r.l.r.b.b.l (S53_2 size k_ stride pad s665) k = k ⟨[(0, ri size), (1, ri k_), (2, ri stride), (3, ri pad), (9, ri s665.1), (10, ri s665.2), (49, rb (decide ((IntKind.wrap .i64 (s665.2 + k_)) ≤ (IntKind.wrap .i64 (size + pad)))))], [], [], 56⟩ := by kernel_rfl
abbrev S53_3 : St := ⟨[(0, ri size), (1, ri k_), (2, ri stride), (3, ri pad), (9, ri (IntKind.wrap .i64 (s665.1 + 1))), (10, ri s665.2)], [], [], 56⟩
theorem ref02_Out_r7 : R53 C53.r.r.r.l.r.b.b.r.l.b (S53_2 size k_ stride pad s665) q = q .normal (S53_3 size k_ stride pad s665) := by kernel_rfl
theorem ref02_Out_r6 : R53 C53.r.r.r.l.r.b.b.r.r (S53_3 size k_ stride pad s665) q = q .normal ⟨[(0, ri size), (1, ri k_), (2, ri stride), (3, ri pad), (9, ri (IntKind.wrap .i64 (s665.1 + 1))), (10, ri (IntKind.wrap .i64 (s665.2 + stride)))], [], [], 56⟩ := by kernel_rfl
def ref02_Out_l5_p : Option ((Int × Int) ⊕ (Int × Int)) := (bif (decide ((IntKind.wrap .i64 (s665.2 + k_)) ≤ (IntKind.wrap .i64 (size + pad)))) then (some (Sum.inl ((IntKind.wrap .i64 (s665.1 + 1)), (IntKind.wrap .i64 (s665.2 + stride))))) else (some (Sum.inr s665)))
abbrev S53_4 : St := ⟨[(0, ri size), (1, ri k_), (2, ri stride), (3, ri pad), (9, ri y666.1), (10, ri y666.2)], [], [], 56⟩
theorem ref02_Out_l5_b : R53 C53.r.r.r.l.r.b.b (S53_2 size k_ stride pad s665) (loopKont 0 q) = Option.bind (ref02_Out_l5_p size k_ stride pad s665) (either (fun y : (Int × Int) => q .normal ⟨[(0, ri size), (1, ri k_), (2, ri stride), (3, ri pad), (9, ri y.1), (10, ri y.2)], [], [], 56⟩) (fun y666 : (Int × Int) => q (.exit 0) (S53_4 size k_ stride pad y666))) := by
  refine .trans ?_ (bif_b e2_0 e2_1)
  refine .trans seq_push ?_
  refine (pre1 (ref02_Out_fzx1 size k_ stride pad s665 _)).trans ?_
  refine (cond_e (b := (decide ((IntKind.wrap .i64 (s665.2 + k_)) ≤ (IntKind.wrap .i64 (size + pad))))) (st' := (S53_2 size k_ stride pad s665)) ).trans (bif_g ?_ ?_)
  · refine (skip_eq).trans ?_
    refine (seqC_normal (st' := (S53_2 size k_ stride pad s665))).trans ?_
    refine .trans seq_push ?_
    refine (block_push (id := 1)).trans ?_
    refine (ref02_Out_r7 size k_ stride pad s665 _).trans ?_
    refine block_normal.trans ?_
    refine (seqC_normal (st' := (S53_3 size k_ stride pad s665))).trans ?_
    refine (ref02_Out_r6 size k_ stride pad s665 _).trans ?_
    kernel_rfl
  · refine ((exit_eq (j := 0))).trans ?_
    refine seqC_exit.trans ?_
    kernel_rfl
theorem ref02_Out_l5 : R53 C53.r.r.r.l.r.b (S53_1 size k_ stride pad) q = Option.bind (iterN (ref02_Out_l5_p size k_ stride pad) LL ((0 : Int), (IntKind.wrap .i64 (0 - pad)))) (fun y666 : (Int × Int) => q (.exit 0) (S53_4 size k_ stride pad y666)) :=
  Eq.trans (by kernel_rfl) (loop_iter1 (S := fun s665 : (Int × Int) => (S53_2 size k_ stride pad s665)) (Y1 := fun y666 : (Int × Int) => ((.exit 0), (S53_4 size k_ stride pad y666))) (fun s q => ref02_Out_l5_b size k_ stride pad s q) (fun z => rfl) LL ((0 : Int), (IntKind.wrap .i64 (0 - pad))))
theorem ref02_Out_fzx2 : P53 1 C53.r.r.r.r ⟨[(9, ri y666.1)], [], [], 56⟩ k = k ⟨[(8, ri y666.1)], [], [], 56⟩ := by kernel_rfl
/-- quilt/quiltref02.Out -/
def ref02_Out : Option Int := (bif (ref02_Out_r1_p size k_ stride pad) then (some (0 : Int)) else (Option.bind (iterN (ref02_Out_l5_p size k_ stride pad) LL ((0 : Int), (IntKind.wrap .i64 (0 - pad)))) (fun y666 : (Int × Int) => (some y666.1))))
theorem ref02_Out_is : stepS E cp53 noE 35 [ri size, ri k_, ri stride, ri pad] = Option.bind (ref02_Out size k_ stride pad) (fun y : Int => some (ri y : R)) := by
  refine .trans ?_ (bif_b some_b (bind_b fun y666 => some_b))
  refine (stepG_is (nt := 56) (regs := [(0, ri size), (1, ri k_), (2, ri stride), (3, ri pad)])).trans ?_
  refine (pre1 (ref02_Out_f1 size k_ stride pad _)).trans ?_
  refine .trans seq_push ?_
  refine (pre1 (ref02_Out_r1 size k_ stride pad _)).trans ?_
  refine (cond_e (b := (ref02_Out_r1_p size k_ stride pad)) (st' := (S53_0 size k_ stride pad)) ).trans (bif_g ?_ ?_)
  · refine (pre1 (ref02_Out_fz size k_ stride pad _)).trans ?_
    refine (ret_eq).trans ?_
    refine seqC_ret.trans ?_
    kernel_rfl
  · refine (skip_eq).trans ?_
    refine (seqC_normal (st' := (S53_0 size k_ stride pad))).trans ?_
    refine (pre1 (ref02_Out_f4 size k_ stride pad _)).trans ?_
    refine .trans seq_push ?_
    refine (pre1 (ref02_Out_f5 size k_ stride pad _)).trans ?_
    refine (block_push (id := 0)).trans ?_
    refine (ref02_Out_l5 size k_ stride pad _).trans (bind_g fun y666 => ?_)
    refine block_same.trans ?_
    refine (seqC_normal (st' := ⟨[(9, ri y666.1)], [], [], 56⟩)).trans ?_
    refine (pre1 (ref02_Out_fzx2 y666 _)).trans ?_
    refine (ret_eq).trans ?_
    kernel_rfl
noncomputable def cp54 : CallP := withC cp53 35 [pI, pI, pI, pI] (.one pI) (fun y : Int => y) (fun x => ref02_Out x.1 x.2.1 x.2.2.1 x.2.2.2.1)
theorem cp54_ok : PureOK E cp54 := conS eok cp53_ok noE_ok fun x => Eq.mp (by kernel_rfl) (ref02_Out_is x.1 x.2.1 x.2.2.1 x.2.2.2.1)
end
noncomputable abbrev C54 := codeOf E.P 13
noncomputable abbrev P54 {α : Type} := @preK α E 13 cp54 noE
abbrev S54_0 (s_ : I3) : St := ⟨[(1, rC tsI3 s_)], [], [], 14⟩
theorem ref02_Size_f1 {α : Type} (s_ : I3) (k : St → Option α) : P54 1 C54 ⟨[(0, rA tsI3 s_)], [], [], 14⟩ k = k (S54_0 s_) := by kernel_rfl
theorem ref02_Size_f1000002 {α : Type} (s_ : I3) (k : St → Option α) : P54 1 C54.r.l (S54_0 s_) k = k ⟨[(1, rC tsI3 s_), (5, rb ((ref02_May s_) != 0))], [], [], 14⟩ := by kernel_rfl
theorem ref02_Size_fz {α : Type} (s_ : I3) (k : St → Option α) : P54 1 C54.r.l.r.t (S54_0 s_) k = k ⟨[(2, ri 0)], [], [], 14⟩ := by kernel_rfl
theorem ref02_Size_fzx1 {α : Type} (s_ : I3) (k : St → Option α) : P54 1 C54.r.r (S54_0 s_) k = k ⟨[(2, ri (IntKind.wrap .i64 ((IntKind.wrap .i64 (s_.1 * s_.2.1)) * s_.2.2)))], [], [], 14⟩ := by kernel_rfl
/-- quilt/quiltref02.Size -/
def ref02_Size_q {β : Type} (s_ : I3) (K : Int → β) : β := (bif ((ref02_May s_) != 0) then (K (0 : Int)) else (K (IntKind.wrap .i64 ((IntKind.wrap .i64 (s_.1 * s_.2.1)) * s_.2.2))))
def ref02_Size (s_ : I3) : Int := ref02_Size_q s_ (fun y => y)
theorem ref02_Size_n {β : Type} (s_ : I3) (K : Int → β) : ref02_Size_q s_ K = K (ref02_Size s_) := (bif_k K rfl rfl)
theorem ref02_Size_is (s_ : I3) : stepS E cp54 noE 13 [rA tsI3 s_] = (fun y : Int => some (ri y : R)) (ref02_Size s_) := by
  refine Eq.trans ?_ (ref02_Size_n s_ (fun y : Int => some (ri y : R)))
  refine (stepG_is (nt := 14) (regs := [(0, rA tsI3 s_)])).trans ?_
  unfold ref02_Size_q
  refine (pre1 (ref02_Size_f1 s_ _)).trans ?_
  refine .trans seq_push ?_
  refine (pre1 (ref02_Size_f1000002 s_ _)).trans ?_
  refine (cond_e (b := ((ref02_May s_) != 0)) (st' := (S54_0 s_)) ).trans (bif_g ?_ ?_)
  · refine (pre1 (ref02_Size_fz s_ _)).trans ?_
    refine (ret_eq).trans ?_
    refine seqC_ret.trans ?_
    kernel_rfl
  · refine (skip_eq).trans ?_
    refine (seqC_normal (st' := (S54_0 s_))).trans ?_
    refine (pre1 (ref02_Size_fzx1 s_ _)).trans ?_
    refine (ret_eq).trans ?_
    kernel_rfl
noncomputable def cp55 : CallP := withC cp54 13 [(.agg tsI3)] (.one pI) (fun y : Int => y) (fun x => some (ref02_Size x.1))
theorem cp55_ok : PureOK E cp55 := conS eok cp54_ok noE_ok fun x => Eq.mp (by kernel_rfl) (ref02_Size_is x.1)
section
variable {α β : Type} (n_ : Node) (l_ : (List I4)) (k : St → Option α) (q : Kont α)
noncomputable abbrev C55 := codeOf E.P 24
noncomputable abbrev P55 := @preK α E 24 cp55 noE
noncomputable abbrev R55 := @runCode α E 24 cp55 noE
noncomputable abbrev Q55 := @seqC α E 24 cp55 noE
def ref03_made_r1_p : Option Unit := (bif (decide ((0 : Int) < (l_.length : Int))) then (some ()) else none)
abbrev S55_0 : St := ⟨[(1, rl tsI4 l_), (2, rC tsNode n_), (4, rF 0), (5, rF 1)], [[di 0, di 0, di 0], [di ((gt l_ (0 : Int) dI4).1), di ((gt l_ (0 : Int) dI4).2.1), di ((gt l_ (0 : Int) dI4).2.2.1)]], [], 117⟩
theorem ref03_made_r1 : P55 2 C55 ⟨[(0, rA tsNode n_), (1, rl tsI4 l_)], [], [], 117⟩ k = Option.bind (ref03_made_r1_p l_) (fun y652 : Unit => k (S55_0 n_ l_)) := .trans (by kernel_rfl) (bif_b some_b none_b)
abbrev S55_1 : St := ⟨[(1, rl tsI4 l_), (2, rC tsNode n_), (4, rF 0), (5, rF 1), (12, ri n_.1)], [[di 0, di 0, di 0], [di ((gt l_ (0 : Int) dI4).1), di ((gt l_ (0 : Int) dI4).2.1), di ((gt l_ (0 : Int) dI4).2.2.1)]], [], 117⟩
theorem ref03_made_f3 : P55 1 C55.r.r.l (S55_0 n_ l_) k = k (S55_1 n_ l_) := by kernel_rfl
abbrev S55_2 : St := ⟨[(1, rl tsI4 l_), (2, rC tsNode n_), (4, rF 0), (5, rF 1), (12, ri n_.1), (13, rb (n_.1 == 1))], [[di 0, di 0, di 0], [di ((gt l_ (0 : Int) dI4).1), di ((gt l_ (0 : Int) dI4).2.1), di ((gt l_ (0 : Int) dI4).2.2.1)]], [], 117⟩
theorem ref03_made_f2000004 : P55 1 C55.r.r.l.r.b.l (S55_1 n_ l_) k = k (S55_2 n_ l_) := by kernel_rfl
abbrev S55_3 : St := ⟨[(1, rl tsI4 l_), (2, rC tsNode n_), (4, rF 0), (5, rF 1), (12, ri n_.1), (13, rb (n_.1 == 2))], [[di 0, di 0, di 0], [di ((gt l_ (0 : Int) dI4).1), di ((gt l_ (0 : Int) dI4).2.1), di ((gt l_ (0 : Int) dI4).2.2.1)]], [], 117⟩
theorem ref03_made_f2000005 : P55 1 C55.r.r.l.r.b.l.r.e (S55_2 n_ l_) k = k (S55_3 n_ l_) := by kernel_rfl
abbrev S55_4 : St := ⟨[(1, rl tsI4 l_), (2, rC tsNode n_), (4, rF 0), (5, rF 1), (12, ri n_.1), (13, rb (n_.1 == 4))], [[di 0, di 0, di 0], [di ((gt l_ (0 : Int) dI4).1), di ((gt l_ (0 : Int) dI4).2.1), di ((gt l_ (0 : Int) dI4).2.2.1)]], [], 117⟩
theorem ref03_made_f2000006 : P55 1 C55.r.r.l.r.b.l.r.e.r.e (S55_3 n_ l_) k = k (S55_4 n_ l_) := by kernel_rfl
abbrev S55_5 : St := ⟨[(1, rl tsI4 l_), (2, rC tsNode n_), (4, rF 0), (5, rF 1), (12, ri n_.1), (13, rb (n_.1 == 5))], [[di 0, di 0, di 0], [di ((gt l_ (0 : Int) dI4).1), di ((gt l_ (0 : Int) dI4).2.1), di ((gt l_ (0 : Int) dI4).2.2.1)]], [], 117⟩
theorem ref03_made_r6 : R55 C55.r.r.l.r.b.l.r.e.r.e.r.e (S55_4 n_ l_) q = q .normal (S55_5 n_ l_) := by kernel_rfl
def ref03_made_j3_q (K : Bool → β) : β := (bif (n_.1 == 1) then (K (n_.1 == 1)) else (bif (n_.1 == 2) then (K (n_.1 == 2)) else (bif (n_.1 == 4) then (K (n_.1 == 4)) else (K (n_.1 == 5)))))
def ref03_made_j3_p : Bool := ref03_made_j3_q n_ (fun y => y)
theorem ref03_made_j3_n (K : Bool → β) : ref03_made_j3_q n_ K = K (ref03_made_j3_p n_) := (bif_k K rfl (bif_k K rfl (bif_k K rfl rfl)))
abbrev S55_6 : St := ⟨[(1, rl tsI4 l_), (2, rC tsNode n_), (4, rF 0), (5, rF 1), (12, ri n_.1), (13, rb (ref03_made_j3_p n_))], [[di 0, di 0, di 0], [di ((gt l_ (0 : Int) dI4).1), di ((gt l_ (0 : Int) dI4).2.1), di ((gt l_ (0 : Int) dI4).2.2.1)]], [], 117⟩
theorem ref03_made_j3 : R55 C55.r.r.l.r.b.l (S55_1 n_ l_) (Q55 C55.r.r.l.r.b.r q) = R55 C55.r.r.l.r.b.r (S55_6 n_ l_) q := by
  refine Eq.trans ?_ (ref03_made_j3_n n_ (fun y653 : Bool => R55 C55.r.r.l.r.b.r ⟨[(1, rl tsI4 l_), (2, rC tsNode n_), (4, rF 0), (5, rF 1), (12, ri n_.1), (13, rb y653)], [[di 0, di 0, di 0], [di ((gt l_ (0 : Int) dI4).1), di ((gt l_ (0 : Int) dI4).2.1), di ((gt l_ (0 : Int) dI4).2.2.1)]], [], 117⟩ q))
  unfold ref03_made_j3_q
  refine (pre1 (ref03_made_f2000004 n_ l_ _)).trans ?_
  refine (cond_s (b := (n_.1 == 1)) ).trans (bif_g ?_ ?_)
  · refine (skip_eq).trans ?_
    refine (seqC_normal (st' := (S55_2 n_ l_))).trans ?_
    kernel_rfl
  · refine (pre1 (ref03_made_f2000005 n_ l_ _)).trans ?_
    refine (cond_s (b := (n_.1 == 2)) ).trans (bif_g ?_ ?_)
    · refine (skip_eq).trans ?_
      refine (seqC_normal (st' := (S55_3 n_ l_))).trans ?_
      kernel_rfl
    · refine (pre1 (ref03_made_f2000006 n_ l_ _)).trans ?_
      refine (cond_s (b := (n_.1 == 4)) ).trans (bif_g ?_ ?_)
      · refine (skip_eq).trans ?_
        refine (seqC_normal (st' := (S55_4 n_ l_))).trans ?_
        kernel_rfl
      · refine (ref03_made_r6 n_ l_ _).trans ?_
        refine (seqC_normal (st' := (S55_5 n_ l_))).trans ?_
        kernel_rfl
abbrev S55_7 : St := ⟨[(2, rC tsNode n_), (4, rF 0), (5, rF 1), (6, ri ((gt l_ (0 : Int) dI4).2.2.1))], [[di 0, di 0, di 0], [di ((gt l_ (0 : Int) dI4).1), di ((gt l_ (0 : Int) dI4).2.1), di ((gt l_ (0 : Int) dI4).2.2.1)]], [], 117⟩
theorem ref03_made_f8 : P55 1 C55.r.r.l.r.b.r.t (S55_6 n_ l_) k = k (S55_7 n_ l_) := by kernel_rfl
theorem ref03_made_f1000009 : P55 1 C55.r.r.l.r.b.r.t.r.l (S55_7 n_ l_) k = k ⟨[(2, rC tsNode n_), (4, rF 0), (5, rF 1), (6, ri ((gt l_ (0 : Int) dI4).2.2.1)), (22, rb (n_.1 == 1))], [[di 0, di 0, di 0], [di ((gt l_ (0 : Int) dI4).1), di ((gt l_ (0 : Int) dI4).2.1), di ((gt l_ (0 : Int) dI4).2.2.1)]], [], 117⟩ := by kernel_rfl
abbrev S55_8 : St := ⟨[(2, rC tsNode n_), (4, rF 0), (5, rF 1), (6, ri n_.2.2.2.2.2.1)], [[di 0, di 0, di 0], [di ((gt l_ (0 : Int) dI4).1), di ((gt l_ (0 : Int) dI4).2.1), di ((gt l_ (0 : Int) dI4).2.2.1)]], [], 117⟩
theorem ref03_made_r9 : R55 C55.r.r.l.r.b.r.t.r.l.r.t (S55_7 n_ l_) q = q .normal (S55_8 n_ l_) := by kernel_rfl
def ref03_made_j8_q (K : Int → β) : β := (bif (n_.1 == 1) then (K n_.2.2.2.2.2.1) else (K ((gt l_ (0 : Int) dI4).2.2.1)))
def ref03_made_j8_p : Int := ref03_made_j8_q n_ l_ (fun y => y)
theorem ref03_made_j8_n (K : Int → β) : ref03_made_j8_q n_ l_ K = K (ref03_made_j8_p n_ l_) := (bif_k K rfl rfl)
abbrev S55_9 : St := ⟨[(2, rC tsNode n_), (4, rF 0), (5, rF 1), (6, ri (ref03_made_j8_p n_ l_))], [[di 0, di 0, di 0], [di ((gt l_ (0 : Int) dI4).1), di ((gt l_ (0 : Int) dI4).2.1), di ((gt l_ (0 : Int) dI4).2.2.1)]], [], 117⟩
theorem ref03_made_j8 : R55 C55.r.r.l.r.b.r.t.r.l (S55_7 n_ l_) (Q55 C55.r.r.l.r.b.r.t.r.r q) = R55 C55.r.r.l.r.b.r.t.r.r (S55_9 n_ l_) q := by
  refine Eq.trans ?_ (ref03_made_j8_n n_ l_ (fun y654 : Int => R55 C55.r.r.l.r.b.r.t.r.r ⟨[(2, rC tsNode n_), (4, rF 0), (5, rF 1), (6, ri y654)], [[di 0, di 0, di 0], [di ((gt l_ (0 : Int) dI4).1), di ((gt l_ (0 : Int) dI4).2.1), di ((gt l_ (0 : Int) dI4).2.2.1)]], [], 117⟩ q))
  unfold ref03_made_j8_q
  refine (pre1 (ref03_made_f1000009 n_ l_ _)).trans ?_
  refine (cond_e (b := (n_.1 == 1)) (st' := (S55_7 n_ l_)) ).trans (bif_g ?_ ?_)
  · refine (ref03_made_r9 n_ l_ _).trans ?_
    refine (seqC_normal (st' := (S55_8 n_ l_))).trans ?_
    kernel_rfl
  · refine (skip_eq).trans ?_
    refine (seqC_normal (st' := (S55_7 n_ l_))).trans ?_
    kernel_rfl
def ref03_made_r10_p : Option (Int × Int) := (Option.bind (ref02_Out ((gt l_ (0 : Int) dI4).1) n_.2.2.1 n_.2.2.2.1 n_.2.2.2.2.1) (fun y667 : Int => (Option.bind (ref02_Out ((gt l_ (0 : Int) dI4).2.1) n_.2.2.1 n_.2.2.2.1 n_.2.2.2.2.1) (fun y668 : Int => (some (y667, y668))))))
theorem ref03_made_r10 : P55 1 C55.r.r.l.r.b.r.t.r.r (S55_9 n_ l_) k = Option.bind (ref03_made_r10_p n_ l_) (fun y669 : (Int × Int) => k ⟨[(4, rF 0)], [[di y669.1, di y669.2, di (ref03_made_j8_p n_ l_)], []], [], 117⟩) := .trans (by kernel_rfl) (bind_b fun y667 => (bind_b fun y668 => some_b))
theorem ref03_made_f1000012 : P55 1 C55.r.r.l.r.b.r.e (S55_6 n_ l_) k = k ⟨[(1, rl tsI4 l_), (2, rC tsNode n_), (4, rF 0), (5, rF 1), (12, ri n_.1), (45, rb (n_.1 == 3))], [[di 0, di 0, di 0], [di ((gt l_ (0 : Int) dI4).1), di ((gt l_ (0 : Int) dI4).2.1), di ((gt l_ (0 : Int) dI4).2.2.1)]], [], 117⟩ := by kernel_rfl
theorem ref03_made_fz : P55 1 C55.r.r.l.r.b.r.e.r.t (S55_1 n_ l_) k = k ⟨[(4, rF 0)], [[di 1, di 1, di n_.2.2.2.2.2.1], []], [], 117⟩ := by kernel_rfl
abbrev S55_10 : St := ⟨[(1, rl tsI4 l_), (2, rC tsNode n_), (4, rF 0), (5, rF 1), (12, ri n_.1), (50, rb (n_.1 == 6))], [[di 0, di 0, di 0], [di ((gt l_ (0 : Int) dI4).1), di ((gt l_ (0 : Int) dI4).2.1), di ((gt l_ (0 : Int) dI4).2.2.1)]], [], 117⟩
theorem ref03_made_f2000014 : P55 1 C55.r.r.l.r.b.r.e.r.e.l (S55_1 n_ l_) k = k (S55_10 n_ l_) := by kernel_rfl
abbrev S55_11 : St := ⟨[(1, rl tsI4 l_), (2, rC tsNode n_), (4, rF 0), (5, rF 1), (12, ri n_.1), (50, rb (n_.1 == 7))], [[di 0, di 0, di 0], [di ((gt l_ (0 : Int) dI4).1), di ((gt l_ (0 : Int) dI4).2.1), di ((gt l_ (0 : Int) dI4).2.2.1)]], [], 117⟩
theorem ref03_made_r14 : R55 C55.r.r.l.r.b.r.e.r.e.l.r.e (S55_10 n_ l_) q = q .normal (S55_11 n_ l_) := by kernel_rfl
def ref03_made_j13_q (K : Bool → β) : β := (bif (n_.1 == 6) then (K (n_.1 == 6)) else (K (n_.1 == 7)))
def ref03_made_j13_p : Bool := ref03_made_j13_q n_ (fun y => y)
theorem ref03_made_j13_n (K : Bool → β) : ref03_made_j13_q n_ K = K (ref03_made_j13_p n_) := (bif_k K rfl rfl)
abbrev S55_12 : St := ⟨[(1, rl tsI4 l_), (2, rC tsNode n_), (4, rF 0), (5, rF 1), (12, ri n_.1), (50, rb (ref03_made_j13_p n_))], [[di 0, di 0, di 0], [di ((gt l_ (0 : Int) dI4).1), di ((gt l_ (0 : Int) dI4).2.1), di ((gt l_ (0 : Int) dI4).2.2.1)]], [], 117⟩
theorem ref03_made_j13 : R55 C55.r.r.l.r.b.r.e.r.e.l (S55_1 n_ l_) (Q55 C55.r.r.l.r.b.r.e.r.e.r q) = R55 C55.r.r.l.r.b.r.e.r.e.r (S55_12 n_ l_) q := by
  refine Eq.trans ?_ (ref03_made_j13_n n_ (fun y670 : Bool => R55 C55.r.r.l.r.b.r.e.r.e.r ⟨[(1, rl tsI4 l_), (2, rC tsNode n_), (4, rF 0), (5, rF 1), (12, ri n_.1), (50, rb y670)], [[di 0, di 0, di 0], [di ((gt l_ (0 : Int) dI4).1), di ((gt l_ (0 : Int) dI4).2.1), di ((gt l_ (0 : Int) dI4).2.2.1)]], [], 117⟩ q))
  unfold ref03_made_j13_q
  refine (pre1 (ref03_made_f2000014 n_ l_ _)).trans ?_
  refine (cond_s (b := (n_.1 == 6)) ).trans (bif_g ?_ ?_)
  · refine (skip_eq).trans ?_
    refine (seqC_normal (st' := (S55_10 n_ l_))).trans ?_
    kernel_rfl
  · refine (ref03_made_r14 n_ l_ _).trans ?_
    refine (seqC_normal (st' := (S55_11 n_ l_))).trans ?_
    kernel_rfl
def ref03_made_r15_p : Option Bool := (bif (decide ((1 : Int) < (l_.length : Int))) then (some (!((((gt l_ (1 : Int) dI4).1) == ((gt l_ (0 : Int) dI4).1)) && ((((gt l_ (1 : Int) dI4).2.1) == ((gt l_ (0 : Int) dI4).2.1)) && ((((gt l_ (1 : Int) dI4).2.2.1) == ((gt l_ (0 : Int) dI4).2.2.1)) && true))))) else none)
theorem ref03_made_r15 : P55 1 C55.r.r.l.r.b.r.e.r.e.r.t (S55_12 n_ l_) k = Option.bind (ref03_made_r15_p l_) (fun y671 : Bool => k ⟨[(4, rF 0), (5, rF 1), (58, rb y671)], [[di 0, di 0, di 0], [di ((gt l_ (0 : Int) dI4).1), di ((gt l_ (0 : Int) dI4).2.1), di ((gt l_ (0 : Int) dI4).2.2.1)]], [], 117⟩) := .trans (by kernel_rfl) (bif_b some_b none_b)
abbrev S55_13 : St := ⟨[(4, rF 0), (5, rF 1)], [[di 0, di 0, di 0], [di ((gt l_ (0 : Int) dI4).1), di ((gt l_ (0 : Int) dI4).2.1), di ((gt l_ (0 : Int) dI4).2.2.1)]], [], 117⟩
abbrev S55_14 : St := ⟨[(4, rF 0)], [[di 0, di 0, di 0], []], [], 117⟩
theorem ref03_made_fzx1 : P55 1 C55.r.r.l.r.b.r.e.r.e.r.t.r.t (S55_13 l_) k = k S55_14 := by kernel_rfl
theorem ref03_made_f1000018 : P55 1 C55.r.r.l.r.b.r.e.r.e.r.e (S55_12 n_ l_) k = k ⟨[(1, rl tsI4 l_), (2, rC tsNode n_), (4, rF 0), (5, rF 1), (12, ri n_.1), (60, rb (n_.1 == 9))], [[di 0, di 0, di 0], [di ((gt l_ (0 : Int) dI4).1), di ((gt l_ (0 : Int) dI4).2.1), di ((gt l_ (0 : Int) dI4).2.2.1)]], [], 117⟩ := by kernel_rfl
theorem ref03_made_fzx2 : P55 1 C55.r.r.l.r.b.r.e.r.e.r.e.r.t (S55_1 n_ l_) k = k ⟨[(4, rF 0)], [[di (IntKind.wrap .i64 (((gt l_ (0 : Int) dI4).1) + 2)), di (IntKind.wrap .i64 (((gt l_ (0 : Int) dI4).2.1) + 2)), di ((gt l_ (0 : Int) dI4).2.2.1)], []], [], 117⟩ := by kernel_rfl
theorem ref03_made_f1000020 : P55 1 C55.r.r.l.r.b.r.e.r.e.r.e.r.e (S55_1 n_ l_) k = k ⟨[(1, rl tsI4 l_), (2, rC tsNode n_), (4, rF 0), (5, rF 1), (12, ri n_.1), (71, rb (n_.1 == 10))], [[di 0, di 0, di 0], [di ((gt l_ (0 : Int) dI4).1), di ((gt l_ (0 : Int) dI4).2.1), di ((gt l_ (0 : Int) dI4).2.2.1)]], [], 117⟩ := by kernel_rfl
def ref03_made_r20_p : Option Bool := (bif (decide ((1 : Int) < (l_.length : Int))) then (bif (((gt l_ (1 : Int) dI4).1) != ((gt l_ (0 : Int) dI4).1)) then (some true) else (bif (decide ((1 : Int) < (l_.length : Int))) then (some (((gt l_ (1 : Int) dI4).2.1) != ((gt l_ (0 : Int) dI4).2.1))) else none)) else none)
theorem ref03_made_r20 : P55 1 C55.r.r.l.r.b.r.e.r.e.r.e.r.e.r.t.l (S55_1 n_ l_) k = Option.bind (ref03_made_r20_p l_) (fun y673 : Bool => k ⟨[(1, rl tsI4 l_), (4, rF 0), (5, rF 1), (90, rb y673)], [[di 0, di 0, di 0], [di ((gt l_ (0 : Int) dI4).1), di ((gt l_ (0 : Int) dI4).2.1), di ((gt l_ (0 : Int) dI4).2.2.1)]], [], 117⟩) := .trans (by kernel_rfl) (bif_b (bif_b some_b (bif_b some_b none_b)) none_b)
abbrev S55_15 : St := ⟨[(1, rl tsI4 l_), (4, rF 0), (5, rF 1)], [[di 0, di 0, di 0], [di ((gt l_ (0 : Int) dI4).1), di ((gt l_ (0 : Int) dI4).2.1), di ((gt l_ (0 : Int) dI4).2.2.1)]], [], 117⟩
theorem ref03_made_fzx3 : P55 1 C55.r.r.l.r.b.r.e.r.e.r.e.r.e.r.t.l.r.t (S55_15 l_) k = k S55_14 := by kernel_rfl
def ref03_made_r22_p : Option Unit := (bif (decide ((1 : Int) < (l_.length : Int))) then (some ()) else none)
theorem ref03_made_r22 : P55 1 C55.r.r.l.r.b.r.e.r.e.r.e.r.e.r.t.r (S55_15 l_) k = Option.bind (ref03_made_r22_p l_) (fun y674 : Unit => k ⟨[(4, rF 0)], [[di ((gt l_ (0 : Int) dI4).1), di ((gt l_ (0 : Int) dI4).2.1), di (IntKind.wrap .i64 (((gt l_ (0 : Int) dI4).2.2.1) + ((gt l_ (1 : Int) dI4).2.2.1)))], []], [], 117⟩) := .trans (by kernel_rfl) (bif_b some_b none_b)
theorem ref03_made_f1000024 : P55 1 C55.r.r.l.r.b.r.e.r.e.r.e.r.e.r.e (S55_1 n_ l_) k = k ⟨[(2, rC tsNode n_), (4, rF 0), (5, rF 1), (105, rb (n_.1 == 11))], [[di 0, di 0, di 0], [di ((gt l_ (0 : Int) dI4).1), di ((gt l_ (0 : Int) dI4).2.1), di ((gt l_ (0 : Int) dI4).2.2.1)]], [], 117⟩ := by kernel_rfl
def ref03_made_r24_q (K : Bool → β) : β := (K ((ref02_Size (n_.2.2.2.2.2.2.2.2.2.1, n_.2.2.2.2.2.2.2.2.2.2.1, n_.2.2.2.2.2.2.2.2.2.2.2.1)) != (ref02_Size ((gt l_ (0 : Int) dI4).1, (gt l_ (0 : Int) dI4).2.1, (gt l_ (0 : Int) dI4).2.2.1))))
def ref03_made_r24_p : Bool := ref03_made_r24_q n_ l_ (fun y => y)
theorem ref03_made_r24_n (K : Bool → β) : ref03_made_r24_q n_ l_ K = K (ref03_made_r24_p n_ l_) := rfl
abbrev S55_16 : St := ⟨[(2, rC tsNode n_), (4, rF 0), (5, rF 1)], [[di 0, di 0, di 0], [di ((gt l_ (0 : Int) dI4).1), di ((gt l_ (0 : Int) dI4).2.1), di ((gt l_ (0 : Int) dI4).2.2.1)]], [], 117⟩
theorem ref03_made_r24 : P55 1 C55.r.r.l.r.b.r.e.r.e.r.e.r.e.r.e.r.t.l (S55_16 n_ l_) k = k ⟨[(2, rC tsNode n_), (4, rF 0), (112, rb (ref03_made_r24_p n_ l_))], [[di 0, di 0, di 0], []], [], 117⟩ := Eq.trans (by kernel_rfl) (ref03_made_r24_n n_ l_ (fun y676 : Bool => k ⟨[(2, rC tsNode n_), (4, rF 0), (112, rb y676)], [[di 0, di 0, di 0], []], [], 117⟩))
abbrev S55_17 : St := ⟨[(2, rC tsNode n_), (4, rF 0)], [[di 0, di 0, di 0], []], [], 117⟩
theorem ref03_made_fzx4 : P55 1 C55.r.r.l.r.b.r.e.r.e.r.e.r.e.r.e.r.t.l.r.t (S55_17 n_) k = k S55_14 := by kernel_rfl
theorem ref03_made_fzx5 : P55 1 C55.r.r.l.r.b.r.e.r.e.r.e.r.e.r.e.r.t.r (S55_17 n_) k = k ⟨[(4, rF 0)], [[di n_.2.2.2.2.2.2.2.2.2.1, di n_.2.2.2.2.2.2.2.2.2.2.1, di n_.2.2.2.2.2.2.2.2.2.2.2.1], []], [], 117⟩ := by kernel_rfl
def ref03_made_j2_p : Option (Unit ⊕ (Int × Int × Int)) := (bif (ref03_made_j3_p n_) then (Option.bind (ref03_made_r10_p n_ l_) (fun y669 : (Int × Int) => (some (Sum.inr (y669.1, y669.2, (ref03_made_j8_p n_ l_)))))) else (bif (n_.1 == 3) then (some (Sum.inr ((1 : Int), (1 : Int), n_.2.2.2.2.2.1))) else (bif (ref03_made_j13_p n_) then (Option.bind (ref03_made_r15_p l_) (fun y671 : Bool => (bif y671 then (some (Sum.inr ((0 : Int), (0 : Int), (0 : Int)))) else (some (Sum.inl ()))))) else (bif (n_.1 == 9) then (some (Sum.inr ((IntKind.wrap .i64 (((gt l_ (0 : Int) dI4).1) + 2)), (IntKind.wrap .i64 (((gt l_ (0 : Int) dI4).2.1) + 2)), (gt l_ (0 : Int) dI4).2.2.1))) else (bif (n_.1 == 10) then (Option.bind (ref03_made_r20_p l_) (fun y673 : Bool => (bif y673 then (some (Sum.inr ((0 : Int), (0 : Int), (0 : Int)))) else (Option.bind (ref03_made_r22_p l_) (fun y674 : Unit => (some (Sum.inr ((gt l_ (0 : Int) dI4).1, (gt l_ (0 : Int) dI4).2.1, (IntKind.wrap .i64 (((gt l_ (0 : Int) dI4).2.2.1) + ((gt l_ (1 : Int) dI4).2.2.1))))))))))) else (bif (n_.1 == 11) then (bif (ref03_made_r24_p n_ l_) then (some (Sum.inr ((0 : Int), (0 : Int), (0 : Int)))) else (some (Sum.inr (n_.2.2.2.2.2.2.2.2.2.1, n_.2.2.2.2.2.2.2.2.2.2.1, n_.2.2.2.2.2.2.2.2.2.2.2.1)))) else (some (Sum.inl ()))))))))
theorem ref03_made_j2 : R55 C55.r.r.l (S55_0 n_ l_) (Q55 C55.r.r.r q) = Option.bind (ref03_made_j2_p n_ l_) (either (fun y677 : Unit => R55 C55.r.r.r (S55_13 l_) q) (fun y678 : (Int × Int × Int) => q .ret ⟨[(4, rF 0)], [(tsI3.leaves y678), []], [], 117⟩)) := by
  refine .trans ?_ (bif_b (bind_b fun y669 => e2_1) (bif_b e2_1 (bif_b (bind_b fun y671 => (bif_b e2_1 e2_0)) (bif_b e2_1 (bif_b (bind_b fun y673 => (bif_b e2_1 (bind_b fun y674 => e2_1))) (bif_b (bif_b e2_1 e2_1) e2_0))))))
  refine (pre1 (ref03_made_f3 n_ l_ _)).trans ?_
  refine (block_push (id := 0)).trans ?_
  refine .trans seq_push ?_
  refine (ref03_made_j3 n_ l_ _).trans ?_
  refine (cond_s (b := (ref03_made_j3_p n_)) ).trans (bif_g ?_ ?_)
  · refine (pre1 (ref03_made_f8 n_ l_ _)).trans ?_
    refine .trans seq_push ?_
    refine (ref03_made_j8 n_ l_ _).trans ?_
    refine (pre1 (ref03_made_r10 n_ l_ _)).trans (bind_g fun y669 => ?_)
    refine (ret_eq).trans ?_
    refine block_ret.trans ?_
    refine seqC_ret.trans ?_
    kernel_rfl
  · refine (pre1 (ref03_made_f1000012 n_ l_ _)).trans ?_
    refine (cond_e (b := (n_.1 == 3)) (st' := (S55_1 n_ l_)) ).trans (bif_g ?_ ?_)
    · refine (pre1 (ref03_made_fz n_ l_ _)).trans ?_
      refine (ret_eq).trans ?_
      refine block_ret.trans ?_
      refine seqC_ret.trans ?_
      kernel_rfl
    · refine .trans seq_push ?_
      refine (ref03_made_j13 n_ l_ _).trans ?_
      refine (cond_s (b := (ref03_made_j13_p n_)) ).trans (bif_g ?_ ?_)
      · refine (pre1 (ref03_made_r15 n_ l_ _)).trans (bind_g fun y671 => ?_)
        refine (cond_e (b := y671) (st' := (S55_13 l_)) ).trans (bif_g ?_ ?_)
        · refine (pre1 (ref03_made_fzx1 l_ _)).trans ?_
          refine (ret_eq).trans ?_
          refine block_ret.trans ?_
          refine seqC_ret.trans ?_
          kernel_rfl
        · refine (skip_eq).trans ?_
          refine block_normal.trans ?_
          refine (seqC_normal (st' := (S55_13 l_))).trans ?_
          kernel_rfl
      · refine (pre1 (ref03_made_f1000018 n_ l_ _)).trans ?_
        refine (cond_e (b := (n_.1 == 9)) (st' := (S55_1 n_ l_)) ).trans (bif_g ?_ ?_)
        · refine (pre1 (ref03_made_fzx2 n_ l_ _)).trans ?_
          refine (ret_eq).trans ?_
          refine block_ret.trans ?_
          refine seqC_ret.trans ?_
          kernel_rfl
        · refine (pre1 (ref03_made_f1000020 n_ l_ _)).trans ?_
          refine (cond_e (b := (n_.1 == 10)) (st' := (S55_1 n_ l_)) ).trans (bif_g ?_ ?_)
          · refine .trans seq_push ?_
            refine (pre1 (ref03_made_r20 n_ l_ _)).trans (bind_g fun y673 => ?_)
            refine (cond_e (b := y673) (st' := (S55_15 l_)) ).trans (bif_g ?_ ?_)
            · refine (pre1 (ref03_made_fzx3 l_ _)).trans ?_
              refine (ret_eq).trans ?_
              refine seqC_ret.trans ?_
              refine block_ret.trans ?_
              refine seqC_ret.trans ?_
              kernel_rfl
            · refine (skip_eq).trans ?_
              refine (seqC_normal (st' := (S55_15 l_))).trans ?_
              refine (pre1 (ref03_made_r22 l_ _)).trans (bind_g fun y674 => ?_)
              refine (ret_eq).trans ?_
              refine block_ret.trans ?_
              refine seqC_ret.trans ?_
              kernel_rfl
          · refine (pre1 (ref03_made_f1000024 n_ l_ _)).trans ?_
            refine (cond_e (b := (n_.1 == 11)) (st' := (S55_16 n_ l_)) ).trans (bif_g ?_ ?_)
            · refine .trans seq_push ?_
              refine (pre1 (ref03_made_r24 n_ l_ _)).trans ?_
              refine (cond_e (b := (ref03_made_r24_p n_ l_)) (st' := (S55_17 n_)) ).trans (bif_g ?_ ?_)
              · refine (pre1 (ref03_made_fzx4 n_ _)).trans ?_
                refine (ret_eq).trans ?_
                refine seqC_ret.trans ?_
                refine block_ret.trans ?_
                refine seqC_ret.trans ?_
                kernel_rfl
              · refine (skip_eq).trans ?_
                refine (seqC_normal (st' := (S55_17 n_))).trans ?_
                refine (pre1 (ref03_made_fzx5 n_ _)).trans ?_
                refine (ret_eq).trans ?_
                refine block_ret.trans ?_
                refine seqC_ret.trans ?_
                kernel_rfl
            · refine (skip_eq).trans ?_
              refine block_normal.trans ?_
              refine (seqC_normal (st' := (S55_13 l_))).trans ?_
              kernel_rfl
theorem ref03_made_fzx6 : P55 1 C55.r.r.r (S55_13 l_) k = k ⟨[(4, rF 0)], [[di ((gt l_ (0 : Int) dI4).1), di ((gt l_ (0 : Int) dI4).2.1), di ((gt l_ (0 : Int) dI4).2.2.1)], []], [], 117⟩ := by kernel_rfl
/-- quilt/quiltref03.made -/
def ref03_made : Option I3 := (Option.bind (ref03_made_r1_p l_) (fun y652 : Unit => (Option.bind (ref03_made_j2_p n_ l_) (either (fun y677 : Unit => (some ((gt l_ (0 : Int) dI4).1, (gt l_ (0 : Int) dI4).2.1, (gt l_ (0 : Int) dI4).2.2.1))) (fun y678 : (Int × Int × Int) => (some y678))))))
theorem ref03_made_is : stepS E cp55 noE 24 [rA tsNode n_, rl tsI4 l_] = Option.bind (ref03_made n_ l_) (fun y : I3 => some (rA tsI3 y : R)) := by
  refine .trans ?_ (bind_b fun y652 => (bind_b (either_b (fun y677 => some_b) (fun y678 => some_b))))
  refine (stepG_is (nt := 117) (regs := [(0, rA tsNode n_), (1, rl tsI4 l_)])).trans ?_
  refine (pre2 (ref03_made_r1 n_ l_ _)).trans (bind_g fun y652 => ?_)
  refine .trans seq_push ?_
  refine (ref03_made_j2 n_ l_ _).trans (bind_g (either_g (fun y677 => ?_) (fun y678 => ?_)))
  · refine (pre1 (ref03_made_fzx6 l_ _)).trans ?_
    refine (ret_eq).trans ?_
    kernel_rfl
  · kernel_rfl
noncomputable def cp56 : CallP := withC cp55 24 [(.agg tsNode), (pL tsI4)] (.one (.agg tsI3)) (fun y : I3 => y) (fun x => ref03_made x.1 x.2.1)
theorem cp56_ok : PureOK E cp56 := conS eok cp55_ok noE_ok fun x => Eq.mp (by kernel_rfl) (ref03_made_is x.1 x.2.1)
end
section
variable {α β : Type} (n_ : Node) (s_ : I3) (k : St → Option α)
noncomputable abbrev C56 := codeOf E.P 25
noncomputable abbrev P56 := @preK α E 25 cp56 noE
abbrev S56_0 : St := ⟨[(2, rC tsNode n_), (3, rC tsI3 s_)], [], [], 46⟩
theorem ref03_many_f1 : P56 1 C56 ⟨[(0, rA tsNode n_), (1, rA tsI3 s_)], [], [], 46⟩ k = k (S56_0 n_ s_) := by kernel_rfl
abbrev S56_1 : St := ⟨[(2, rC tsNode n_), (3, rC tsI3 s_), (7, ri n_.1)], [], [], 46⟩
theorem ref03_many_f2 : P56 1 C56.r.l (S56_0 n_ s_) k = k (S56_1 n_ s_) := by kernel_rfl
theorem ref03_many_f1000003 : P56 1 C56.r.l.r.b (S56_1 n_ s_) k = k ⟨[(2, rC tsNode n_), (3, rC tsI3 s_), (7, ri n_.1), (8, rb (n_.1 == 1))], [], [], 46⟩ := by kernel_rfl
def ref03_many_r3_q (K : Int → β) : β := (K (IntKind.wrap .i64 ((IntKind.wrap .i64 ((IntKind.wrap .i64 (n_.2.2.1 * n_.2.2.1)) * s_.2.2)) * n_.2.2.2.2.2.1)))
def ref03_many_r3_p : Int := ref03_many_r3_q n_ s_ (fun y => y)
theorem ref03_many_r3_n (K : Int → β) : ref03_many_r3_q n_ s_ K = K (ref03_many_r3_p n_ s_) := rfl
theorem ref03_many_r3 : P56 1 C56.r.l.r.b.r.t (S56_1 n_ s_) k = k ⟨[(4, ri (ref03_many_r3_p n_ s_)), (5, ri n_.2.2.2.2.2.1)], [], [], 46⟩ := Eq.trans (by kernel_rfl) (ref03_many_r3_n n_ s_ (fun y681 : Int => k ⟨[(4, ri y681), (5, ri n_.2.2.2.2.2.1)], [], [], 46⟩))
theorem ref03_many_f1000005 : P56 1 C56.r.l.r.b.r.e (S56_1 n_ s_) k = k ⟨[(2, rC tsNode n_), (3, rC tsI3 s_), (7, ri n_.1), (23, rb (n_.1 == 2))], [], [], 46⟩ := by kernel_rfl
theorem ref03_many_fz : P56 1 C56.r.l.r.b.r.e.r.t (S56_1 n_ s_) k = k ⟨[(4, ri (IntKind.wrap .i64 ((IntKind.wrap .i64 (n_.2.2.1 * n_.2.2.1)) * s_.2.2))), (5, ri s_.2.2)], [], [], 46⟩ := by kernel_rfl
theorem ref03_many_f1000007 : P56 1 C56.r.l.r.b.r.e.r.e (S56_1 n_ s_) k = k ⟨[(2, rC tsNode n_), (3, rC tsI3 s_), (7, ri n_.1), (35, rb (n_.1 == 3))], [], [], 46⟩ := by kernel_rfl
theorem ref03_many_fzx1 : P56 1 C56.r.l.r.b.r.e.r.e.r.t (S56_1 n_ s_) k = k ⟨[(4, ri (IntKind.wrap .i64 ((ref02_Size s_) * n_.2.2.2.2.2.1))), (5, ri n_.2.2.2.2.2.1)], [], [], 46⟩ := by kernel_rfl
theorem ref03_many_f1000009 : P56 1 C56.r.l.r.b.r.e.r.e.r.e (S56_1 n_ s_) k = k ⟨[(44, rb (n_.1 == 12))], [], [], 46⟩ := by kernel_rfl
theorem ref03_many_fzx2 : P56 1 C56.r.l.r.b.r.e.r.e.r.e.r.t ⟨[], [], [], 46⟩ k = k ⟨[(4, ri 256), (5, ri 0)], [], [], 46⟩ := by kernel_rfl
theorem ref03_many_fzx3 : P56 1 C56.r.r ⟨[], [], [], 46⟩ k = k ⟨[(4, ri 0), (5, ri 0)], [], [], 46⟩ := by kernel_rfl
/-- quilt/quiltref03.many -/
def ref03_many_q (K : (Int × Int) → β) : β := (bif (n_.1 == 1) then (K ((ref03_many_r3_p n_ s_), n_.2.2.2.2.2.1)) else (bif (n_.1 == 2) then (K ((IntKind.wrap .i64 ((IntKind.wrap .i64 (n_.2.2.1 * n_.2.2.1)) * s_.2.2)), s_.2.2)) else (bif (n_.1 == 3) then (K ((IntKind.wrap .i64 ((ref02_Size s_) * n_.2.2.2.2.2.1)), n_.2.2.2.2.2.1)) else (bif (n_.1 == 12) then (K ((256 : Int), (0 : Int))) else (K ((0 : Int), (0 : Int)))))))
def ref03_many : (Int × Int) := ref03_many_q n_ s_ (fun y => y)
theorem ref03_many_n (K : (Int × Int) → β) : ref03_many_q n_ s_ K = K (ref03_many n_ s_) := (bif_k K rfl (bif_k K rfl (bif_k K rfl (bif_k K rfl rfl))))
theorem ref03_many_is : stepS E cp56 noE 25 [rA tsNode n_, rA tsI3 s_] = (fun y : (Int × Int) => some (.tup [ri y.1, ri y.2] : R)) (ref03_many n_ s_) := by
  refine Eq.trans ?_ (ref03_many_n n_ s_ (fun y : (Int × Int) => some (.tup [ri y.1, ri y.2] : R)))
  refine (stepG_is (nt := 46) (regs := [(0, rA tsNode n_), (1, rA tsI3 s_)])).trans ?_
  unfold ref03_many_q
  refine (pre1 (ref03_many_f1 n_ s_ _)).trans ?_
  refine .trans seq_push ?_
  refine (pre1 (ref03_many_f2 n_ s_ _)).trans ?_
  refine (block_push (id := 0)).trans ?_
  refine (pre1 (ref03_many_f1000003 n_ s_ _)).trans ?_
  refine (cond_e (b := (n_.1 == 1)) (st' := (S56_1 n_ s_)) ).trans (bif_g ?_ ?_)
  · refine (pre1 (ref03_many_r3 n_ s_ _)).trans ?_
    refine (ret_eq).trans ?_
    refine block_ret.trans ?_
    refine seqC_ret.trans ?_
    kernel_rfl
  · refine (pre1 (ref03_many_f1000005 n_ s_ _)).trans ?_
    refine (cond_e (b := (n_.1 == 2)) (st' := (S56_1 n_ s_)) ).trans (bif_g ?_ ?_)
    · refine (pre1 (ref03_many_fz n_ s_ _)).trans ?_
      refine (ret_eq).trans ?_
      refine block_ret.trans ?_
      refine seqC_ret.trans ?_
      kernel_rfl
    · refine (pre1 (ref03_many_f1000007 n_ s_ _)).trans ?_
      refine (cond_e (b := (n_.1 == 3)) (st' := (S56_1 n_ s_)) ).trans (bif_g ?_ ?_)
      · refine (pre1 (ref03_many_fzx1 n_ s_ _)).trans ?_
        refine (ret_eq).trans ?_
        refine block_ret.trans ?_
        refine seqC_ret.trans ?_
        kernel_rfl
      · refine (pre1 (ref03_many_f1000009 n_ s_ _)).trans ?_
        refine (cond_e (b := (n_.1 == 12)) (st' := ⟨[], [], [], 46⟩) ).trans (bif_g ?_ ?_)
        · refine (pre1 (ref03_many_fzx2 _)).trans ?_
          refine (ret_eq).trans ?_
          refine block_ret.trans ?_
          refine seqC_ret.trans ?_
          kernel_rfl
        · refine (skip_eq).trans ?_
          refine block_normal.trans ?_
          refine (seqC_normal (st' := ⟨[], [], [], 46⟩)).trans ?_
          refine (pre1 (ref03_many_fzx3 _)).trans ?_
          refine (ret_eq).trans ?_
          kernel_rfl
noncomputable def cp57 : CallP := withC cp56 25 [(.agg tsNode), (.agg tsI3)] (.tup [pI, pI]) (fun y : (Int × Int) => (y.1, y.2, ())) (fun x => some (ref03_many x.1 x.2.1))
theorem cp57_ok : PureOK E cp57 := conS eok cp56_ok noE_ok fun x => Eq.mp (by kernel_rfl) (ref03_many_is x.1 x.2.1)
end
end Go.V.P
