/- What functions compute. -/
import Derived.Test.YtdgdgoekapekpaaEv5
namespace Go.V.P
open Go.RowKit Go.V Go.Proofs
set_option linter.unusedVariables false
set_option maxRecDepth 100000
noncomputable abbrev C79 := codeOf E.P 7
noncomputable abbrev P79 {α : Type} := @preK α E 7 cp75 ce4
abbrev S79_0 (y1808 : ((List (List Int)) × Int)) : St := ⟨[(2, .one (.ow (.one (.sl (.one (.int .i8)))) y1808.1 (.v 2))), (3, ri y1808.2)], [[]], [], 53⟩
theorem d1d {α : Type} (k : St → Option α) : P79 3 C79 ⟨[], [], [], 53⟩ k = Option.bind (a6f ([((1 : Int), (1 : Int), (1 : Int), (0 : Int))], [], [(0 : Int), (0 : Int)]) [[(7 : Int)]]) fun y1808 : ((List (List Int)) × Int) => k (S79_0 y1808) := by kernel_rfl
def b25 (y1808 : ((List (List Int)) × Int)) : Option Bool := (bif (y1808.2 == 0) then (bif ((y1808.1.length : Int) == 2) then (bif (decide ((0 : Int) < (y1808.1.length : Int))) then (bif (((gt y1808.1 (0 : Int) []).length : Int) == 1) then (bif (decide ((1 : Int) < (y1808.1.length : Int))) then (bif (((gt y1808.1 (1 : Int) []).length : Int) == 1) then (bif (decide ((0 : Int) < (y1808.1.length : Int))) then (bif (decide ((0 : Int) < ((gt y1808.1 (0 : Int) []).length : Int))) then (bif ((gt (gt y1808.1 (0 : Int) []) (0 : Int) (0 : Int)) == 7) then (bif (decide ((1 : Int) < (y1808.1.length : Int))) then (bif (decide ((0 : Int) < ((gt y1808.1 (1 : Int) []).length : Int))) then (some ((gt (gt y1808.1 (1 : Int) []) (0 : Int) (0 : Int)) == 7)) else none) else none) else (some false)) else none) else none) else (some false)) else none) else (some false)) else none) else (some false)) else (some false))
theorem d1e {α : Type} (y1808 : ((List (List Int)) × Int)) (k : St → Option α) : P79 1 C79.r.r.r (S79_0 y1808) k = Option.bind (b25 y1808) (fun y1809 : Bool => k ⟨[(0, rb y1809)], [[]], [], 53⟩) := .trans (by kernel_rfl) (bif_b (bif_b (bif_b (bif_b (bif_b (bif_b (bif_b (bif_b (bif_b (bif_b (bif_b some_b none_b) none_b) some_b) none_b) none_b) some_b) none_b) some_b) none_b) some_b) some_b)
/-- quilt/quiltlaw06.shown -/
def a1x : Option Bool := (Option.bind (a6f ([((1 : Int), (1 : Int), (1 : Int), (0 : Int))], [], [(0 : Int), (0 : Int)]) [[(7 : Int)]]) (fun y1808 : ((List (List Int)) × Int) => (Option.bind (b25 y1808) (fun y1809 : Bool => (some y1809)))))
theorem d1c : stepS E cp75 ce4 7 [] = Option.bind (a1x) (fun y : Bool => some (rb y : R)) := by
  refine .trans ?_ (bind_b fun y1808 => (bind_b fun y1809 => some_b))
  refine (stepG_is (nt := 53) (regs := [])).trans ?_
  refine (pre3 (d1d _)).trans (bind_g fun y1808 => ?_)
  refine (pre1 (d1e y1808 _)).trans (bind_g fun y1809 => ?_)
  refine (ret_eq).trans ?_
  kernel_rfl
noncomputable def cp76 : CallP := withC cp75 7 [] (.one pB) (fun y : Bool => y) (fun x => a1x)
theorem e5s : PureOK E cp76 := conS eok e5r a0o fun x => Eq.mp (by kernel_rfl) (d1c)
section
variable {α β : Type} (g_ : Graph) (y1812 : (List I4)) (y1814 : (List Int)) (s1885 : ((List Node) × Int)) (y1900 : (List Int)) (y1903 : (List Int)) (y1906 : (List Int)) (y1907 : (List Node)) (y1908 : ((List Node) × Int)) (k : St → Option α) (q : Kont α)
noncomputable abbrev C80 := codeOf E.P 8
noncomputable abbrev P80 := @preK α E 8 cp76 ce4
noncomputable abbrev R80 := @runCode α E 8 cp76 ce4
noncomputable abbrev Q80 := @seqC α E 8 cp76 ce4
abbrev S80_0 : St := ⟨[(1, rF 0), (2, rF 1)], [(a01.leaves g_), [dl tsI4 [], dl a00 [], dl (.one (.int .i64)) []]], [], 70⟩
theorem d4v : P80 1 C80 ⟨[(0, rA a01 g_)], [], [], 70⟩ k = k (S80_0 g_) := by kernel_rfl
theorem b7v : P80 1 C80.r.l (S80_0 g_) k = k ⟨[(1, rF 0), (2, rF 1), (9, rb (decide ((g_.1.length : Int) > 6)))], [(a01.leaves g_), [dl tsI4 [], dl a00 [], dl (.one (.int .i64)) []]], [], 70⟩ := by kernel_rfl
def b3c : Option Unit := (bif (decide ((6 : Int) ≤ (g_.1.length : Int))) then (some ()) else none)
abbrev S80_1 : St := ⟨[(1, rF 0), (2, rF 1)], [[dl tsI4 ((g_.1.take (Int.toNat (6 : Int))).drop (Int.toNat (0 : Int))), dl a00 g_.2.1, dl (.one (.int .i64)) g_.2.2], [dl tsI4 [], dl a00 [], dl (.one (.int .i64)) []]], [], 70⟩
theorem d53 : R80 C80.r.l.r.t (S80_0 g_) q = Option.bind (b3c g_) (fun y1811 : Unit => q .normal (S80_1 g_)) := .trans (by kernel_rfl) (bif_b some_b none_b)
def b3a : Option (List I4) := (bif (decide ((g_.1.length : Int) > 6)) then (Option.bind (b3c g_) (fun y1811 : Unit => (some ((g_.1.take (Int.toNat (6 : Int))).drop (Int.toNat (0 : Int)))))) else (some g_.1))
abbrev S80_2 : St := ⟨[(1, rF 0), (2, rF 1)], [[dl tsI4 y1812, dl a00 g_.2.1, dl (.one (.int .i64)) g_.2.2], [dl tsI4 [], dl a00 [], dl (.one (.int .i64)) []]], [], 70⟩
theorem d50 : R80 C80.r.l (S80_0 g_) (Q80 C80.r.r q) = Option.bind (b3a g_) (fun y1812 : (List I4) => R80 C80.r.r (S80_2 g_ y1812) q) := by
  refine .trans ?_ (bif_b (bind_b fun y1811 => some_b) some_b)
  refine (pre1 (b7v g_ _)).trans ?_
  refine (cond_e (b := (decide ((g_.1.length : Int) > 6))) (st' := (S80_0 g_)) ).trans (bif_g ?_ ?_)
  · refine (d53 g_ _).trans (bind_g fun y1811 => ?_)
    refine (seqC_normal (st' := (S80_1 g_))).trans ?_
    kernel_rfl
  · refine (skip_eq).trans ?_
    refine (seqC_normal (st' := (S80_0 g_))).trans ?_
    kernel_rfl
theorem b7w : P80 1 C80.r.r.l (S80_2 g_ y1812) k = k ⟨[(1, rF 0), (2, rF 1), (17, rb (decide ((g_.2.2.length : Int) > 6)))], [[dl tsI4 y1812, dl a00 g_.2.1, dl (.one (.int .i64)) g_.2.2], [dl tsI4 [], dl a00 [], dl (.one (.int .i64)) []]], [], 70⟩ := by kernel_rfl
def b3d : Option Unit := (bif (decide ((6 : Int) ≤ (g_.2.2.length : Int))) then (some ()) else none)
abbrev S80_3 : St := ⟨[(1, rF 0), (2, rF 1)], [[dl tsI4 y1812, dl a00 g_.2.1, dl (.one (.int .i64)) ((g_.2.2.take (Int.toNat (6 : Int))).drop (Int.toNat (0 : Int)))], [dl tsI4 [], dl a00 [], dl (.one (.int .i64)) []]], [], 70⟩
theorem d54 : R80 C80.r.r.l.r.t (S80_2 g_ y1812) q = Option.bind (b3d g_) (fun y1813 : Unit => q .normal (S80_3 g_ y1812)) := .trans (by kernel_rfl) (bif_b some_b none_b)
def b3b : Option (List Int) := (bif (decide ((g_.2.2.length : Int) > 6)) then (Option.bind (b3d g_) (fun y1813 : Unit => (some ((g_.2.2.take (Int.toNat (6 : Int))).drop (Int.toNat (0 : Int)))))) else (some g_.2.2))
abbrev S80_4 : St := ⟨[(1, rF 0), (2, rF 1)], [[dl tsI4 y1812, dl a00 g_.2.1, dl (.one (.int .i64)) y1814], [dl tsI4 [], dl a00 [], dl (.one (.int .i64)) []]], [], 70⟩
theorem d51 : R80 C80.r.r.l (S80_2 g_ y1812) (Q80 C80.r.r.r q) = Option.bind (b3b g_) (fun y1814 : (List Int) => R80 C80.r.r.r (S80_4 g_ y1812 y1814) q) := by
  refine .trans ?_ (bif_b (bind_b fun y1813 => some_b) some_b)
  refine (pre1 (b7w g_ y1812 _)).trans ?_
  refine (cond_e (b := (decide ((g_.2.2.length : Int) > 6))) (st' := (S80_2 g_ y1812)) ).trans (bif_g ?_ ?_)
  · refine (d54 g_ y1812 _).trans (bind_g fun y1813 => ?_)
    refine (seqC_normal (st' := (S80_3 g_ y1812))).trans ?_
    kernel_rfl
  · refine (skip_eq).trans ?_
    refine (seqC_normal (st' := (S80_2 g_ y1812))).trans ?_
    kernel_rfl
abbrev S80_5 : St := ⟨[(1, rF 0), (2, rF 1), (3, .one (.ow a00 [] (.v 3)))], [[dl tsI4 y1812, dl a00 g_.2.1, dl (.one (.int .i64)) y1814], [dl tsI4 [], dl a00 [], dl (.one (.int .i64)) []]], [], 70⟩
theorem d4w : P80 1 C80.r.r.r (S80_4 g_ y1812 y1814) k = k (S80_5 g_ y1812 y1814) := by kernel_rfl
abbrev S80_6 : St := ⟨[(1, rF 0), (2, rF 1), (3, .one (.ow a00 [] (.v 3))), (4, ri 0)], [[dl tsI4 y1812, dl a00 g_.2.1, dl (.one (.int .i64)) y1814], [dl tsI4 [], dl a00 [], dl (.one (.int .i64)) []]], [], 70⟩
theorem d4x : P80 1 C80.r.r.r.r.l (S80_5 g_ y1812 y1814) k = k (S80_6 g_ y1812 y1814) := by kernel_rfl
def b3e (K : Bool → β) : β := (bif (decide (s1885.2 < (g_.2.1.length : Int))) then (K (decide (s1885.2 < 14))) else (K false))
def a49 : Bool := b3e g_ s1885 (fun y => y)
theorem c6q (K : Bool → β) : b3e g_ s1885 K = K (a49 g_ s1885) := (bif_k K rfl rfl)
abbrev S80_7 : St := ⟨[(1, rF 0), (2, rF 1), (3, rO a00 s1885.1 3), (4, ri s1885.2)], [[dl tsI4 y1812, dl a00 g_.2.1, dl (.one (.int .i64)) y1814], [dl tsI4 [], dl a00 [], dl (.one (.int .i64)) []]], [], 70⟩
theorem d55 : P80 1 C80.r.r.r.r.l.r.b.b.l (S80_7 g_ y1812 y1814 s1885) k = k ⟨[(1, rF 0), (2, rF 1), (3, rO a00 s1885.1 3), (4, ri s1885.2), (31, rb (a49 g_ s1885))], [[dl tsI4 y1812, dl a00 g_.2.1, dl (.one (.int .i64)) y1814], [dl tsI4 [], dl a00 [], dl (.one (.int .i64)) []]], [], 70⟩ := Eq.trans (by kernel_rfl) (c6q g_ s1885 (fun y1887 : Bool => k ⟨[(1, rF 0), (2, rF 1), (3, rO a00 s1885.1 3), (4, ri s1885.2), (31, rb y1887)], [[dl tsI4 y1812, dl a00 g_.2.1, dl (.one (.int .i64)) y1814], [dl tsI4 [], dl a00 [], dl (.one (.int .i64)) []]], [], 70⟩))
def b3f : Option Unit := (bif (decide ((0 : Int) ≤ s1885.2)) then (bif (decide (s1885.2 < (g_.2.1.length : Int))) then (some ()) else none) else none)
abbrev S80_8 : St := ⟨[(1, rF 0), (2, rF 1), (3, rO a00 s1885.1 3), (4, ri s1885.2), (5, rF 2)], [[dl tsI4 y1812, dl a00 g_.2.1, dl (.one (.int .i64)) y1814], [dl tsI4 [], dl a00 [], dl (.one (.int .i64)) []], (a00.leaves (gt g_.2.1 s1885.2 dNode))], [], 70⟩
theorem d57 : P80 1 C80.r.r.r.r.l.r.b.b.r.l.b (S80_7 g_ y1812 y1814 s1885) k = Option.bind (b3f g_ s1885) (fun y1898 : Unit => k (S80_8 g_ y1812 y1814 s1885)) := .trans (by kernel_rfl) (bif_b (bif_b some_b none_b) none_b)
theorem b7x : P80 1 C80.r.r.r.r.l.r.b.b.r.l.b.r.l (S80_8 g_ y1812 y1814 s1885) k = k ⟨[(1, rF 0), (2, rF 1), (3, rO a00 s1885.1 3), (4, ri s1885.2), (5, rF 2), (42, rb (decide ((((gt g_.2.1 s1885.2 dNode).2.1).length : Int) > 20)))], [[dl tsI4 y1812, dl a00 g_.2.1, dl (.one (.int .i64)) y1814], [dl tsI4 [], dl a00 [], dl (.one (.int .i64)) []], (a00.leaves (gt g_.2.1 s1885.2 dNode))], [], 70⟩ := by kernel_rfl
def b1z : Option (List Int) := (bif (decide ((20 : Int) ≤ (((gt g_.2.1 s1885.2 dNode).2.1).length : Int))) then (some ((((gt g_.2.1 s1885.2 dNode).2.1).take (Int.toNat (20 : Int))).drop (Int.toNat (0 : Int)))) else none)
abbrev S80_9 (y1899 : (List Int)) : St := ⟨[(1, rF 0), (2, rF 1), (3, rO a00 s1885.1 3), (4, ri s1885.2), (5, rF 2)], [[dl tsI4 y1812, dl a00 g_.2.1, dl (.one (.int .i64)) y1814], [dl tsI4 [], dl a00 [], dl (.one (.int .i64)) []], [di ((gt g_.2.1 s1885.2 dNode).1), dl (.one (.int .i64)) y1899, di ((gt g_.2.1 s1885.2 dNode).2.2.1), di ((gt g_.2.1 s1885.2 dNode).2.2.2.1), di ((gt g_.2.1 s1885.2 dNode).2.2.2.2.1), di ((gt g_.2.1 s1885.2 dNode).2.2.2.2.2.1), di ((gt g_.2.1 s1885.2 dNode).2.2.2.2.2.2.1), di ((gt g_.2.1 s1885.2 dNode).2.2.2.2.2.2.2.1), di ((gt g_.2.1 s1885.2 dNode).2.2.2.2.2.2.2.2.1), di ((gt g_.2.1 s1885.2 dNode).2.2.2.2.2.2.2.2.2.1), di ((gt g_.2.1 s1885.2 dNode).2.2.2.2.2.2.2.2.2.2.1), di ((gt g_.2.1 s1885.2 dNode).2.2.2.2.2.2.2.2.2.2.2.1), dl (.one (.int .i8)) ((gt g_.2.1 s1885.2 dNode).2.2.2.2.2.2.2.2.2.2.2.2.1), dl (.one (.int .i32)) ((gt g_.2.1 s1885.2 dNode).2.2.2.2.2.2.2.2.2.2.2.2.2)]], [], 70⟩
theorem d16 : R80 C80.r.r.r.r.l.r.b.b.r.l.b.r.l.r.t (S80_8 g_ y1812 y1814 s1885) q = Option.bind (b1z g_ s1885) (fun y1899 : (List Int) => q .normal (S80_9 g_ y1812 y1814 s1885 y1899)) := .trans (by kernel_rfl) (bif_b some_b none_b)
def b1w : Option (List Int) := (bif (decide ((((gt g_.2.1 s1885.2 dNode).2.1).length : Int) > 20)) then (Option.bind (b1z g_ s1885) (fun y1899 : (List Int) => (some y1899))) else (some ((gt g_.2.1 s1885.2 dNode).2.1)))
abbrev b4p : St := ⟨[(1, rF 0), (2, rF 1), (3, rO a00 s1885.1 3), (4, ri s1885.2), (5, rF 2)], [[dl tsI4 y1812, dl a00 g_.2.1, dl (.one (.int .i64)) y1814], [dl tsI4 [], dl a00 [], dl (.one (.int .i64)) []], [di ((gt g_.2.1 s1885.2 dNode).1), dl (.one (.int .i64)) y1900, di ((gt g_.2.1 s1885.2 dNode).2.2.1), di ((gt g_.2.1 s1885.2 dNode).2.2.2.1), di ((gt g_.2.1 s1885.2 dNode).2.2.2.2.1), di ((gt g_.2.1 s1885.2 dNode).2.2.2.2.2.1), di ((gt g_.2.1 s1885.2 dNode).2.2.2.2.2.2.1), di ((gt g_.2.1 s1885.2 dNode).2.2.2.2.2.2.2.1), di ((gt g_.2.1 s1885.2 dNode).2.2.2.2.2.2.2.2.1), di ((gt g_.2.1 s1885.2 dNode).2.2.2.2.2.2.2.2.2.1), di ((gt g_.2.1 s1885.2 dNode).2.2.2.2.2.2.2.2.2.2.1), di ((gt g_.2.1 s1885.2 dNode).2.2.2.2.2.2.2.2.2.2.2.1), dl (.one (.int .i8)) ((gt g_.2.1 s1885.2 dNode).2.2.2.2.2.2.2.2.2.2.2.2.1), dl (.one (.int .i32)) ((gt g_.2.1 s1885.2 dNode).2.2.2.2.2.2.2.2.2.2.2.2.2)]], [], 70⟩
theorem d13 : R80 C80.r.r.r.r.l.r.b.b.r.l.b.r.l (S80_8 g_ y1812 y1814 s1885) (Q80 C80.r.r.r.r.l.r.b.b.r.l.b.r.r q) = Option.bind (b1w g_ s1885) (fun y1900 : (List Int) => R80 C80.r.r.r.r.l.r.b.b.r.l.b.r.r (b4p g_ y1812 y1814 s1885 y1900) q) := by
  refine .trans ?_ (bif_b (bind_b fun y1899 => some_b) some_b)
  refine (pre1 (b7x g_ y1812 y1814 s1885 _)).trans ?_
  refine (cond_e (b := (decide ((((gt g_.2.1 s1885.2 dNode).2.1).length : Int) > 20))) (st' := (S80_8 g_ y1812 y1814 s1885)) ).trans (bif_g ?_ ?_)
  · refine (d16 g_ y1812 y1814 s1885 _).trans (bind_g fun y1899 => ?_)
    refine (seqC_normal (st' := (S80_9 g_ y1812 y1814 s1885 y1899))).trans ?_
    kernel_rfl
  · refine (skip_eq).trans ?_
    refine (seqC_normal (st' := (S80_8 g_ y1812 y1814 s1885))).trans ?_
    kernel_rfl
def b20 (K : Bool → β) : β := (K (decide ((((gt g_.2.1 s1885.2 dNode).2.2.2.2.2.2.2.2.2.2.2.2.1).length : Int) > 5000)))
def a3f : Bool := b20 g_ s1885 (fun y => y)
theorem c39 (K : Bool → β) : b20 g_ s1885 K = K (a3f g_ s1885) := rfl
theorem d17 : P80 1 C80.r.r.r.r.l.r.b.b.r.l.b.r.r.l (b4p g_ y1812 y1814 s1885 y1900) k = k ⟨[(1, rF 0), (2, rF 1), (3, rO a00 s1885.1 3), (4, ri s1885.2), (5, rF 2), (50, rb (a3f g_ s1885))], [[dl tsI4 y1812, dl a00 g_.2.1, dl (.one (.int .i64)) y1814], [dl tsI4 [], dl a00 [], dl (.one (.int .i64)) []], [di ((gt g_.2.1 s1885.2 dNode).1), dl (.one (.int .i64)) y1900, di ((gt g_.2.1 s1885.2 dNode).2.2.1), di ((gt g_.2.1 s1885.2 dNode).2.2.2.1), di ((gt g_.2.1 s1885.2 dNode).2.2.2.2.1), di ((gt g_.2.1 s1885.2 dNode).2.2.2.2.2.1), di ((gt g_.2.1 s1885.2 dNode).2.2.2.2.2.2.1), di ((gt g_.2.1 s1885.2 dNode).2.2.2.2.2.2.2.1), di ((gt g_.2.1 s1885.2 dNode).2.2.2.2.2.2.2.2.1), di ((gt g_.2.1 s1885.2 dNode).2.2.2.2.2.2.2.2.2.1), di ((gt g_.2.1 s1885.2 dNode).2.2.2.2.2.2.2.2.2.2.1), di ((gt g_.2.1 s1885.2 dNode).2.2.2.2.2.2.2.2.2.2.2.1), dl (.one (.int .i8)) ((gt g_.2.1 s1885.2 dNode).2.2.2.2.2.2.2.2.2.2.2.2.1), dl (.one (.int .i32)) ((gt g_.2.1 s1885.2 dNode).2.2.2.2.2.2.2.2.2.2.2.2.2)]], [], 70⟩ := Eq.trans (by kernel_rfl) (c39 g_ s1885 (fun y1901 : Bool => k ⟨[(1, rF 0), (2, rF 1), (3, rO a00 s1885.1 3), (4, ri s1885.2), (5, rF 2), (50, rb y1901)], [[dl tsI4 y1812, dl a00 g_.2.1, dl (.one (.int .i64)) y1814], [dl tsI4 [], dl a00 [], dl (.one (.int .i64)) []], [di ((gt g_.2.1 s1885.2 dNode).1), dl (.one (.int .i64)) y1900, di ((gt g_.2.1 s1885.2 dNode).2.2.1), di ((gt g_.2.1 s1885.2 dNode).2.2.2.1), di ((gt g_.2.1 s1885.2 dNode).2.2.2.2.1), di ((gt g_.2.1 s1885.2 dNode).2.2.2.2.2.1), di ((gt g_.2.1 s1885.2 dNode).2.2.2.2.2.2.1), di ((gt g_.2.1 s1885.2 dNode).2.2.2.2.2.2.2.1), di ((gt g_.2.1 s1885.2 dNode).2.2.2.2.2.2.2.2.1), di ((gt g_.2.1 s1885.2 dNode).2.2.2.2.2.2.2.2.2.1), di ((gt g_.2.1 s1885.2 dNode).2.2.2.2.2.2.2.2.2.2.1), di ((gt g_.2.1 s1885.2 dNode).2.2.2.2.2.2.2.2.2.2.2.1), dl (.one (.int .i8)) ((gt g_.2.1 s1885.2 dNode).2.2.2.2.2.2.2.2.2.2.2.2.1), dl (.one (.int .i32)) ((gt g_.2.1 s1885.2 dNode).2.2.2.2.2.2.2.2.2.2.2.2.2)]], [], 70⟩))
def b21 : Option (List Int) := (bif (decide ((5000 : Int) ≤ (((gt g_.2.1 s1885.2 dNode).2.2.2.2.2.2.2.2.2.2.2.2.1).length : Int))) then (some ((((gt g_.2.1 s1885.2 dNode).2.2.2.2.2.2.2.2.2.2.2.2.1).take (Int.toNat (5000 : Int))).drop (Int.toNat (0 : Int)))) else none)
abbrev e35 (y1902 : (List Int)) : St := ⟨[(1, rF 0), (2, rF 1), (3, rO a00 s1885.1 3), (4, ri s1885.2), (5, rF 2)], [[dl tsI4 y1812, dl a00 g_.2.1, dl (.one (.int .i64)) y1814], [dl tsI4 [], dl a00 [], dl (.one (.int .i64)) []], [di ((gt g_.2.1 s1885.2 dNode).1), dl (.one (.int .i64)) y1900, di ((gt g_.2.1 s1885.2 dNode).2.2.1), di ((gt g_.2.1 s1885.2 dNode).2.2.2.1), di ((gt g_.2.1 s1885.2 dNode).2.2.2.2.1), di ((gt g_.2.1 s1885.2 dNode).2.2.2.2.2.1), di ((gt g_.2.1 s1885.2 dNode).2.2.2.2.2.2.1), di ((gt g_.2.1 s1885.2 dNode).2.2.2.2.2.2.2.1), di ((gt g_.2.1 s1885.2 dNode).2.2.2.2.2.2.2.2.1), di ((gt g_.2.1 s1885.2 dNode).2.2.2.2.2.2.2.2.2.1), di ((gt g_.2.1 s1885.2 dNode).2.2.2.2.2.2.2.2.2.2.1), di ((gt g_.2.1 s1885.2 dNode).2.2.2.2.2.2.2.2.2.2.2.1), dl (.one (.int .i8)) y1902, dl (.one (.int .i32)) ((gt g_.2.1 s1885.2 dNode).2.2.2.2.2.2.2.2.2.2.2.2.2)]], [], 70⟩
theorem d18 : R80 C80.r.r.r.r.l.r.b.b.r.l.b.r.r.l.r.t (b4p g_ y1812 y1814 s1885 y1900) q = Option.bind (b21 g_ s1885) (fun y1902 : (List Int) => q .normal (e35 g_ y1812 y1814 s1885 y1900 y1902)) := .trans (by kernel_rfl) (bif_b some_b none_b)
def b1x : Option (List Int) := (bif (a3f g_ s1885) then (Option.bind (b21 g_ s1885) (fun y1902 : (List Int) => (some y1902))) else (some ((gt g_.2.1 s1885.2 dNode).2.2.2.2.2.2.2.2.2.2.2.2.1)))
abbrev b4q : St := ⟨[(1, rF 0), (2, rF 1), (3, rO a00 s1885.1 3), (4, ri s1885.2), (5, rF 2)], [[dl tsI4 y1812, dl a00 g_.2.1, dl (.one (.int .i64)) y1814], [dl tsI4 [], dl a00 [], dl (.one (.int .i64)) []], [di ((gt g_.2.1 s1885.2 dNode).1), dl (.one (.int .i64)) y1900, di ((gt g_.2.1 s1885.2 dNode).2.2.1), di ((gt g_.2.1 s1885.2 dNode).2.2.2.1), di ((gt g_.2.1 s1885.2 dNode).2.2.2.2.1), di ((gt g_.2.1 s1885.2 dNode).2.2.2.2.2.1), di ((gt g_.2.1 s1885.2 dNode).2.2.2.2.2.2.1), di ((gt g_.2.1 s1885.2 dNode).2.2.2.2.2.2.2.1), di ((gt g_.2.1 s1885.2 dNode).2.2.2.2.2.2.2.2.1), di ((gt g_.2.1 s1885.2 dNode).2.2.2.2.2.2.2.2.2.1), di ((gt g_.2.1 s1885.2 dNode).2.2.2.2.2.2.2.2.2.2.1), di ((gt g_.2.1 s1885.2 dNode).2.2.2.2.2.2.2.2.2.2.2.1), dl (.one (.int .i8)) y1903, dl (.one (.int .i32)) ((gt g_.2.1 s1885.2 dNode).2.2.2.2.2.2.2.2.2.2.2.2.2)]], [], 70⟩
theorem d14 : R80 C80.r.r.r.r.l.r.b.b.r.l.b.r.r.l (b4p g_ y1812 y1814 s1885 y1900) (Q80 C80.r.r.r.r.l.r.b.b.r.l.b.r.r.r q) = Option.bind (b1x g_ s1885) (fun y1903 : (List Int) => R80 C80.r.r.r.r.l.r.b.b.r.l.b.r.r.r (b4q g_ y1812 y1814 s1885 y1900 y1903) q) := by
  refine .trans ?_ (bif_b (bind_b fun y1902 => some_b) some_b)
  refine (pre1 (d17 g_ y1812 y1814 s1885 y1900 _)).trans ?_
  refine (cond_e (b := (a3f g_ s1885)) (st' := (b4p g_ y1812 y1814 s1885 y1900)) ).trans (bif_g ?_ ?_)
  · refine (d18 g_ y1812 y1814 s1885 y1900 _).trans (bind_g fun y1902 => ?_)
    refine (seqC_normal (st' := (e35 g_ y1812 y1814 s1885 y1900 y1902))).trans ?_
    kernel_rfl
  · refine (skip_eq).trans ?_
    refine (seqC_normal (st' := (b4p g_ y1812 y1814 s1885 y1900))).trans ?_
    kernel_rfl
def b22 (K : Bool → β) : β := (K (decide ((((gt g_.2.1 s1885.2 dNode).2.2.2.2.2.2.2.2.2.2.2.2.2).length : Int) > 20)))
def a3g : Bool := b22 g_ s1885 (fun y => y)
theorem c3a (K : Bool → β) : b22 g_ s1885 K = K (a3g g_ s1885) := rfl
theorem d19 : P80 1 C80.r.r.r.r.l.r.b.b.r.l.b.r.r.r.l (b4q g_ y1812 y1814 s1885 y1900 y1903) k = k ⟨[(1, rF 0), (2, rF 1), (3, rO a00 s1885.1 3), (4, ri s1885.2), (5, rF 2), (58, rb (a3g g_ s1885))], [[dl tsI4 y1812, dl a00 g_.2.1, dl (.one (.int .i64)) y1814], [dl tsI4 [], dl a00 [], dl (.one (.int .i64)) []], [di ((gt g_.2.1 s1885.2 dNode).1), dl (.one (.int .i64)) y1900, di ((gt g_.2.1 s1885.2 dNode).2.2.1), di ((gt g_.2.1 s1885.2 dNode).2.2.2.1), di ((gt g_.2.1 s1885.2 dNode).2.2.2.2.1), di ((gt g_.2.1 s1885.2 dNode).2.2.2.2.2.1), di ((gt g_.2.1 s1885.2 dNode).2.2.2.2.2.2.1), di ((gt g_.2.1 s1885.2 dNode).2.2.2.2.2.2.2.1), di ((gt g_.2.1 s1885.2 dNode).2.2.2.2.2.2.2.2.1), di ((gt g_.2.1 s1885.2 dNode).2.2.2.2.2.2.2.2.2.1), di ((gt g_.2.1 s1885.2 dNode).2.2.2.2.2.2.2.2.2.2.1), di ((gt g_.2.1 s1885.2 dNode).2.2.2.2.2.2.2.2.2.2.2.1), dl (.one (.int .i8)) y1903, dl (.one (.int .i32)) ((gt g_.2.1 s1885.2 dNode).2.2.2.2.2.2.2.2.2.2.2.2.2)]], [], 70⟩ := Eq.trans (by kernel_rfl) (c3a g_ s1885 (fun y1904 : Bool => k ⟨[(1, rF 0), (2, rF 1), (3, rO a00 s1885.1 3), (4, ri s1885.2), (5, rF 2), (58, rb y1904)], [[dl tsI4 y1812, dl a00 g_.2.1, dl (.one (.int .i64)) y1814], [dl tsI4 [], dl a00 [], dl (.one (.int .i64)) []], [di ((gt g_.2.1 s1885.2 dNode).1), dl (.one (.int .i64)) y1900, di ((gt g_.2.1 s1885.2 dNode).2.2.1), di ((gt g_.2.1 s1885.2 dNode).2.2.2.1), di ((gt g_.2.1 s1885.2 dNode).2.2.2.2.1), di ((gt g_.2.1 s1885.2 dNode).2.2.2.2.2.1), di ((gt g_.2.1 s1885.2 dNode).2.2.2.2.2.2.1), di ((gt g_.2.1 s1885.2 dNode).2.2.2.2.2.2.2.1), di ((gt g_.2.1 s1885.2 dNode).2.2.2.2.2.2.2.2.1), di ((gt g_.2.1 s1885.2 dNode).2.2.2.2.2.2.2.2.2.1), di ((gt g_.2.1 s1885.2 dNode).2.2.2.2.2.2.2.2.2.2.1), di ((gt g_.2.1 s1885.2 dNode).2.2.2.2.2.2.2.2.2.2.2.1), dl (.one (.int .i8)) y1903, dl (.one (.int .i32)) ((gt g_.2.1 s1885.2 dNode).2.2.2.2.2.2.2.2.2.2.2.2.2)]], [], 70⟩))
def b23 : Option (List Int) := (bif (decide ((20 : Int) ≤ (((gt g_.2.1 s1885.2 dNode).2.2.2.2.2.2.2.2.2.2.2.2.2).length : Int))) then (some ((((gt g_.2.1 s1885.2 dNode).2.2.2.2.2.2.2.2.2.2.2.2.2).take (Int.toNat (20 : Int))).drop (Int.toNat (0 : Int)))) else none)
abbrev e36 (y1905 : (List Int)) : St := ⟨[(1, rF 0), (2, rF 1), (3, rO a00 s1885.1 3), (4, ri s1885.2), (5, rF 2)], [[dl tsI4 y1812, dl a00 g_.2.1, dl (.one (.int .i64)) y1814], [dl tsI4 [], dl a00 [], dl (.one (.int .i64)) []], [di ((gt g_.2.1 s1885.2 dNode).1), dl (.one (.int .i64)) y1900, di ((gt g_.2.1 s1885.2 dNode).2.2.1), di ((gt g_.2.1 s1885.2 dNode).2.2.2.1), di ((gt g_.2.1 s1885.2 dNode).2.2.2.2.1), di ((gt g_.2.1 s1885.2 dNode).2.2.2.2.2.1), di ((gt g_.2.1 s1885.2 dNode).2.2.2.2.2.2.1), di ((gt g_.2.1 s1885.2 dNode).2.2.2.2.2.2.2.1), di ((gt g_.2.1 s1885.2 dNode).2.2.2.2.2.2.2.2.1), di ((gt g_.2.1 s1885.2 dNode).2.2.2.2.2.2.2.2.2.1), di ((gt g_.2.1 s1885.2 dNode).2.2.2.2.2.2.2.2.2.2.1), di ((gt g_.2.1 s1885.2 dNode).2.2.2.2.2.2.2.2.2.2.2.1), dl (.one (.int .i8)) y1903, dl (.one (.int .i32)) y1905]], [], 70⟩
theorem d1a : R80 C80.r.r.r.r.l.r.b.b.r.l.b.r.r.r.l.r.t (b4q g_ y1812 y1814 s1885 y1900 y1903) q = Option.bind (b23 g_ s1885) (fun y1905 : (List Int) => q .normal (e36 g_ y1812 y1814 s1885 y1900 y1903 y1905)) := .trans (by kernel_rfl) (bif_b some_b none_b)
def b1y : Option (List Int) := (bif (a3g g_ s1885) then (Option.bind (b23 g_ s1885) (fun y1905 : (List Int) => (some y1905))) else (some ((gt g_.2.1 s1885.2 dNode).2.2.2.2.2.2.2.2.2.2.2.2.2)))
abbrev e37 : St := ⟨[(1, rF 0), (2, rF 1), (3, rO a00 s1885.1 3), (4, ri s1885.2), (5, rF 2)], [[dl tsI4 y1812, dl a00 g_.2.1, dl (.one (.int .i64)) y1814], [dl tsI4 [], dl a00 [], dl (.one (.int .i64)) []], [di ((gt g_.2.1 s1885.2 dNode).1), dl (.one (.int .i64)) y1900, di ((gt g_.2.1 s1885.2 dNode).2.2.1), di ((gt g_.2.1 s1885.2 dNode).2.2.2.1), di ((gt g_.2.1 s1885.2 dNode).2.2.2.2.1), di ((gt g_.2.1 s1885.2 dNode).2.2.2.2.2.1), di ((gt g_.2.1 s1885.2 dNode).2.2.2.2.2.2.1), di ((gt g_.2.1 s1885.2 dNode).2.2.2.2.2.2.2.1), di ((gt g_.2.1 s1885.2 dNode).2.2.2.2.2.2.2.2.1), di ((gt g_.2.1 s1885.2 dNode).2.2.2.2.2.2.2.2.2.1), di ((gt g_.2.1 s1885.2 dNode).2.2.2.2.2.2.2.2.2.2.1), di ((gt g_.2.1 s1885.2 dNode).2.2.2.2.2.2.2.2.2.2.2.1), dl (.one (.int .i8)) y1903, dl (.one (.int .i32)) y1906]], [], 70⟩
theorem d15 : R80 C80.r.r.r.r.l.r.b.b.r.l.b.r.r.r.l (b4q g_ y1812 y1814 s1885 y1900 y1903) (Q80 C80.r.r.r.r.l.r.b.b.r.l.b.r.r.r.r q) = Option.bind (b1y g_ s1885) (fun y1906 : (List Int) => R80 C80.r.r.r.r.l.r.b.b.r.l.b.r.r.r.r (e37 g_ y1812 y1814 s1885 y1900 y1903 y1906) q) := by
  refine .trans ?_ (bif_b (bind_b fun y1905 => some_b) some_b)
  refine (pre1 (d19 g_ y1812 y1814 s1885 y1900 y1903 _)).trans ?_
  refine (cond_e (b := (a3g g_ s1885)) (st' := (b4q g_ y1812 y1814 s1885 y1900 y1903)) ).trans (bif_g ?_ ?_)
  · refine (d1a g_ y1812 y1814 s1885 y1900 y1903 _).trans (bind_g fun y1905 => ?_)
    refine (seqC_normal (st' := (e36 g_ y1812 y1814 s1885 y1900 y1903 y1905))).trans ?_
    kernel_rfl
  · refine (skip_eq).trans ?_
    refine (seqC_normal (st' := (b4q g_ y1812 y1814 s1885 y1900 y1903))).trans ?_
    kernel_rfl
def b24 : Option (List Node) := (bif (decide (s1885.1.length + ([((gt g_.2.1 s1885.2 dNode).1, y1900, (gt g_.2.1 s1885.2 dNode).2.2.1, (gt g_.2.1 s1885.2 dNode).2.2.2.1, (gt g_.2.1 s1885.2 dNode).2.2.2.2.1, (gt g_.2.1 s1885.2 dNode).2.2.2.2.2.1, (gt g_.2.1 s1885.2 dNode).2.2.2.2.2.2.1, (gt g_.2.1 s1885.2 dNode).2.2.2.2.2.2.2.1, (gt g_.2.1 s1885.2 dNode).2.2.2.2.2.2.2.2.1, (gt g_.2.1 s1885.2 dNode).2.2.2.2.2.2.2.2.2.1, (gt g_.2.1 s1885.2 dNode).2.2.2.2.2.2.2.2.2.2.1, (gt g_.2.1 s1885.2 dNode).2.2.2.2.2.2.2.2.2.2.2.1, y1903, y1906)] : List Node).length ≤ maxL)) then (some (s1885.1 ++ [((gt g_.2.1 s1885.2 dNode).1, y1900, (gt g_.2.1 s1885.2 dNode).2.2.1, (gt g_.2.1 s1885.2 dNode).2.2.2.1, (gt g_.2.1 s1885.2 dNode).2.2.2.2.1, (gt g_.2.1 s1885.2 dNode).2.2.2.2.2.1, (gt g_.2.1 s1885.2 dNode).2.2.2.2.2.2.1, (gt g_.2.1 s1885.2 dNode).2.2.2.2.2.2.2.1, (gt g_.2.1 s1885.2 dNode).2.2.2.2.2.2.2.2.1, (gt g_.2.1 s1885.2 dNode).2.2.2.2.2.2.2.2.2.1, (gt g_.2.1 s1885.2 dNode).2.2.2.2.2.2.2.2.2.2.1, (gt g_.2.1 s1885.2 dNode).2.2.2.2.2.2.2.2.2.2.2.1, y1903, y1906)])) else none)
abbrev d71 : St := ⟨[(1, rF 0), (2, rF 1), (3, rO a00 y1907 3), (4, ri s1885.2)], [[dl tsI4 y1812, dl a00 g_.2.1, dl (.one (.int .i64)) y1814], [dl tsI4 [], dl a00 [], dl (.one (.int .i64)) []], []], [], 70⟩
theorem d1b : R80 C80.r.r.r.r.l.r.b.b.r.l.b.r.r.r.r (e37 g_ y1812 y1814 s1885 y1900 y1903 y1906) q = Option.bind (b24 g_ s1885 y1900 y1903 y1906) (fun y1907 : (List Node) => q .normal (d71 g_ y1812 y1814 s1885 y1907)) := .trans (by kernel_rfl) (bif_b some_b none_b)
theorem d56 : R80 C80.r.r.r.r.l.r.b.b.r.r (d71 g_ y1812 y1814 s1885 y1907) q = q .normal ⟨[(1, rF 0), (2, rF 1), (3, rO a00 y1907 3), (4, ri (IntKind.wrap .i64 (s1885.2 + 1)))], [[dl tsI4 y1812, dl a00 g_.2.1, dl (.one (.int .i64)) y1814], [dl tsI4 [], dl a00 [], dl (.one (.int .i64)) []], []], [], 70⟩ := by kernel_rfl
def a7e : Option (((List Node) × Int) ⊕ ((List Node) × Int)) := (bif (a49 g_ s1885) then (Option.bind (b3f g_ s1885) (fun y1898 : Unit => (Option.bind (b1w g_ s1885) (fun y1900 : (List Int) => (Option.bind (b1x g_ s1885) (fun y1903 : (List Int) => (Option.bind (b1y g_ s1885) (fun y1906 : (List Int) => (Option.bind (b24 g_ s1885 y1900 y1903 y1906) (fun y1907 : (List Node) => (some (Sum.inl (y1907, (IntKind.wrap .i64 (s1885.2 + 1))))))))))))))) else (some (Sum.inr s1885)))
abbrev d72 : St := ⟨[(1, rF 0), (2, rF 1), (3, rO a00 y1908.1 3), (4, ri y1908.2)], [[dl tsI4 y1812, dl a00 g_.2.1, dl (.one (.int .i64)) y1814], [dl tsI4 [], dl a00 [], dl (.one (.int .i64)) []]], [], 70⟩
theorem c6p : R80 C80.r.r.r.r.l.r.b.b (S80_7 g_ y1812 y1814 s1885) (loopKont 2 q) = Option.bind (a7e g_ s1885) (either (fun y : ((List Node) × Int) => q .normal ⟨[(1, rF 0), (2, rF 1), (3, rO a00 y.1 3), (4, ri y.2)], [[dl tsI4 y1812, dl a00 g_.2.1, dl (.one (.int .i64)) y1814], [dl tsI4 [], dl a00 [], dl (.one (.int .i64)) []]], [], 70⟩) (fun y1908 : ((List Node) × Int) => q (.exit 0) (d72 g_ y1812 y1814 y1908))) := by
  refine .trans ?_ (bif_b (bind_b fun y1898 => (bind_b fun y1900 => (bind_b fun y1903 => (bind_b fun y1906 => (bind_b fun y1907 => e2_0))))) e2_1)
  refine .trans seq_push ?_
  refine (pre1 (d55 g_ y1812 y1814 s1885 _)).trans ?_
  refine (cond_e (b := (a49 g_ s1885)) (st' := (S80_7 g_ y1812 y1814 s1885)) ).trans (bif_g ?_ ?_)
  · refine (skip_eq).trans ?_
    refine (seqC_normal (st' := (S80_7 g_ y1812 y1814 s1885))).trans ?_
    refine .trans seq_push ?_
    refine (block_push (id := 1)).trans ?_
    refine (pre1 (d57 g_ y1812 y1814 s1885 _)).trans (bind_g fun y1898 => ?_)
    refine .trans seq_push ?_
    refine (d13 g_ y1812 y1814 s1885 _).trans (bind_g fun y1900 => ?_)
    refine .trans seq_push ?_
    refine (d14 g_ y1812 y1814 s1885 y1900 _).trans (bind_g fun y1903 => ?_)
    refine .trans seq_push ?_
    refine (d15 g_ y1812 y1814 s1885 y1900 y1903 _).trans (bind_g fun y1906 => ?_)
    refine (d1b g_ y1812 y1814 s1885 y1900 y1903 y1906 _).trans (bind_g fun y1907 => ?_)
    refine block_normal.trans ?_
    refine (seqC_normal (st' := (d71 g_ y1812 y1814 s1885 y1907))).trans ?_
    refine (d56 g_ y1812 y1814 s1885 y1907 _).trans ?_
    kernel_rfl
  · refine ((exit_eq (j := 0))).trans ?_
    refine seqC_exit.trans ?_
    kernel_rfl
theorem d52 : R80 C80.r.r.r.r.l.r.b (S80_6 g_ y1812 y1814) q = Option.bind (iterN (a7e g_) LL ([], (0 : Int))) (fun y1908 : ((List Node) × Int) => q (.exit 0) (d72 g_ y1812 y1814 y1908)) :=
  Eq.trans (by kernel_rfl) (loop_iter1 (S := fun s1885 : ((List Node) × Int) => (S80_7 g_ y1812 y1814 s1885)) (Y1 := fun y1908 : ((List Node) × Int) => ((.exit 0), (d72 g_ y1812 y1814 y1908))) (fun s q => c6p g_ y1812 y1814 s q) (fun z => rfl) LL ([], (0 : Int)))
abbrev e38 : St := ⟨[(1, rF 0), (2, rF 1), (3, rO a00 y1908.1 3)], [[dl tsI4 y1812, dl a00 g_.2.1, dl (.one (.int .i64)) y1814], [dl tsI4 [], dl a00 [], dl (.one (.int .i64)) []]], [], 70⟩
theorem d4y : P80 2 C80.r.r.r.r.r (e38 g_ y1812 y1814 y1908) k = k ⟨[(2, rF 1)], [[], [dl tsI4 y1812, dl a00 y1908.1, dl (.one (.int .i64)) y1814]], [], 70⟩ := by kernel_rfl
/-- quilt/quiltlaw06.less -/
def a2d : Option Graph := (Option.bind (b3a g_) (fun y1812 : (List I4) => (Option.bind (b3b g_) (fun y1814 : (List Int) => (Option.bind (iterN (a7e g_) LL ([], (0 : Int))) (fun y1908 : ((List Node) × Int) => (some (y1812, y1908.1, y1814))))))))
theorem d4z : stepS E cp76 ce4 8 [rA a01 g_] = Option.bind (a2d g_) (fun y : Graph => some (rA a01 y : R)) := by
  refine .trans ?_ (bind_b fun y1812 => (bind_b fun y1814 => (bind_b fun y1908 => some_b)))
  refine (stepG_is (nt := 70) (regs := [(0, rA a01 g_)])).trans ?_
  refine (pre1 (d4v g_ _)).trans ?_
  refine .trans seq_push ?_
  refine (d50 g_ _).trans (bind_g fun y1812 => ?_)
  refine .trans seq_push ?_
  refine (d51 g_ y1812 _).trans (bind_g fun y1814 => ?_)
  refine (pre1 (d4w g_ y1812 y1814 _)).trans ?_
  refine .trans seq_push ?_
  refine (pre1 (d4x g_ y1812 y1814 _)).trans ?_
  refine (block_push (id := 0)).trans ?_
  refine (d52 g_ y1812 y1814 _).trans (bind_g fun y1908 => ?_)
  refine block_same.trans ?_
  refine (seqC_normal (st' := (e38 g_ y1812 y1814 y1908))).trans ?_
  refine (pre2 (d4y g_ y1812 y1814 y1908 _)).trans ?_
  refine (ret_eq).trans ?_
  kernel_rfl
noncomputable def cp77 : CallP := withC cp76 8 [(.agg a01)] (.one (.agg a01)) (fun y : Graph => y) (fun x => a2d x.1)
theorem e5t : PureOK E cp77 := conS eok e5s a0o fun x => Eq.mp (by kernel_rfl) (d4z x.1)
end
noncomputable abbrev C81 := codeOf E.P 16
noncomputable abbrev P81 {α : Type} := @preK α E 16 cp77 ce4
theorem e04 {α : Type} (s_ : I3) (k : St → Option α) : P81 1 C81 ⟨[(0, rA tsI3 s_)], [], [], 31⟩ k = k ⟨[(1, rC tsI3 s_)], [], [], 31⟩ := by kernel_rfl
def b5t {β : Type} (s_ : I3) (K : Bool → β) : β := (bif (decide (s_.1 < 1)) then (K true) else (bif (decide (s_.1 > 16)) then (K true) else (bif (decide (s_.2.1 < 1)) then (K true) else (bif (decide (s_.2.1 > 16)) then (K true) else (bif (decide (s_.2.2 < 1)) then (K true) else (K (decide (s_.2.2 > 8))))))))
def a53 (s_ : I3) : Bool := b5t s_ (fun y => y)
theorem d1g {β : Type} (s_ : I3) (K : Bool → β) : b5t s_ K = K (a53 s_) := (bif_k K rfl (bif_k K rfl (bif_k K rfl (bif_k K rfl (bif_k K rfl rfl)))))
theorem e07 {α : Type} (s_ : I3) (k : St → Option α) : P81 1 C81.r.l ⟨[(1, rC tsI3 s_)], [], [], 31⟩ k = k ⟨[(30, rb (a53 s_))], [], [], 31⟩ := Eq.trans (by kernel_rfl) (d1g s_ (fun y1916 : Bool => k ⟨[(30, rb y1916)], [], [], 31⟩))
theorem e05 {α : Type} (k : St → Option α) : P81 1 C81.r.l.r.t ⟨[], [], [], 31⟩ k = k ⟨[(2, ri 10)], [], [], 31⟩ := by kernel_rfl
theorem d1f {α : Type} (k : St → Option α) : P81 1 C81.r.r ⟨[], [], [], 31⟩ k = k ⟨[(2, ri 0)], [], [], 31⟩ := by kernel_rfl
/-- quilt/quiltref02.May -/
def b4j {β : Type} (s_ : I3) (K : Int → β) : β := (bif (a53 s_) then (K (10 : Int)) else (K (0 : Int)))
def a1l (s_ : I3) : Int := b4j s_ (fun y => y)
theorem e27 {β : Type} (s_ : I3) (K : Int → β) : b4j s_ K = K (a1l s_) := (bif_k K rfl rfl)
theorem e06 (s_ : I3) : stepS E cp77 ce4 16 [rA tsI3 s_] = (fun y : Int => some (ri y : R)) (a1l s_) := by
  refine Eq.trans ?_ (e27 s_ (fun y : Int => some (ri y : R)))
  refine (stepG_is (nt := 31) (regs := [(0, rA tsI3 s_)])).trans ?_
  unfold b4j
  refine (pre1 (e04 s_ _)).trans ?_
  refine .trans seq_push ?_
  refine (pre1 (e07 s_ _)).trans ?_
  refine (cond_e (b := (a53 s_)) (st' := ⟨[], [], [], 31⟩) ).trans (bif_g ?_ ?_)
  · refine (pre1 (e05 _)).trans ?_
    refine (ret_eq).trans ?_
    refine seqC_ret.trans ?_
    kernel_rfl
  · refine (skip_eq).trans ?_
    refine (seqC_normal (st' := ⟨[], [], [], 31⟩)).trans ?_
    refine (pre1 (d1f _)).trans ?_
    refine (ret_eq).trans ?_
    kernel_rfl
noncomputable def cp78 : CallP := withC cp77 16 [(.agg tsI3)] (.one pI) (fun y : Int => y) (fun x => some (a1l x.1))
theorem e5u : PureOK E cp78 := conS eok e5t a0o fun x => Eq.mp (by kernel_rfl) (e06 x.1)
section
variable {α β : Type} (x_ : Int) (low : Int) (high : Int) (k : St → Option α)
noncomputable abbrev C82 := codeOf E.P 17
noncomputable abbrev P82 := @preK α E 17 cp78 ce4
def b6x (K : Bool → β) : β := (bif (decide (x_ ≥ low)) then (K (decide (x_ ≤ high))) else (K false))
def a9n : Bool := b6x x_ low high (fun y => y)
theorem d5b (K : Bool → β) : b6x x_ low high K = K (a9n x_ low high) := (bif_k K rfl rfl)
theorem e2a : P82 2 C82 ⟨[(0, ri x_), (1, ri low), (2, ri high)], [], [], 15⟩ k = k ⟨[(6, rb (a9n x_ low high))], [], [], 15⟩ := Eq.trans (by kernel_rfl) (d5b x_ low high (fun y1919 : Bool => k ⟨[(6, rb y1919)], [], [], 15⟩))
/-- quilt/quiltref03.in -/
def b6p (K : Bool → β) : β := (K (a9n x_ low high))
def a0v : Bool := b6p x_ low high (fun y => y)
theorem e2f (K : Bool → β) : b6p x_ low high K = K (a0v x_ low high) := rfl
theorem e29 : stepS E cp78 ce4 17 [ri x_, ri low, ri high] = (fun y : Bool => some (rb y : R)) (a0v x_ low high) := by
  refine Eq.trans ?_ (e2f x_ low high (fun y : Bool => some (rb y : R)))
  refine (stepG_is (nt := 15) (regs := [(0, ri x_), (1, ri low), (2, ri high)])).trans ?_
  unfold b6p
  refine (pre2 (e2a x_ low high _)).trans ?_
  refine (ret_eq).trans ?_
  kernel_rfl
noncomputable def cp79 : CallP := withC cp78 17 [pI, pI, pI] (.one pB) (fun y : Bool => y) (fun x => some (a0v x.1 x.2.1 x.2.2.1))
theorem e5v : PureOK E cp79 := conS eok e5u a0o fun x => Eq.mp (by kernel_rfl) (e29 x.1 x.2.1 x.2.2.1)
end
noncomputable abbrev C83 := codeOf E.P 35
noncomputable abbrev P83 {α : Type} := @preK α E 35 cp79 ce4
def b5v {β : Type} (op : Int) (K : Bool → β) : β := (bif (op == 6) then (K true) else (bif (op == 7) then (K true) else (K (op == 10))))
def a8k (op : Int) : Bool := b5v op (fun y => y)
theorem d1l {β : Type} (op : Int) (K : Bool → β) : b5v op K = K (a8k op) := (bif_k K rfl (bif_k K rfl rfl))
theorem e0j {α : Type} (op : Int) (k : St → Option α) : P83 2 C83 ⟨[(0, ri op)], [], [], 13⟩ k = k ⟨[(2, rb (a8k op))], [], [], 13⟩ := Eq.trans (by kernel_rfl) (d1l op (fun y1999 : Bool => k ⟨[(2, rb y1999)], [], [], 13⟩))
/-- quilt/quiltref03.Two -/
def b4k {β : Type} (op : Int) (K : Bool → β) : β := (K (a8k op))
def a6u (op : Int) : Bool := b4k op (fun y => y)
theorem e28 {β : Type} (op : Int) (K : Bool → β) : b4k op K = K (a6u op) := rfl
theorem e0i (op : Int) : stepS E cp79 ce4 35 [ri op] = (fun y : Bool => some (rb y : R)) (a6u op) := by
  refine Eq.trans ?_ (e28 op (fun y : Bool => some (rb y : R)))
  refine (stepG_is (nt := 13) (regs := [(0, ri op)])).trans ?_
  unfold b4k
  refine (pre2 (e0j op _)).trans ?_
  refine (ret_eq).trans ?_
  kernel_rfl
noncomputable def cp80 : CallP := withC cp79 35 [pI] (.one pB) (fun y : Bool => y) (fun x => some (a6u x.1))
theorem e5w : PureOK E cp80 := conS eok e5v a0o fun x => Eq.mp (by kernel_rfl) (e0i x.1)
noncomputable abbrev C84 := codeOf E.P 36
noncomputable abbrev P84 {α : Type} := @preK α E 36 cp80 ce4
def b09 {β : Type} (op : Int) (K : Bool → β) : β := (bif (decide (op ≥ 1)) then (bif (decide (op ≤ 5)) then (K (op != 3)) else (K false)) else (K false))
def a5f (op : Int) : Bool := b09 op (fun y => y)
theorem c1g {β : Type} (op : Int) (K : Bool → β) : b09 op K = K (a5f op) := (bif_k K (bif_k K rfl rfl) rfl)
theorem c7c {α : Type} (op : Int) (k : St → Option α) : P84 2 C84 ⟨[(0, ri op)], [], [], 13⟩ k = k ⟨[(2, rb (a5f op))], [], [], 13⟩ := Eq.trans (by kernel_rfl) (c1g op (fun y2002 : Bool => k ⟨[(2, rb y2002)], [], [], 13⟩))
/-- quilt/quiltref03.d7j -/
def a8l {β : Type} (op : Int) (K : Bool → β) : β := (K (a5f op))
def a2x (op : Int) : Bool := a8l op (fun y => y)
theorem d1v {β : Type} (op : Int) (K : Bool → β) : a8l op K = K (a2x op) := rfl
theorem c7b (op : Int) : stepS E cp80 ce4 36 [ri op] = (fun y : Bool => some (rb y : R)) (a2x op) := by
  refine Eq.trans ?_ (d1v op (fun y : Bool => some (rb y : R)))
  refine (stepG_is (nt := 13) (regs := [(0, ri op)])).trans ?_
  unfold a8l
  refine (pre2 (c7c op _)).trans ?_
  refine (ret_eq).trans ?_
  kernel_rfl
noncomputable def cp81 : CallP := withC cp80 36 [pI] (.one pB) (fun y : Bool => y) (fun x => some (a2x x.1))
theorem e5x : PureOK E cp81 := conS eok e5w a0o fun x => Eq.mp (by kernel_rfl) (c7b x.1)
section
variable {α β : Type} (n_ : Node) (many : Int) (k : St → Option α) (q : Kont α)
noncomputable abbrev C85 := codeOf E.P 23
noncomputable abbrev P85 := @preK α E 23 cp81 ce4
noncomputable abbrev R85 := @runCode α E 23 cp81 ce4
noncomputable abbrev Q85 := @seqC α E 23 cp81 ce4
abbrev S85_0 : St := ⟨[(1, ri many), (2, rC a00 n_), (5, ri 1)], [], [], 119⟩
theorem d5s : P85 2 C85 ⟨[(0, rA a00 n_), (1, ri many)], [], [], 119⟩ k = k (S85_0 n_ many) := by kernel_rfl
theorem b8c : P85 1 C85.r.r.l (S85_0 n_ many) k = k ⟨[(1, ri many), (2, rC a00 n_), (5, ri 1), (13, rb (a6u n_.1))], [], [], 119⟩ := by kernel_rfl
abbrev S85_1 : St := ⟨[(1, ri many), (2, rC a00 n_), (5, ri 2)], [], [], 119⟩
theorem d5y : R85 C85.r.r.l.r.t (S85_0 n_ many) q = q .normal (S85_1 n_ many) := by kernel_rfl
def a7i (K : Int → β) : β := (bif (a6u n_.1) then (K (2 : Int)) else (K (1 : Int)))
def a08 : Int := a7i n_ (fun y => y)
theorem c7p (K : Int → β) : a7i n_ K = K (a08 n_) := (bif_k K rfl rfl)
abbrev S85_2 : St := ⟨[(1, ri many), (2, rC a00 n_), (5, ri (a08 n_))], [], [], 119⟩
theorem d5v : R85 C85.r.r.l (S85_0 n_ many) (Q85 C85.r.r.r q) = R85 C85.r.r.r (S85_2 n_ many) q := by
  refine Eq.trans ?_ (c7p n_ (fun y2000 : Int => R85 C85.r.r.r ⟨[(1, ri many), (2, rC a00 n_), (5, ri y2000)], [], [], 119⟩ q))
  unfold a7i
  refine (pre1 (b8c n_ many _)).trans ?_
  refine (cond_e (b := (a6u n_.1)) (st' := (S85_0 n_ many)) ).trans (bif_g ?_ ?_)
  · refine (d5y n_ many _).trans ?_
    refine (seqC_normal (st' := (S85_1 n_ many))).trans ?_
    kernel_rfl
  · refine (skip_eq).trans ?_
    refine (seqC_normal (st' := (S85_0 n_ many))).trans ?_
    kernel_rfl
def b3k (K : Bool → β) : β := (bif (n_.2.2.1 == 0) then (K (n_.2.2.2.1 == 0)) else (K false))
def a4d : Bool := b3k n_ (fun y => y)
theorem c7s (K : Bool → β) : b3k n_ K = K (a4d n_) := (bif_k K rfl rfl)
abbrev S85_3 : St := ⟨[(1, ri many), (2, rC a00 n_), (5, ri (a08 n_)), (6, rb (a4d n_))], [], [], 119⟩
theorem d5z : P85 1 C85.r.r.r (S85_2 n_ many) k = k (S85_3 n_ many) := Eq.trans (by kernel_rfl) (c7s n_ (fun y2001 : Bool => k ⟨[(1, ri many), (2, rC a00 n_), (5, ri (a08 n_)), (6, rb y2001)], [], [], 119⟩))
theorem b8d : P85 1 C85.r.r.r.r.l (S85_3 n_ many) k = k ⟨[(1, ri many), (2, rC a00 n_), (5, ri (a08 n_)), (6, rb (a4d n_)), (24, rb (a2x n_.1))], [], [], 119⟩ := by kernel_rfl
def b3l (K : Bool → β) : β := (bif (a0v n_.2.2.1 (1 : Int) (3 : Int)) then (K (a0v n_.2.2.2.1 (1 : Int) (2 : Int))) else (K false))
def a7l : Bool := b3l n_ (fun y => y)
theorem c7t (K : Bool → β) : b3l n_ K = K (a7l n_) := (bif_k K rfl rfl)
abbrev S85_4 : St := ⟨[(1, ri many), (2, rC a00 n_), (5, ri (a08 n_)), (6, rb (a7l n_))], [], [], 119⟩
theorem d60 : R85 C85.r.r.r.r.l.r.t (S85_3 n_ many) q = q .normal (S85_4 n_ many) := Eq.trans (by kernel_rfl) (c7t n_ (fun y2003 : Bool => q .normal ⟨[(1, ri many), (2, rC a00 n_), (5, ri (a08 n_)), (6, rb y2003)], [], [], 119⟩))
def a7j (K : Bool → β) : β := (bif (a2x n_.1) then (K (a7l n_)) else (K (a4d n_)))
def a09 : Bool := a7j n_ (fun y => y)
theorem c7q (K : Bool → β) : a7j n_ K = K (a09 n_) := (bif_k K rfl rfl)
abbrev S85_5 : St := ⟨[(1, ri many), (2, rC a00 n_), (5, ri (a08 n_)), (6, rb (a09 n_))], [], [], 119⟩
theorem d5w : R85 C85.r.r.r.r.l (S85_3 n_ many) (Q85 C85.r.r.r.r.r q) = R85 C85.r.r.r.r.r (S85_5 n_ many) q := by
  refine Eq.trans ?_ (c7q n_ (fun y2004 : Bool => R85 C85.r.r.r.r.r ⟨[(1, ri many), (2, rC a00 n_), (5, ri (a08 n_)), (6, rb y2004)], [], [], 119⟩ q))
  unfold a7j
  refine (pre1 (b8d n_ many _)).trans ?_
  refine (cond_e (b := (a2x n_.1)) (st' := (S85_3 n_ many)) ).trans (bif_g ?_ ?_)
  · refine (d60 n_ many _).trans ?_
    refine (seqC_normal (st' := (S85_4 n_ many))).trans ?_
    kernel_rfl
  · refine (skip_eq).trans ?_
    refine (seqC_normal (st' := (S85_3 n_ many))).trans ?_
    kernel_rfl
abbrev S85_6 : St := ⟨[(1, ri many), (2, rC a00 n_), (5, ri (a08 n_)), (6, rb (a09 n_)), (7, rb (n_.2.2.2.2.1 == 0))], [], [], 119⟩
theorem d5t : P85 1 C85.r.r.r.r.r (S85_5 n_ many) k = k (S85_6 n_ many) := by kernel_rfl
def b3m (K : Bool → β) : β := (bif (n_.1 == 1) then (K true) else (K (n_.1 == 2)))
def a4e : Bool := b3m n_ (fun y => y)
theorem c7u (K : Bool → β) : b3m n_ K = K (a4e n_) := (bif_k K rfl rfl)
theorem d61 : P85 1 C85.r.r.r.r.r.r.l (S85_6 n_ many) k = k ⟨[(1, ri many), (2, rC a00 n_), (5, ri (a08 n_)), (6, rb (a09 n_)), (7, rb (n_.2.2.2.2.1 == 0)), (43, rb (a4e n_))], [], [], 119⟩ := Eq.trans (by kernel_rfl) (c7u n_ (fun y2005 : Bool => k ⟨[(1, ri many), (2, rC a00 n_), (5, ri (a08 n_)), (6, rb (a09 n_)), (7, rb (n_.2.2.2.2.1 == 0)), (43, rb y2005)], [], [], 119⟩))
def b3n (K : Bool → β) : β := (bif (a0v n_.2.2.2.2.1 (0 : Int) (1 : Int)) then (K (decide (n_.2.2.2.2.1 < n_.2.2.1))) else (K false))
def a7m : Bool := b3n n_ (fun y => y)
theorem c7v (K : Bool → β) : b3n n_ K = K (a7m n_) := (bif_k K rfl rfl)
abbrev S85_7 : St := ⟨[(1, ri many), (2, rC a00 n_), (5, ri (a08 n_)), (6, rb (a09 n_)), (7, rb (a7m n_))], [], [], 119⟩
theorem d62 : R85 C85.r.r.r.r.r.r.l.r.t (S85_6 n_ many) q = q .normal (S85_7 n_ many) := Eq.trans (by kernel_rfl) (c7v n_ (fun y2006 : Bool => q .normal ⟨[(1, ri many), (2, rC a00 n_), (5, ri (a08 n_)), (6, rb (a09 n_)), (7, rb y2006)], [], [], 119⟩))
def a7k (K : Bool → β) : β := (bif (a4e n_) then (K (a7m n_)) else (K (n_.2.2.2.2.1 == 0)))
def a4c : Bool := a7k n_ (fun y => y)
theorem c7r (K : Bool → β) : a7k n_ K = K (a4c n_) := (bif_k K rfl rfl)
abbrev S85_8 : St := ⟨[(1, ri many), (2, rC a00 n_), (5, ri (a08 n_)), (6, rb (a09 n_)), (7, rb (a4c n_))], [], [], 119⟩
theorem d5x : R85 C85.r.r.r.r.r.r.l (S85_6 n_ many) (Q85 C85.r.r.r.r.r.r.r q) = R85 C85.r.r.r.r.r.r.r (S85_8 n_ many) q := by
  refine Eq.trans ?_ (c7r n_ (fun y2007 : Bool => R85 C85.r.r.r.r.r.r.r ⟨[(1, ri many), (2, rC a00 n_), (5, ri (a08 n_)), (6, rb (a09 n_)), (7, rb y2007)], [], [], 119⟩ q))
  unfold a7k
  refine (pre1 (d61 n_ many _)).trans ?_
  refine (cond_e (b := (a4e n_)) (st' := (S85_6 n_ many)) ).trans (bif_g ?_ ?_)
  · refine (d62 n_ many _).trans ?_
    refine (seqC_normal (st' := (S85_7 n_ many))).trans ?_
    kernel_rfl
  · refine (skip_eq).trans ?_
    refine (seqC_normal (st' := (S85_6 n_ many))).trans ?_
    kernel_rfl
theorem b8e : P85 1 C85.r.r.r.r.r.r.r.l (S85_8 n_ many) k = k ⟨[(1, ri many), (2, rC a00 n_), (5, ri (a08 n_)), (6, rb (a09 n_)), (7, rb (a4c n_)), (56, rb (n_.1 == 9))], [], [], 119⟩ := by kernel_rfl
abbrev S85_9 : St := ⟨[(1, ri many), (2, rC a00 n_), (5, ri (a08 n_)), (6, rb (a09 n_)), (7, rb (n_.2.2.2.2.1 == 1))], [], [], 119⟩
theorem d28 : R85 C85.r.r.r.r.r.r.r.l.r.t (S85_8 n_ many) q = q .normal (S85_9 n_ many) := by kernel_rfl
def a65 (K : Bool → β) : β := (bif (n_.1 == 9) then (K (n_.2.2.2.2.1 == 1)) else (K (a4c n_)))
def a0g : Bool := a65 n_ (fun y => y)
theorem c49 (K : Bool → β) : a65 n_ K = K (a0g n_) := (bif_k K rfl rfl)
abbrev e39 : St := ⟨[(1, ri many), (2, rC a00 n_), (5, ri (a08 n_)), (6, rb (a09 n_)), (7, rb (a0g n_))], [], [], 119⟩
theorem d26 : R85 C85.r.r.r.r.r.r.r.l (S85_8 n_ many) (Q85 C85.r.r.r.r.r.r.r.r q) = R85 C85.r.r.r.r.r.r.r.r (e39 n_ many) q := by
  refine Eq.trans ?_ (c49 n_ (fun y2008 : Bool => R85 C85.r.r.r.r.r.r.r.r ⟨[(1, ri many), (2, rC a00 n_), (5, ri (a08 n_)), (6, rb (a09 n_)), (7, rb y2008)], [], [], 119⟩ q))
  unfold a65
  refine (pre1 (b8e n_ many _)).trans ?_
  refine (cond_e (b := (n_.1 == 9)) (st' := (S85_8 n_ many)) ).trans (bif_g ?_ ?_)
  · refine (d28 n_ many _).trans ?_
    refine (seqC_normal (st' := (S85_9 n_ many))).trans ?_
    kernel_rfl
  · refine (skip_eq).trans ?_
    refine (seqC_normal (st' := (S85_8 n_ many))).trans ?_
    kernel_rfl
abbrev b4r : St := ⟨[(1, ri many), (2, rC a00 n_), (5, ri (a08 n_)), (6, rb (a09 n_)), (7, rb (a0g n_)), (8, rb (n_.2.2.2.2.2.1 == 0))], [], [], 119⟩
theorem d25 : P85 1 C85.r.r.r.r.r.r.r.r (e39 n_ many) k = k (b4r n_ many) := by kernel_rfl
def b2g (K : Bool → β) : β := (bif (n_.1 == 1) then (K true) else (K (n_.1 == 3)))
def a3j : Bool := b2g n_ (fun y => y)
theorem c4b (K : Bool → β) : b2g n_ K = K (a3j n_) := (bif_k K rfl rfl)
theorem d29 : P85 1 C85.r.r.r.r.r.r.r.r.r.l (b4r n_ many) k = k ⟨[(1, ri many), (2, rC a00 n_), (5, ri (a08 n_)), (6, rb (a09 n_)), (7, rb (a0g n_)), (8, rb (n_.2.2.2.2.2.1 == 0)), (70, rb (a3j n_))], [], [], 119⟩ := Eq.trans (by kernel_rfl) (c4b n_ (fun y2009 : Bool => k ⟨[(1, ri many), (2, rC a00 n_), (5, ri (a08 n_)), (6, rb (a09 n_)), (7, rb (a0g n_)), (8, rb (n_.2.2.2.2.2.1 == 0)), (70, rb y2009)], [], [], 119⟩))
abbrev e3a : St := ⟨[(1, ri many), (2, rC a00 n_), (5, ri (a08 n_)), (6, rb (a09 n_)), (7, rb (a0g n_)), (8, rb (a0v n_.2.2.2.2.2.1 (1 : Int) (8 : Int)))], [], [], 119⟩
theorem d2a : R85 C85.r.r.r.r.r.r.r.r.r.l.r.t (b4r n_ many) q = q .normal (e3a n_ many) := by kernel_rfl
def a66 (K : Bool → β) : β := (bif (a3j n_) then (K (a0v n_.2.2.2.2.2.1 (1 : Int) (8 : Int))) else (K (n_.2.2.2.2.2.1 == 0)))
def a19 : Bool := a66 n_ (fun y => y)
theorem c4a (K : Bool → β) : a66 n_ K = K (a19 n_) := (bif_k K rfl rfl)
abbrev e3b : St := ⟨[(1, ri many), (2, rC a00 n_), (5, ri (a08 n_)), (6, rb (a09 n_)), (7, rb (a0g n_)), (8, rb (a19 n_))], [], [], 119⟩
theorem d27 : R85 C85.r.r.r.r.r.r.r.r.r.l (b4r n_ many) (Q85 C85.r.r.r.r.r.r.r.r.r.r q) = R85 C85.r.r.r.r.r.r.r.r.r.r (e3b n_ many) q := by
  refine Eq.trans ?_ (c4a n_ (fun y2010 : Bool => R85 C85.r.r.r.r.r.r.r.r.r.r ⟨[(1, ri many), (2, rC a00 n_), (5, ri (a08 n_)), (6, rb (a09 n_)), (7, rb (a0g n_)), (8, rb y2010)], [], [], 119⟩ q))
  unfold a66
  refine (pre1 (d29 n_ many _)).trans ?_
  refine (cond_e (b := (a3j n_)) (st' := (b4r n_ many)) ).trans (bif_g ?_ ?_)
  · refine (d2a n_ many _).trans ?_
    refine (seqC_normal (st' := (e3a n_ many))).trans ?_
    kernel_rfl
  · refine (skip_eq).trans ?_
    refine (seqC_normal (st' := (b4r n_ many))).trans ?_
    kernel_rfl
def b2h (K : Bool → β) : β := (bif ((n_.2.2.2.2.2.2.2.2.2.1 == 0) && ((n_.2.2.2.2.2.2.2.2.2.2.1 == 0) && ((n_.2.2.2.2.2.2.2.2.2.2.2.1 == 0) && true))) then (K true) else (K (n_.1 == 11)))
def a1z : Bool := b2h n_ (fun y => y)
theorem c4c (K : Bool → β) : b2h n_ K = K (a1z n_) := (bif_k K rfl rfl)
abbrev e3c : St := ⟨[(1, ri many), (2, rC a00 n_), (5, ri (a08 n_)), (6, rb (a09 n_)), (7, rb (a0g n_)), (8, rb (a19 n_)), (9, rb (a1z n_))], [], [], 119⟩
theorem d2b : P85 1 C85.r.r.r.r.r.r.r.r.r.r (e3b n_ many) k = k (e3c n_ many) := Eq.trans (by kernel_rfl) (c4c n_ (fun y2011 : Bool => k ⟨[(1, ri many), (2, rC a00 n_), (5, ri (a08 n_)), (6, rb (a09 n_)), (7, rb (a0g n_)), (8, rb (a19 n_)), (9, rb y2011)], [], [], 119⟩))
def b2i (K : Bool → β) : β := (bif (a0v n_.2.2.2.2.2.2.1 (1 : Int) (32767 : Int)) then (bif (a0v n_.2.2.2.2.2.2.2.1 (0 : Int) (31 : Int)) then (K (a0v n_.2.2.2.2.2.2.2.2.1 (-128 : Int) (127 : Int))) else (K false)) else (K false))
def a67 : Bool := b2i n_ (fun y => y)
theorem c4d (K : Bool → β) : b2i n_ K = K (a67 n_) := (bif_k K (bif_k K rfl rfl) rfl)
abbrev e3d : St := ⟨[(1, ri many), (2, rC a00 n_), (5, ri (a08 n_)), (6, rb (a09 n_)), (7, rb (a0g n_)), (8, rb (a19 n_)), (9, rb (a1z n_)), (10, rb (a67 n_))], [], [], 119⟩
theorem d2c : P85 1 C85.r.r.r.r.r.r.r.r.r.r.r (e3c n_ many) k = k (e3d n_ many) := Eq.trans (by kernel_rfl) (c4d n_ (fun y2012 : Bool => k ⟨[(1, ri many), (2, rC a00 n_), (5, ri (a08 n_)), (6, rb (a09 n_)), (7, rb (a0g n_)), (8, rb (a19 n_)), (9, rb (a1z n_)), (10, rb y2012)], [], [], 119⟩))
def b2j (K : Bool → β) : β := (bif (a0v n_.1 (1 : Int) (12 : Int)) then (bif (many == (a08 n_)) then (bif (a09 n_) then (bif (a0g n_) then (bif (a19 n_) then (bif (a1z n_) then (K (a67 n_)) else (K false)) else (K false)) else (K false)) else (K false)) else (K false)) else (K false))
def a68 : Bool := b2j n_ many (fun y => y)
theorem c4e (K : Bool → β) : b2j n_ many K = K (a68 n_ many) := (bif_k K (bif_k K (bif_k K (bif_k K (bif_k K (bif_k K rfl rfl) rfl) rfl) rfl) rfl) rfl)
theorem d2d : P85 1 C85.r.r.r.r.r.r.r.r.r.r.r.r (e3d n_ many) k = k ⟨[(4, rb (a68 n_ many))], [], [], 119⟩ := Eq.trans (by kernel_rfl) (c4e n_ many (fun y2013 : Bool => k ⟨[(4, rb y2013)], [], [], 119⟩))
/-- quilt/quiltref03.node -/
def b2f (K : Bool → β) : β := (K (a68 n_ many))
def a55 : Bool := b2f n_ many (fun y => y)
theorem e0l (K : Bool → β) : b2f n_ many K = K (a55 n_ many) := rfl
theorem d5u : stepS E cp81 ce4 23 [rA a00 n_, ri many] = (fun y : Bool => some (rb y : R)) (a55 n_ many) := by
  refine Eq.trans ?_ (e0l n_ many (fun y : Bool => some (rb y : R)))
  refine (stepG_is (nt := 119) (regs := [(0, rA a00 n_), (1, ri many)])).trans ?_
  unfold b2f
  refine (pre2 (d5s n_ many _)).trans ?_
  refine .trans seq_push ?_
  refine (d5v n_ many _).trans ?_
  refine (pre1 (d5z n_ many _)).trans ?_
  refine .trans seq_push ?_
  refine (d5w n_ many _).trans ?_
  refine (pre1 (d5t n_ many _)).trans ?_
  refine .trans seq_push ?_
  refine (d5x n_ many _).trans ?_
  refine .trans seq_push ?_
  refine (d26 n_ many _).trans ?_
  refine (pre1 (d25 n_ many _)).trans ?_
  refine .trans seq_push ?_
  refine (d27 n_ many _).trans ?_
  refine (pre1 (d2b n_ many _)).trans ?_
  refine (pre1 (d2c n_ many _)).trans ?_
  refine (pre1 (d2d n_ many _)).trans ?_
  refine (ret_eq).trans ?_
  kernel_rfl
noncomputable def cp82 : CallP := withC cp81 23 [(.agg a00), pI] (.one pB) (fun y : Bool => y) (fun x => some (a55 x.1 x.2.1))
theorem e5y : PureOK E cp82 := conS eok e5x a0o fun x => Eq.mp (by kernel_rfl) (d5u x.1 x.2.1)
end
noncomputable abbrev C86 := codeOf E.P 24
noncomputable abbrev P86 {α : Type} := @preK α E 24 cp82 ce4
def b28 {β : Type} (op : Int) (K : Bool → β) : β := (bif (op == 4) then (K true) else (bif (op == 5) then (K true) else (bif (op == 8) then (K true) else (bif (op == 9) then (K true) else (bif (op == 10) then (K true) else (K (op == 11)))))))
def a63 (op : Int) : Bool := b28 op (fun y => y)
theorem c46 {β : Type} (op : Int) (K : Bool → β) : b28 op K = K (a63 op) := (bif_k K rfl (bif_k K rfl (bif_k K rfl (bif_k K rfl (bif_k K rfl rfl)))))
theorem d1x {α : Type} (op : Int) (k : St → Option α) : P86 2 C86 ⟨[(0, ri op)], [], [], 25⟩ k = k ⟨[(2, rb (a63 op))], [], [], 25⟩ := Eq.trans (by kernel_rfl) (c46 op (fun y2015 : Bool => k ⟨[(2, rb y2015)], [], [], 25⟩))
/-- quilt/quiltref03.keeps -/
def a9o {β : Type} (op : Int) (K : Bool → β) : β := (K (a63 op))
def a8r (op : Int) : Bool := a9o op (fun y => y)
theorem d5c {β : Type} (op : Int) (K : Bool → β) : a9o op K = K (a8r op) := rfl
theorem d1w (op : Int) : stepS E cp82 ce4 24 [ri op] = (fun y : Bool => some (rb y : R)) (a8r op) := by
  refine Eq.trans ?_ (d5c op (fun y : Bool => some (rb y : R)))
  refine (stepG_is (nt := 25) (regs := [(0, ri op)])).trans ?_
  unfold a9o
  refine (pre2 (d1x op _)).trans ?_
  refine (ret_eq).trans ?_
  kernel_rfl
noncomputable def cp83 : CallP := withC cp82 24 [pI] (.one pB) (fun y : Bool => y) (fun x => some (a8r x.1))
theorem e5z : PureOK E cp83 := conS eok e5y a0o fun x => Eq.mp (by kernel_rfl) (d1w x.1)
section
variable {α β : Type} (size : Int) (k_ : Int) (stride : Int) (pad : Int) (s2060 : (Int × Int)) (y2061 : (Int × Int)) (k : St → Option α) (q : Kont α)
noncomputable abbrev C87 := codeOf E.P 37
noncomputable abbrev P87 := @preK α E 37 cp83 ce4
noncomputable abbrev R87 := @runCode α E 37 cp83 ce4
abbrev S87_0 : St := ⟨[(0, ri size), (1, ri k_), (2, ri stride), (3, ri pad)], [], [], 56⟩
theorem e08 : P87 1 C87 (S87_0 size k_ stride pad) k = k (S87_0 size k_ stride pad) := by kernel_rfl
def b5u (K : Bool → β) : β := (bif (decide (size < 1)) then (K true) else (bif (decide (size > 64)) then (K true) else (bif (decide (k_ < 1)) then (K true) else (bif (decide (k_ > 16)) then (K true) else (bif (decide (stride < 1)) then (K true) else (bif (decide (stride > 16)) then (K true) else (bif (decide (pad < 0)) then (K true) else (K (decide (pad > 16))))))))))
def a54 : Bool := b5u size k_ stride pad (fun y => y)
theorem d1k (K : Bool → β) : b5u size k_ stride pad K = K (a54 size k_ stride pad) := (bif_k K rfl (bif_k K rfl (bif_k K rfl (bif_k K rfl (bif_k K rfl (bif_k K rfl (bif_k K rfl rfl)))))))
theorem e0e : P87 1 C87.r.l (S87_0 size k_ stride pad) k = k ⟨[(0, ri size), (1, ri k_), (2, ri stride), (3, ri pad), (40, rb (a54 size k_ stride pad))], [], [], 56⟩ := Eq.trans (by kernel_rfl) (d1k size k_ stride pad (fun y2051 : Bool => k ⟨[(0, ri size), (1, ri k_), (2, ri stride), (3, ri pad), (40, rb y2051)], [], [], 56⟩))
theorem e0b : P87 1 C87.r.l.r.t (S87_0 size k_ stride pad) k = k ⟨[(8, ri 0)], [], [], 56⟩ := by kernel_rfl
theorem e09 : P87 1 C87.r.r (S87_0 size k_ stride pad) k = k ⟨[(0, ri size), (1, ri k_), (2, ri stride), (3, ri pad), (9, ri 0)], [], [], 56⟩ := by kernel_rfl
abbrev S87_1 : St := ⟨[(0, ri size), (1, ri k_), (2, ri stride), (3, ri pad), (9, ri 0), (10, ri (IntKind.wrap .i64 (0 - pad)))], [], [], 56⟩
theorem e0a : P87 1 C87.r.r.r.l ⟨[(0, ri size), (1, ri k_), (2, ri stride), (3, ri pad), (9, ri 0)], [], [], 56⟩ k = k (S87_1 size k_ stride pad) := by kernel_rfl
abbrev S87_2 : St := ⟨[(0, ri size), (1, ri k_), (2, ri stride), (3, ri pad), (9, ri s2060.1), (10, ri s2060.2)], [], [], 56⟩
theorem d1h : P87 1 C87.r.r.r.l.r.b.b.l (S87_2 size k_ stride pad s2060) k = k ⟨[(0, ri size), (1, ri k_), (2, ri stride), (3, ri pad), (9, ri s2060.1), (10, ri s2060.2), (49, rb (decide ((IntKind.wrap .i64 (s2060.2 + k_)) ≤ (IntKind.wrap .i64 (size + pad)))))], [], [], 56⟩ := by kernel_rfl
abbrev S87_3 : St := ⟨[(0, ri size), (1, ri k_), (2, ri stride), (3, ri pad), (9, ri (IntKind.wrap .i64 (s2060.1 + 1))), (10, ri s2060.2)], [], [], 56⟩
theorem e0g : R87 C87.r.r.r.l.r.b.b.r.l.b (S87_2 size k_ stride pad s2060) q = q .normal (S87_3 size k_ stride pad s2060) := by kernel_rfl
theorem e0f : R87 C87.r.r.r.l.r.b.b.r.r (S87_3 size k_ stride pad s2060) q = q .normal ⟨[(0, ri size), (1, ri k_), (2, ri stride), (3, ri pad), (9, ri (IntKind.wrap .i64 (s2060.1 + 1))), (10, ri (IntKind.wrap .i64 (s2060.2 + stride)))], [], [], 56⟩ := by kernel_rfl
def a8j : Option ((Int × Int) ⊕ (Int × Int)) := (bif (decide ((IntKind.wrap .i64 (s2060.2 + k_)) ≤ (IntKind.wrap .i64 (size + pad)))) then (some (Sum.inl ((IntKind.wrap .i64 (s2060.1 + 1)), (IntKind.wrap .i64 (s2060.2 + stride))))) else (some (Sum.inr s2060)))
abbrev S87_4 : St := ⟨[(0, ri size), (1, ri k_), (2, ri stride), (3, ri pad), (9, ri y2061.1), (10, ri y2061.2)], [], [], 56⟩
theorem d1j : R87 C87.r.r.r.l.r.b.b (S87_2 size k_ stride pad s2060) (loopKont 0 q) = Option.bind (a8j size k_ stride pad s2060) (either (fun y : (Int × Int) => q .normal ⟨[(0, ri size), (1, ri k_), (2, ri stride), (3, ri pad), (9, ri y.1), (10, ri y.2)], [], [], 56⟩) (fun y2061 : (Int × Int) => q (.exit 0) (S87_4 size k_ stride pad y2061))) := by
  refine .trans ?_ (bif_b e2_0 e2_1)
  refine .trans seq_push ?_
  refine (pre1 (d1h size k_ stride pad s2060 _)).trans ?_
  refine (cond_e (b := (decide ((IntKind.wrap .i64 (s2060.2 + k_)) ≤ (IntKind.wrap .i64 (size + pad))))) (st' := (S87_2 size k_ stride pad s2060)) ).trans (bif_g ?_ ?_)
  · refine (skip_eq).trans ?_
    refine (seqC_normal (st' := (S87_2 size k_ stride pad s2060))).trans ?_
    refine .trans seq_push ?_
    refine (block_push (id := 1)).trans ?_
    refine (e0g size k_ stride pad s2060 _).trans ?_
    refine block_normal.trans ?_
    refine (seqC_normal (st' := (S87_3 size k_ stride pad s2060))).trans ?_
    refine (e0f size k_ stride pad s2060 _).trans ?_
    kernel_rfl
  · refine ((exit_eq (j := 0))).trans ?_
    refine seqC_exit.trans ?_
    kernel_rfl
theorem e0d : R87 C87.r.r.r.l.r.b (S87_1 size k_ stride pad) q = Option.bind (iterN (a8j size k_ stride pad) LL ((0 : Int), (IntKind.wrap .i64 (0 - pad)))) (fun y2061 : (Int × Int) => q (.exit 0) (S87_4 size k_ stride pad y2061)) :=
  Eq.trans (by kernel_rfl) (loop_iter1 (S := fun s2060 : (Int × Int) => (S87_2 size k_ stride pad s2060)) (Y1 := fun y2061 : (Int × Int) => ((.exit 0), (S87_4 size k_ stride pad y2061))) (fun s q => d1j size k_ stride pad s q) (fun z => rfl) LL ((0 : Int), (IntKind.wrap .i64 (0 - pad))))
theorem d1i : P87 1 C87.r.r.r.r ⟨[(9, ri y2061.1)], [], [], 56⟩ k = k ⟨[(8, ri y2061.1)], [], [], 56⟩ := by kernel_rfl
/-- quilt/quiltref02.Out -/
def b3g : Option Int := (bif (a54 size k_ stride pad) then (some (0 : Int)) else (Option.bind (iterN (a8j size k_ stride pad) LL ((0 : Int), (IntKind.wrap .i64 (0 - pad)))) (fun y2061 : (Int × Int) => (some y2061.1))))
theorem e0c : stepS E cp83 ce4 37 [ri size, ri k_, ri stride, ri pad] = Option.bind (b3g size k_ stride pad) (fun y : Int => some (ri y : R)) := by
  refine .trans ?_ (bif_b some_b (bind_b fun y2061 => some_b))
  refine (stepG_is (nt := 56) (regs := [(0, ri size), (1, ri k_), (2, ri stride), (3, ri pad)])).trans ?_
  refine (pre1 (e08 size k_ stride pad _)).trans ?_
  refine .trans seq_push ?_
  refine (pre1 (e0e size k_ stride pad _)).trans ?_
  refine (cond_e (b := (a54 size k_ stride pad)) (st' := (S87_0 size k_ stride pad)) ).trans (bif_g ?_ ?_)
  · refine (pre1 (e0b size k_ stride pad _)).trans ?_
    refine (ret_eq).trans ?_
    refine seqC_ret.trans ?_
    kernel_rfl
  · refine (skip_eq).trans ?_
    refine (seqC_normal (st' := (S87_0 size k_ stride pad))).trans ?_
    refine (pre1 (e09 size k_ stride pad _)).trans ?_
    refine .trans seq_push ?_
    refine (pre1 (e0a size k_ stride pad _)).trans ?_
    refine (block_push (id := 0)).trans ?_
    refine (e0d size k_ stride pad _).trans (bind_g fun y2061 => ?_)
    refine block_same.trans ?_
    refine (seqC_normal (st' := ⟨[(9, ri y2061.1)], [], [], 56⟩)).trans ?_
    refine (pre1 (d1i y2061 _)).trans ?_
    refine (ret_eq).trans ?_
    kernel_rfl
noncomputable def cp84 : CallP := withC cp83 37 [pI, pI, pI, pI] (.one pI) (fun y : Int => y) (fun x => b3g x.1 x.2.1 x.2.2.1 x.2.2.2.1)
theorem e60 : PureOK E cp84 := conS eok e5z a0o fun x => Eq.mp (by kernel_rfl) (e0c x.1 x.2.1 x.2.2.1 x.2.2.2.1)
end
noncomputable abbrev C88 := codeOf E.P 12
noncomputable abbrev P88 {α : Type} := @preK α E 12 cp84 ce4
abbrev S88_0 (s_ : I3) : St := ⟨[(1, rC tsI3 s_)], [], [], 14⟩
theorem d58 {α : Type} (s_ : I3) (k : St → Option α) : P88 1 C88 ⟨[(0, rA tsI3 s_)], [], [], 14⟩ k = k (S88_0 s_) := by kernel_rfl
theorem b7y {α : Type} (s_ : I3) (k : St → Option α) : P88 1 C88.r.l (S88_0 s_) k = k ⟨[(1, rC tsI3 s_), (5, rb ((a1l s_) != 0))], [], [], 14⟩ := by kernel_rfl
theorem d59 {α : Type} (s_ : I3) (k : St → Option α) : P88 1 C88.r.l.r.t (S88_0 s_) k = k ⟨[(2, ri 0)], [], [], 14⟩ := by kernel_rfl
theorem c6r {α : Type} (s_ : I3) (k : St → Option α) : P88 1 C88.r.r (S88_0 s_) k = k ⟨[(2, ri (IntKind.wrap .i64 ((IntKind.wrap .i64 (s_.1 * s_.2.1)) * s_.2.2)))], [], [], 14⟩ := by kernel_rfl
/-- quilt/quiltref02.Size -/
def b26 {β : Type} (s_ : I3) (K : Int → β) : β := (bif ((a1l s_) != 0) then (K (0 : Int)) else (K (IntKind.wrap .i64 ((IntKind.wrap .i64 (s_.1 * s_.2.1)) * s_.2.2))))
def a1r (s_ : I3) : Int := b26 s_ (fun y => y)
theorem e0h {β : Type} (s_ : I3) (K : Int → β) : b26 s_ K = K (a1r s_) := (bif_k K rfl rfl)
theorem d5a (s_ : I3) : stepS E cp84 ce4 12 [rA tsI3 s_] = (fun y : Int => some (ri y : R)) (a1r s_) := by
  refine Eq.trans ?_ (e0h s_ (fun y : Int => some (ri y : R)))
  refine (stepG_is (nt := 14) (regs := [(0, rA tsI3 s_)])).trans ?_
  unfold b26
  refine (pre1 (d58 s_ _)).trans ?_
  refine .trans seq_push ?_
  refine (pre1 (b7y s_ _)).trans ?_
  refine (cond_e (b := ((a1l s_) != 0)) (st' := (S88_0 s_)) ).trans (bif_g ?_ ?_)
  · refine (pre1 (d59 s_ _)).trans ?_
    refine (ret_eq).trans ?_
    refine seqC_ret.trans ?_
    kernel_rfl
  · refine (skip_eq).trans ?_
    refine (seqC_normal (st' := (S88_0 s_))).trans ?_
    refine (pre1 (c6r s_ _)).trans ?_
    refine (ret_eq).trans ?_
    kernel_rfl
noncomputable def cp85 : CallP := withC cp84 12 [(.agg tsI3)] (.one pI) (fun y : Int => y) (fun x => some (a1r x.1))
theorem e61 : PureOK E cp85 := conS eok e60 a0o fun x => Eq.mp (by kernel_rfl) (d5a x.1)
section
variable {α β : Type} (n_ : Node) (l_ : (List I4)) (k : St → Option α) (q : Kont α)
noncomputable abbrev C89 := codeOf E.P 25
noncomputable abbrev P89 := @preK α E 25 cp85 ce4
noncomputable abbrev R89 := @runCode α E 25 cp85 ce4
noncomputable abbrev Q89 := @seqC α E 25 cp85 ce4
def b3i : Option Unit := (bif (decide ((0 : Int) < (l_.length : Int))) then (some ()) else none)
abbrev S89_0 : St := ⟨[(1, rl tsI4 l_), (2, rC a00 n_), (4, rF 0), (5, rF 1)], [[di 0, di 0, di 0], [di ((gt l_ (0 : Int) dI4).1), di ((gt l_ (0 : Int) dI4).2.1), di ((gt l_ (0 : Int) dI4).2.2.1)]], [], 117⟩
theorem d5k : P89 2 C89 ⟨[(0, rA a00 n_), (1, rl tsI4 l_)], [], [], 117⟩ k = Option.bind (b3i l_) (fun y2047 : Unit => k (S89_0 n_ l_)) := .trans (by kernel_rfl) (bif_b some_b none_b)
abbrev S89_1 : St := ⟨[(1, rl tsI4 l_), (2, rC a00 n_), (4, rF 0), (5, rF 1), (12, ri n_.1)], [[di 0, di 0, di 0], [di ((gt l_ (0 : Int) dI4).1), di ((gt l_ (0 : Int) dI4).2.1), di ((gt l_ (0 : Int) dI4).2.2.1)]], [], 117⟩
theorem d5d : P89 1 C89.r.r.l (S89_0 n_ l_) k = k (S89_1 n_ l_) := by kernel_rfl
abbrev S89_2 : St := ⟨[(1, rl tsI4 l_), (2, rC a00 n_), (4, rF 0), (5, rF 1), (12, ri n_.1), (13, rb (n_.1 == 1))], [[di 0, di 0, di 0], [di ((gt l_ (0 : Int) dI4).1), di ((gt l_ (0 : Int) dI4).2.1), di ((gt l_ (0 : Int) dI4).2.2.1)]], [], 117⟩
theorem b84 : P89 1 C89.r.r.l.r.b.l (S89_1 n_ l_) k = k (S89_2 n_ l_) := by kernel_rfl
abbrev S89_3 : St := ⟨[(1, rl tsI4 l_), (2, rC a00 n_), (4, rF 0), (5, rF 1), (12, ri n_.1), (13, rb (n_.1 == 2))], [[di 0, di 0, di 0], [di ((gt l_ (0 : Int) dI4).1), di ((gt l_ (0 : Int) dI4).2.1), di ((gt l_ (0 : Int) dI4).2.2.1)]], [], 117⟩
theorem b85 : P89 1 C89.r.r.l.r.b.l.r.e (S89_2 n_ l_) k = k (S89_3 n_ l_) := by kernel_rfl
abbrev S89_4 : St := ⟨[(1, rl tsI4 l_), (2, rC a00 n_), (4, rF 0), (5, rF 1), (12, ri n_.1), (13, rb (n_.1 == 4))], [[di 0, di 0, di 0], [di ((gt l_ (0 : Int) dI4).1), di ((gt l_ (0 : Int) dI4).2.1), di ((gt l_ (0 : Int) dI4).2.2.1)]], [], 117⟩
theorem b86 : P89 1 C89.r.r.l.r.b.l.r.e.r.e (S89_3 n_ l_) k = k (S89_4 n_ l_) := by kernel_rfl
abbrev S89_5 : St := ⟨[(1, rl tsI4 l_), (2, rC a00 n_), (4, rF 0), (5, rF 1), (12, ri n_.1), (13, rb (n_.1 == 5))], [[di 0, di 0, di 0], [di ((gt l_ (0 : Int) dI4).1), di ((gt l_ (0 : Int) dI4).2.1), di ((gt l_ (0 : Int) dI4).2.2.1)]], [], 117⟩
theorem d5l : R89 C89.r.r.l.r.b.l.r.e.r.e.r.e (S89_4 n_ l_) q = q .normal (S89_5 n_ l_) := by kernel_rfl
def a7f (K : Bool → β) : β := (bif (n_.1 == 1) then (K (n_.1 == 1)) else (bif (n_.1 == 2) then (K (n_.1 == 2)) else (bif (n_.1 == 4) then (K (n_.1 == 4)) else (K (n_.1 == 5)))))
def a4a : Bool := a7f n_ (fun y => y)
theorem c7j (K : Bool → β) : a7f n_ K = K (a4a n_) := (bif_k K rfl (bif_k K rfl (bif_k K rfl rfl)))
abbrev S89_6 : St := ⟨[(1, rl tsI4 l_), (2, rC a00 n_), (4, rF 0), (5, rF 1), (12, ri n_.1), (13, rb (a4a n_))], [[di 0, di 0, di 0], [di ((gt l_ (0 : Int) dI4).1), di ((gt l_ (0 : Int) dI4).2.1), di ((gt l_ (0 : Int) dI4).2.2.1)]], [], 117⟩
theorem d5i : R89 C89.r.r.l.r.b.l (S89_1 n_ l_) (Q89 C89.r.r.l.r.b.r q) = R89 C89.r.r.l.r.b.r (S89_6 n_ l_) q := by
  refine Eq.trans ?_ (c7j n_ (fun y2048 : Bool => R89 C89.r.r.l.r.b.r ⟨[(1, rl tsI4 l_), (2, rC a00 n_), (4, rF 0), (5, rF 1), (12, ri n_.1), (13, rb y2048)], [[di 0, di 0, di 0], [di ((gt l_ (0 : Int) dI4).1), di ((gt l_ (0 : Int) dI4).2.1), di ((gt l_ (0 : Int) dI4).2.2.1)]], [], 117⟩ q))
  unfold a7f
  refine (pre1 (b84 n_ l_ _)).trans ?_
  refine (cond_s (b := (n_.1 == 1)) ).trans (bif_g ?_ ?_)
  · refine (skip_eq).trans ?_
    refine (seqC_normal (st' := (S89_2 n_ l_))).trans ?_
    kernel_rfl
  · refine (pre1 (b85 n_ l_ _)).trans ?_
    refine (cond_s (b := (n_.1 == 2)) ).trans (bif_g ?_ ?_)
    · refine (skip_eq).trans ?_
      refine (seqC_normal (st' := (S89_3 n_ l_))).trans ?_
      kernel_rfl
    · refine (pre1 (b86 n_ l_ _)).trans ?_
      refine (cond_s (b := (n_.1 == 4)) ).trans (bif_g ?_ ?_)
      · refine (skip_eq).trans ?_
        refine (seqC_normal (st' := (S89_4 n_ l_))).trans ?_
        kernel_rfl
      · refine (d5l n_ l_ _).trans ?_
        refine (seqC_normal (st' := (S89_5 n_ l_))).trans ?_
        kernel_rfl
abbrev S89_7 : St := ⟨[(2, rC a00 n_), (4, rF 0), (5, rF 1), (6, ri ((gt l_ (0 : Int) dI4).2.2.1))], [[di 0, di 0, di 0], [di ((gt l_ (0 : Int) dI4).1), di ((gt l_ (0 : Int) dI4).2.1), di ((gt l_ (0 : Int) dI4).2.2.1)]], [], 117⟩
theorem d5e : P89 1 C89.r.r.l.r.b.r.t (S89_6 n_ l_) k = k (S89_7 n_ l_) := by kernel_rfl
theorem b7z : P89 1 C89.r.r.l.r.b.r.t.r.l (S89_7 n_ l_) k = k ⟨[(2, rC a00 n_), (4, rF 0), (5, rF 1), (6, ri ((gt l_ (0 : Int) dI4).2.2.1)), (22, rb (n_.1 == 1))], [[di 0, di 0, di 0], [di ((gt l_ (0 : Int) dI4).1), di ((gt l_ (0 : Int) dI4).2.1), di ((gt l_ (0 : Int) dI4).2.2.1)]], [], 117⟩ := by kernel_rfl
abbrev S89_8 : St := ⟨[(2, rC a00 n_), (4, rF 0), (5, rF 1), (6, ri n_.2.2.2.2.2.1)], [[di 0, di 0, di 0], [di ((gt l_ (0 : Int) dI4).1), di ((gt l_ (0 : Int) dI4).2.1), di ((gt l_ (0 : Int) dI4).2.2.1)]], [], 117⟩
theorem d5m : R89 C89.r.r.l.r.b.r.t.r.l.r.t (S89_7 n_ l_) q = q .normal (S89_8 n_ l_) := by kernel_rfl
def a7g (K : Int → β) : β := (bif (n_.1 == 1) then (K n_.2.2.2.2.2.1) else (K ((gt l_ (0 : Int) dI4).2.2.1)))
def a4b : Int := a7g n_ l_ (fun y => y)
theorem c7k (K : Int → β) : a7g n_ l_ K = K (a4b n_ l_) := (bif_k K rfl rfl)
abbrev S89_9 : St := ⟨[(2, rC a00 n_), (4, rF 0), (5, rF 1), (6, ri (a4b n_ l_))], [[di 0, di 0, di 0], [di ((gt l_ (0 : Int) dI4).1), di ((gt l_ (0 : Int) dI4).2.1), di ((gt l_ (0 : Int) dI4).2.2.1)]], [], 117⟩
theorem d5j : R89 C89.r.r.l.r.b.r.t.r.l (S89_7 n_ l_) (Q89 C89.r.r.l.r.b.r.t.r.r q) = R89 C89.r.r.l.r.b.r.t.r.r (S89_9 n_ l_) q := by
  refine Eq.trans ?_ (c7k n_ l_ (fun y2049 : Int => R89 C89.r.r.l.r.b.r.t.r.r ⟨[(2, rC a00 n_), (4, rF 0), (5, rF 1), (6, ri y2049)], [[di 0, di 0, di 0], [di ((gt l_ (0 : Int) dI4).1), di ((gt l_ (0 : Int) dI4).2.1), di ((gt l_ (0 : Int) dI4).2.2.1)]], [], 117⟩ q))
  unfold a7g
  refine (pre1 (b7z n_ l_ _)).trans ?_
  refine (cond_e (b := (n_.1 == 1)) (st' := (S89_7 n_ l_)) ).trans (bif_g ?_ ?_)
  · refine (d5m n_ l_ _).trans ?_
    refine (seqC_normal (st' := (S89_8 n_ l_))).trans ?_
    kernel_rfl
  · refine (skip_eq).trans ?_
    refine (seqC_normal (st' := (S89_7 n_ l_))).trans ?_
    kernel_rfl
def b29 : Option (Int × Int) := (Option.bind (b3g ((gt l_ (0 : Int) dI4).1) n_.2.2.1 n_.2.2.2.1 n_.2.2.2.2.1) (fun y2062 : Int => (Option.bind (b3g ((gt l_ (0 : Int) dI4).2.1) n_.2.2.1 n_.2.2.2.1 n_.2.2.2.2.1) (fun y2063 : Int => (some (y2062, y2063))))))
theorem d1z : P89 1 C89.r.r.l.r.b.r.t.r.r (S89_9 n_ l_) k = Option.bind (b29 n_ l_) (fun y2064 : (Int × Int) => k ⟨[(4, rF 0)], [[di y2064.1, di y2064.2, di (a4b n_ l_)], []], [], 117⟩) := .trans (by kernel_rfl) (bind_b fun y2062 => (bind_b fun y2063 => some_b))
theorem b80 : P89 1 C89.r.r.l.r.b.r.e (S89_6 n_ l_) k = k ⟨[(1, rl tsI4 l_), (2, rC a00 n_), (4, rF 0), (5, rF 1), (12, ri n_.1), (45, rb (n_.1 == 3))], [[di 0, di 0, di 0], [di ((gt l_ (0 : Int) dI4).1), di ((gt l_ (0 : Int) dI4).2.1), di ((gt l_ (0 : Int) dI4).2.2.1)]], [], 117⟩ := by kernel_rfl
theorem d5f : P89 1 C89.r.r.l.r.b.r.e.r.t (S89_1 n_ l_) k = k ⟨[(4, rF 0)], [[di 1, di 1, di n_.2.2.2.2.2.1], []], [], 117⟩ := by kernel_rfl
abbrev d73 : St := ⟨[(1, rl tsI4 l_), (2, rC a00 n_), (4, rF 0), (5, rF 1), (12, ri n_.1), (50, rb (n_.1 == 6))], [[di 0, di 0, di 0], [di ((gt l_ (0 : Int) dI4).1), di ((gt l_ (0 : Int) dI4).2.1), di ((gt l_ (0 : Int) dI4).2.2.1)]], [], 117⟩
theorem b87 : P89 1 C89.r.r.l.r.b.r.e.r.e.l (S89_1 n_ l_) k = k (d73 n_ l_) := by kernel_rfl
abbrev e3e : St := ⟨[(1, rl tsI4 l_), (2, rC a00 n_), (4, rF 0), (5, rF 1), (12, ri n_.1), (50, rb (n_.1 == 7))], [[di 0, di 0, di 0], [di ((gt l_ (0 : Int) dI4).1), di ((gt l_ (0 : Int) dI4).2.1), di ((gt l_ (0 : Int) dI4).2.2.1)]], [], 117⟩
theorem d20 : R89 C89.r.r.l.r.b.r.e.r.e.l.r.e (d73 n_ l_) q = q .normal (e3e n_ l_) := by kernel_rfl
def a64 (K : Bool → β) : β := (bif (n_.1 == 6) then (K (n_.1 == 6)) else (K (n_.1 == 7)))
def a3h : Bool := a64 n_ (fun y => y)
theorem c47 (K : Bool → β) : a64 n_ K = K (a3h n_) := (bif_k K rfl rfl)
abbrev d74 : St := ⟨[(1, rl tsI4 l_), (2, rC a00 n_), (4, rF 0), (5, rF 1), (12, ri n_.1), (50, rb (a3h n_))], [[di 0, di 0, di 0], [di ((gt l_ (0 : Int) dI4).1), di ((gt l_ (0 : Int) dI4).2.1), di ((gt l_ (0 : Int) dI4).2.2.1)]], [], 117⟩
theorem d1y : R89 C89.r.r.l.r.b.r.e.r.e.l (S89_1 n_ l_) (Q89 C89.r.r.l.r.b.r.e.r.e.r q) = R89 C89.r.r.l.r.b.r.e.r.e.r (d74 n_ l_) q := by
  refine Eq.trans ?_ (c47 n_ (fun y2065 : Bool => R89 C89.r.r.l.r.b.r.e.r.e.r ⟨[(1, rl tsI4 l_), (2, rC a00 n_), (4, rF 0), (5, rF 1), (12, ri n_.1), (50, rb y2065)], [[di 0, di 0, di 0], [di ((gt l_ (0 : Int) dI4).1), di ((gt l_ (0 : Int) dI4).2.1), di ((gt l_ (0 : Int) dI4).2.2.1)]], [], 117⟩ q))
  unfold a64
  refine (pre1 (b87 n_ l_ _)).trans ?_
  refine (cond_s (b := (n_.1 == 6)) ).trans (bif_g ?_ ?_)
  · refine (skip_eq).trans ?_
    refine (seqC_normal (st' := (d73 n_ l_))).trans ?_
    kernel_rfl
  · refine (d20 n_ l_ _).trans ?_
    refine (seqC_normal (st' := (e3e n_ l_))).trans ?_
    kernel_rfl
def b2a : Option Bool := (bif (decide ((1 : Int) < (l_.length : Int))) then (some (!((((gt l_ (1 : Int) dI4).1) == ((gt l_ (0 : Int) dI4).1)) && ((((gt l_ (1 : Int) dI4).2.1) == ((gt l_ (0 : Int) dI4).2.1)) && ((((gt l_ (1 : Int) dI4).2.2.1) == ((gt l_ (0 : Int) dI4).2.2.1)) && true))))) else none)
theorem d21 : P89 1 C89.r.r.l.r.b.r.e.r.e.r.t (d74 n_ l_) k = Option.bind (b2a l_) (fun y2066 : Bool => k ⟨[(4, rF 0), (5, rF 1), (58, rb y2066)], [[di 0, di 0, di 0], [di ((gt l_ (0 : Int) dI4).1), di ((gt l_ (0 : Int) dI4).2.1), di ((gt l_ (0 : Int) dI4).2.2.1)]], [], 117⟩) := .trans (by kernel_rfl) (bif_b some_b none_b)
abbrev b4s : St := ⟨[(4, rF 0), (5, rF 1)], [[di 0, di 0, di 0], [di ((gt l_ (0 : Int) dI4).1), di ((gt l_ (0 : Int) dI4).2.1), di ((gt l_ (0 : Int) dI4).2.2.1)]], [], 117⟩
abbrev d75 : St := ⟨[(4, rF 0)], [[di 0, di 0, di 0], []], [], 117⟩
theorem c7d : P89 1 C89.r.r.l.r.b.r.e.r.e.r.t.r.t (b4s l_) k = k d75 := by kernel_rfl
theorem b81 : P89 1 C89.r.r.l.r.b.r.e.r.e.r.e (d74 n_ l_) k = k ⟨[(1, rl tsI4 l_), (2, rC a00 n_), (4, rF 0), (5, rF 1), (12, ri n_.1), (60, rb (n_.1 == 9))], [[di 0, di 0, di 0], [di ((gt l_ (0 : Int) dI4).1), di ((gt l_ (0 : Int) dI4).2.1), di ((gt l_ (0 : Int) dI4).2.2.1)]], [], 117⟩ := by kernel_rfl
theorem c7e : P89 1 C89.r.r.l.r.b.r.e.r.e.r.e.r.t (S89_1 n_ l_) k = k ⟨[(4, rF 0)], [[di (IntKind.wrap .i64 (((gt l_ (0 : Int) dI4).1) + 2)), di (IntKind.wrap .i64 (((gt l_ (0 : Int) dI4).2.1) + 2)), di ((gt l_ (0 : Int) dI4).2.2.1)], []], [], 117⟩ := by kernel_rfl
theorem b82 : P89 1 C89.r.r.l.r.b.r.e.r.e.r.e.r.e (S89_1 n_ l_) k = k ⟨[(1, rl tsI4 l_), (2, rC a00 n_), (4, rF 0), (5, rF 1), (12, ri n_.1), (71, rb (n_.1 == 10))], [[di 0, di 0, di 0], [di ((gt l_ (0 : Int) dI4).1), di ((gt l_ (0 : Int) dI4).2.1), di ((gt l_ (0 : Int) dI4).2.2.1)]], [], 117⟩ := by kernel_rfl
def b2b : Option Bool := (bif (decide ((1 : Int) < (l_.length : Int))) then (bif (((gt l_ (1 : Int) dI4).1) != ((gt l_ (0 : Int) dI4).1)) then (some true) else (bif (decide ((1 : Int) < (l_.length : Int))) then (some (((gt l_ (1 : Int) dI4).2.1) != ((gt l_ (0 : Int) dI4).2.1))) else none)) else none)
theorem d22 : P89 1 C89.r.r.l.r.b.r.e.r.e.r.e.r.e.r.t.l (S89_1 n_ l_) k = Option.bind (b2b l_) (fun y2068 : Bool => k ⟨[(1, rl tsI4 l_), (4, rF 0), (5, rF 1), (90, rb y2068)], [[di 0, di 0, di 0], [di ((gt l_ (0 : Int) dI4).1), di ((gt l_ (0 : Int) dI4).2.1), di ((gt l_ (0 : Int) dI4).2.2.1)]], [], 117⟩) := .trans (by kernel_rfl) (bif_b (bif_b some_b (bif_b some_b none_b)) none_b)
abbrev c4y : St := ⟨[(1, rl tsI4 l_), (4, rF 0), (5, rF 1)], [[di 0, di 0, di 0], [di ((gt l_ (0 : Int) dI4).1), di ((gt l_ (0 : Int) dI4).2.1), di ((gt l_ (0 : Int) dI4).2.2.1)]], [], 117⟩
theorem c7f : P89 1 C89.r.r.l.r.b.r.e.r.e.r.e.r.e.r.t.l.r.t (c4y l_) k = k d75 := by kernel_rfl
def b2c : Option Unit := (bif (decide ((1 : Int) < (l_.length : Int))) then (some ()) else none)
theorem d23 : P89 1 C89.r.r.l.r.b.r.e.r.e.r.e.r.e.r.t.r (c4y l_) k = Option.bind (b2c l_) (fun y2069 : Unit => k ⟨[(4, rF 0)], [[di ((gt l_ (0 : Int) dI4).1), di ((gt l_ (0 : Int) dI4).2.1), di (IntKind.wrap .i64 (((gt l_ (0 : Int) dI4).2.2.1) + ((gt l_ (1 : Int) dI4).2.2.1)))], []], [], 117⟩) := .trans (by kernel_rfl) (bif_b some_b none_b)
theorem b83 : P89 1 C89.r.r.l.r.b.r.e.r.e.r.e.r.e.r.e (S89_1 n_ l_) k = k ⟨[(2, rC a00 n_), (4, rF 0), (5, rF 1), (105, rb (n_.1 == 11))], [[di 0, di 0, di 0], [di ((gt l_ (0 : Int) dI4).1), di ((gt l_ (0 : Int) dI4).2.1), di ((gt l_ (0 : Int) dI4).2.2.1)]], [], 117⟩ := by kernel_rfl
def b2d (K : Bool → β) : β := (K ((a1r (n_.2.2.2.2.2.2.2.2.2.1, n_.2.2.2.2.2.2.2.2.2.2.1, n_.2.2.2.2.2.2.2.2.2.2.2.1)) != (a1r ((gt l_ (0 : Int) dI4).1, (gt l_ (0 : Int) dI4).2.1, (gt l_ (0 : Int) dI4).2.2.1))))
def a3i : Bool := b2d n_ l_ (fun y => y)
theorem c48 (K : Bool → β) : b2d n_ l_ K = K (a3i n_ l_) := rfl
abbrev e3f : St := ⟨[(2, rC a00 n_), (4, rF 0), (5, rF 1)], [[di 0, di 0, di 0], [di ((gt l_ (0 : Int) dI4).1), di ((gt l_ (0 : Int) dI4).2.1), di ((gt l_ (0 : Int) dI4).2.2.1)]], [], 117⟩
theorem d24 : P89 1 C89.r.r.l.r.b.r.e.r.e.r.e.r.e.r.e.r.t.l (e3f n_ l_) k = k ⟨[(2, rC a00 n_), (4, rF 0), (112, rb (a3i n_ l_))], [[di 0, di 0, di 0], []], [], 117⟩ := Eq.trans (by kernel_rfl) (c48 n_ l_ (fun y2071 : Bool => k ⟨[(2, rC a00 n_), (4, rF 0), (112, rb y2071)], [[di 0, di 0, di 0], []], [], 117⟩))
abbrev c4z : St := ⟨[(2, rC a00 n_), (4, rF 0)], [[di 0, di 0, di 0], []], [], 117⟩
theorem c7g : P89 1 C89.r.r.l.r.b.r.e.r.e.r.e.r.e.r.e.r.t.l.r.t (c4z n_) k = k d75 := by kernel_rfl
theorem c7h : P89 1 C89.r.r.l.r.b.r.e.r.e.r.e.r.e.r.e.r.t.r (c4z n_) k = k ⟨[(4, rF 0)], [[di n_.2.2.2.2.2.2.2.2.2.1, di n_.2.2.2.2.2.2.2.2.2.2.1, di n_.2.2.2.2.2.2.2.2.2.2.2.1], []], [], 117⟩ := by kernel_rfl
def b3h : Option (Unit ⊕ (Int × Int × Int)) := (bif (a4a n_) then (Option.bind (b29 n_ l_) (fun y2064 : (Int × Int) => (some (Sum.inr (y2064.1, y2064.2, (a4b n_ l_)))))) else (bif (n_.1 == 3) then (some (Sum.inr ((1 : Int), (1 : Int), n_.2.2.2.2.2.1))) else (bif (a3h n_) then (Option.bind (b2a l_) (fun y2066 : Bool => (bif y2066 then (some (Sum.inr ((0 : Int), (0 : Int), (0 : Int)))) else (some (Sum.inl ()))))) else (bif (n_.1 == 9) then (some (Sum.inr ((IntKind.wrap .i64 (((gt l_ (0 : Int) dI4).1) + 2)), (IntKind.wrap .i64 (((gt l_ (0 : Int) dI4).2.1) + 2)), (gt l_ (0 : Int) dI4).2.2.1))) else (bif (n_.1 == 10) then (Option.bind (b2b l_) (fun y2068 : Bool => (bif y2068 then (some (Sum.inr ((0 : Int), (0 : Int), (0 : Int)))) else (Option.bind (b2c l_) (fun y2069 : Unit => (some (Sum.inr ((gt l_ (0 : Int) dI4).1, (gt l_ (0 : Int) dI4).2.1, (IntKind.wrap .i64 (((gt l_ (0 : Int) dI4).2.2.1) + ((gt l_ (1 : Int) dI4).2.2.1))))))))))) else (bif (n_.1 == 11) then (bif (a3i n_ l_) then (some (Sum.inr ((0 : Int), (0 : Int), (0 : Int)))) else (some (Sum.inr (n_.2.2.2.2.2.2.2.2.2.1, n_.2.2.2.2.2.2.2.2.2.2.1, n_.2.2.2.2.2.2.2.2.2.2.2.1)))) else (some (Sum.inl ()))))))))
theorem d5h : R89 C89.r.r.l (S89_0 n_ l_) (Q89 C89.r.r.r q) = Option.bind (b3h n_ l_) (either (fun y2072 : Unit => R89 C89.r.r.r (b4s l_) q) (fun y2073 : (Int × Int × Int) => q .ret ⟨[(4, rF 0)], [(tsI3.leaves y2073), []], [], 117⟩)) := by
  refine .trans ?_ (bif_b (bind_b fun y2064 => e2_1) (bif_b e2_1 (bif_b (bind_b fun y2066 => (bif_b e2_1 e2_0)) (bif_b e2_1 (bif_b (bind_b fun y2068 => (bif_b e2_1 (bind_b fun y2069 => e2_1))) (bif_b (bif_b e2_1 e2_1) e2_0))))))
  refine (pre1 (d5d n_ l_ _)).trans ?_
  refine (block_push (id := 0)).trans ?_
  refine .trans seq_push ?_
  refine (d5i n_ l_ _).trans ?_
  refine (cond_s (b := (a4a n_)) ).trans (bif_g ?_ ?_)
  · refine (pre1 (d5e n_ l_ _)).trans ?_
    refine .trans seq_push ?_
    refine (d5j n_ l_ _).trans ?_
    refine (pre1 (d1z n_ l_ _)).trans (bind_g fun y2064 => ?_)
    refine (ret_eq).trans ?_
    refine block_ret.trans ?_
    refine seqC_ret.trans ?_
    kernel_rfl
  · refine (pre1 (b80 n_ l_ _)).trans ?_
    refine (cond_e (b := (n_.1 == 3)) (st' := (S89_1 n_ l_)) ).trans (bif_g ?_ ?_)
    · refine (pre1 (d5f n_ l_ _)).trans ?_
      refine (ret_eq).trans ?_
      refine block_ret.trans ?_
      refine seqC_ret.trans ?_
      kernel_rfl
    · refine .trans seq_push ?_
      refine (d1y n_ l_ _).trans ?_
      refine (cond_s (b := (a3h n_)) ).trans (bif_g ?_ ?_)
      · refine (pre1 (d21 n_ l_ _)).trans (bind_g fun y2066 => ?_)
        refine (cond_e (b := y2066) (st' := (b4s l_)) ).trans (bif_g ?_ ?_)
        · refine (pre1 (c7d l_ _)).trans ?_
          refine (ret_eq).trans ?_
          refine block_ret.trans ?_
          refine seqC_ret.trans ?_
          kernel_rfl
        · refine (skip_eq).trans ?_
          refine block_normal.trans ?_
          refine (seqC_normal (st' := (b4s l_))).trans ?_
          kernel_rfl
      · refine (pre1 (b81 n_ l_ _)).trans ?_
        refine (cond_e (b := (n_.1 == 9)) (st' := (S89_1 n_ l_)) ).trans (bif_g ?_ ?_)
        · refine (pre1 (c7e n_ l_ _)).trans ?_
          refine (ret_eq).trans ?_
          refine block_ret.trans ?_
          refine seqC_ret.trans ?_
          kernel_rfl
        · refine (pre1 (b82 n_ l_ _)).trans ?_
          refine (cond_e (b := (n_.1 == 10)) (st' := (S89_1 n_ l_)) ).trans (bif_g ?_ ?_)
          · refine .trans seq_push ?_
            refine (pre1 (d22 n_ l_ _)).trans (bind_g fun y2068 => ?_)
            refine (cond_e (b := y2068) (st' := (c4y l_)) ).trans (bif_g ?_ ?_)
            · refine (pre1 (c7f l_ _)).trans ?_
              refine (ret_eq).trans ?_
              refine seqC_ret.trans ?_
              refine block_ret.trans ?_
              refine seqC_ret.trans ?_
              kernel_rfl
            · refine (skip_eq).trans ?_
              refine (seqC_normal (st' := (c4y l_))).trans ?_
              refine (pre1 (d23 l_ _)).trans (bind_g fun y2069 => ?_)
              refine (ret_eq).trans ?_
              refine block_ret.trans ?_
              refine seqC_ret.trans ?_
              kernel_rfl
          · refine (pre1 (b83 n_ l_ _)).trans ?_
            refine (cond_e (b := (n_.1 == 11)) (st' := (e3f n_ l_)) ).trans (bif_g ?_ ?_)
            · refine .trans seq_push ?_
              refine (pre1 (d24 n_ l_ _)).trans ?_
              refine (cond_e (b := (a3i n_ l_)) (st' := (c4z n_)) ).trans (bif_g ?_ ?_)
              · refine (pre1 (c7g n_ _)).trans ?_
                refine (ret_eq).trans ?_
                refine seqC_ret.trans ?_
                refine block_ret.trans ?_
                refine seqC_ret.trans ?_
                kernel_rfl
              · refine (skip_eq).trans ?_
                refine (seqC_normal (st' := (c4z n_))).trans ?_
                refine (pre1 (c7h n_ _)).trans ?_
                refine (ret_eq).trans ?_
                refine block_ret.trans ?_
                refine seqC_ret.trans ?_
                kernel_rfl
            · refine (skip_eq).trans ?_
              refine block_normal.trans ?_
              refine (seqC_normal (st' := (b4s l_))).trans ?_
              kernel_rfl
theorem c7i : P89 1 C89.r.r.r (b4s l_) k = k ⟨[(4, rF 0)], [[di ((gt l_ (0 : Int) dI4).1), di ((gt l_ (0 : Int) dI4).2.1), di ((gt l_ (0 : Int) dI4).2.2.1)], []], [], 117⟩ := by kernel_rfl
/-- quilt/quiltref03.made -/
def b0l : Option I3 := (Option.bind (b3i l_) (fun y2047 : Unit => (Option.bind (b3h n_ l_) (either (fun y2072 : Unit => (some ((gt l_ (0 : Int) dI4).1, (gt l_ (0 : Int) dI4).2.1, (gt l_ (0 : Int) dI4).2.2.1))) (fun y2073 : (Int × Int × Int) => (some y2073))))))
theorem d5g : stepS E cp85 ce4 25 [rA a00 n_, rl tsI4 l_] = Option.bind (b0l n_ l_) (fun y : I3 => some (rA tsI3 y : R)) := by
  refine .trans ?_ (bind_b fun y2047 => (bind_b (either_b (fun y2072 => some_b) (fun y2073 => some_b))))
  refine (stepG_is (nt := 117) (regs := [(0, rA a00 n_), (1, rl tsI4 l_)])).trans ?_
  refine (pre2 (d5k n_ l_ _)).trans (bind_g fun y2047 => ?_)
  refine .trans seq_push ?_
  refine (d5h n_ l_ _).trans (bind_g (either_g (fun y2072 => ?_) (fun y2073 => ?_)))
  · refine (pre1 (c7i l_ _)).trans ?_
    refine (ret_eq).trans ?_
    kernel_rfl
  · kernel_rfl
noncomputable def cp86 : CallP := withC cp85 25 [(.agg a00), (pL tsI4)] (.one (.agg tsI3)) (fun y : I3 => y) (fun x => b0l x.1 x.2.1)
theorem e62 : PureOK E cp86 := conS eok e61 a0o fun x => Eq.mp (by kernel_rfl) (d5g x.1 x.2.1)
end
end Go.V.P
