/- What functions compute. -/
import Derived.Test.YtokpndlkheofjaaKp6
namespace Go.V.P
open Go.RowKit Go.V Go.Proofs
set_option linter.unusedVariables false
set_option maxRecDepth 100000
section
variable {α : Type} (a_ : (List Int)) (b_ : (List Int)) (s1893 : Int) (k : St → Option α) (q : Kont α)
noncomputable abbrev C85 := Q0r E.P 20
noncomputable abbrev P85 := @preK α E 20 cp80 ce4
noncomputable abbrev R85 := @Q0o α E 20 cp80 ce4
abbrev S85_0 : St := ⟨[(0, rl (.one (.int .i8)) a_), (1, rl (.one (.int .i8)) b_)], [], [], 26⟩
theorem d4d : P85 1 C85 (S85_0 a_ b_) k = k (S85_0 a_ b_) := by kernel_rfl
theorem b9a : P85 1 C85.r.l (S85_0 a_ b_) k = k ⟨[(0, rl (.one (.int .i8)) a_), (1, rl (.one (.int .i8)) b_), (10, rb ((a_.length : Int) != (b_.length : Int)))], [], [], 26⟩ := by kernel_rfl
abbrev S85_1 : St := ⟨[(4, rb false)], [], [], 26⟩
theorem d4f : P85 1 C85.r.l.r.t (S85_0 a_ b_) k = k S85_1 := by kernel_rfl
abbrev S85_2 : St := ⟨[(0, rl (.one (.int .i8)) a_), (1, rl (.one (.int .i8)) b_), (5, ri 0)], [], [], 26⟩
theorem d4e : P85 1 C85.r.r.l (S85_0 a_ b_) k = k (S85_2 a_ b_) := by kernel_rfl
abbrev S85_3 : St := ⟨[(0, rl (.one (.int .i8)) a_), (1, rl (.one (.int .i8)) b_), (5, ri s1893)], [], [], 26⟩
theorem c76 : P85 1 C85.r.r.l.r.b.b.l (S85_3 a_ b_ s1893) k = k ⟨[(0, rl (.one (.int .i8)) a_), (1, rl (.one (.int .i8)) b_), (5, ri s1893), (14, rb (decide (s1893 < (a_.length : Int))))], [], [], 26⟩ := by kernel_rfl
def b2r : Option Unit := (bif (decide ((0 : Int) ≤ s1893)) then (bif (decide (s1893 < (a_.length : Int))) then (bif (decide ((0 : Int) ≤ s1893)) then (bif (decide (s1893 < (b_.length : Int))) then (some ()) else none) else none) else none) else none)
theorem d4j : P85 1 C85.r.r.l.r.b.b.r.l.b (S85_3 a_ b_ s1893) k = Option.bind (b2r a_ b_ s1893) (fun y1895 : Unit => k ⟨[(0, rl (.one (.int .i8)) a_), (1, rl (.one (.int .i8)) b_), (5, ri s1893), (25, rb ((gt a_ s1893 (0 : Int)) != (gt b_ s1893 (0 : Int))))], [], [], 26⟩) := .trans (by kernel_rfl) (Q2b (Q2b (Q2b (Q2b Q0b Q0n) Q0n) Q0n) Q0n)
theorem c77 : P85 1 C85.r.r.l.r.b.b.r.l.b.r.t (S85_3 a_ b_ s1893) k = k S85_1 := by kernel_rfl
theorem d4i : R85 C85.r.r.l.r.b.b.r.r (S85_3 a_ b_ s1893) q = q .normal ⟨[(0, rl (.one (.int .i8)) a_), (1, rl (.one (.int .i8)) b_), (5, ri (IntKind.wrap .i64 (s1893 + 1)))], [], [], 26⟩ := by kernel_rfl
def a7k : Option (Int ⊕ (Int ⊕ Unit)) := (bif (decide (s1893 < (a_.length : Int))) then (Option.bind (b2r a_ b_ s1893) (fun y1895 : Unit => (bif ((gt a_ s1893 (0 : Int)) != (gt b_ s1893 (0 : Int))) then (some (Sum.inr (Sum.inr ()))) else (some (Sum.inl (IntKind.wrap .i64 (s1893 + 1))))))) else (some (Sum.inr (Sum.inl s1893))))
abbrev S85_4 (y1896 : Int) : St := ⟨[(0, rl (.one (.int .i8)) a_), (1, rl (.one (.int .i8)) b_), (5, ri y1896)], [], [], 26⟩
theorem c79 : R85 C85.r.r.l.r.b.b (S85_3 a_ b_ s1893) (Q0w 0 q) = Option.bind (a7k a_ b_ s1893) (Q1z (fun y : Int => q .normal ⟨[(0, rl (.one (.int .i8)) a_), (1, rl (.one (.int .i8)) b_), (5, ri y)], [], [], 26⟩) (Q1z (fun y1896 : Int => q (.exit 0) (S85_4 a_ b_ y1896)) (fun y1897 : Unit => q .ret S85_1))) := by
  refine .trans ?_ (Q2b (Q0d fun y1895 => (Q2b e3_2 e3_0)) e3_1)
  refine .trans Q0c ?_
  refine (Q2d (c76 a_ b_ s1893 _)).trans ?_
  refine (Q0m (b := (decide (s1893 < (a_.length : Int)))) (st' := (S85_3 a_ b_ s1893)) ).trans (Q2f ?_ ?_)
  · refine (Q0i).trans ?_
    refine (Q0a (st' := (S85_3 a_ b_ s1893))).trans ?_
    refine .trans Q0c ?_
    refine (Q0j (id := 1)).trans ?_
    refine (Q2d (d4j a_ b_ s1893 _)).trans (Q0e fun y1895 => ?_)
    refine (Q0m (b := ((gt a_ s1893 (0 : Int)) != (gt b_ s1893 (0 : Int)))) (st' := (S85_3 a_ b_ s1893)) ).trans (Q2f ?_ ?_)
    · refine (Q2d (c77 a_ b_ s1893 _)).trans ?_
      refine (Q0h).trans ?_
      refine Q0t.trans ?_
      refine Q0k.trans ?_
      kernel_rfl
    · refine (Q0i).trans ?_
      refine Q0f.trans ?_
      refine (Q0a (st' := (S85_3 a_ b_ s1893))).trans ?_
      refine (d4i a_ b_ s1893 _).trans ?_
      kernel_rfl
  · refine ((Q1f (j := 0))).trans ?_
    refine Q0v.trans ?_
    kernel_rfl
theorem d4h : R85 C85.r.r.l.r.b (S85_2 a_ b_) q = Option.bind (iterN (a7k a_ b_) LL (0 : Int)) (Q1z (fun y1896 : Int => q (.exit 0) (S85_4 a_ b_ y1896)) (fun y1897 : Unit => q .ret S85_1)) :=
  Eq.trans (by kernel_rfl) (loop_iter2 (S := fun s1893 : Int => (S85_3 a_ b_ s1893)) (Y1 := fun y1896 : Int => ((.exit 0), (S85_4 a_ b_ y1896))) (Y2 := fun y1897 : Unit => (.ret, S85_1)) (fun s q => c79 a_ b_ s q) (fun z => rfl) (fun z => rfl) LL (0 : Int))
theorem c78 : P85 1 C85.r.r.r ⟨[], [], [], 26⟩ k = k ⟨[(4, rb true)], [], [], 26⟩ := by kernel_rfl
def a0o : Option Bool := (bif ((a_.length : Int) != (b_.length : Int)) then (some false) else (Option.bind (iterN (a7k a_ b_) LL (0 : Int)) (Q1z (fun y1896 : Int => (some true)) (fun y1897 : Unit => (some false)))))
theorem d4g : Q2j E cp80 ce4 20 [rl (.one (.int .i8)) a_, rl (.one (.int .i8)) b_] = Option.bind (a0o a_ b_) (fun y : Bool => some (rb y : R)) := by
  refine .trans ?_ (Q2b Q0b (Q0d (Q0g (fun y1896 => Q0b) (fun y1897 => Q0b))))
  refine (Q0l (nt := 26) (regs := [(0, rl (.one (.int .i8)) a_), (1, rl (.one (.int .i8)) b_)])).trans ?_
  refine (Q2d (d4d a_ b_ _)).trans ?_
  refine .trans Q0c ?_
  refine (Q2d (b9a a_ b_ _)).trans ?_
  refine (Q0m (b := ((a_.length : Int) != (b_.length : Int))) (st' := (S85_0 a_ b_)) ).trans (Q2f ?_ ?_)
  · refine (Q2d (d4f a_ b_ _)).trans ?_
    refine (Q0h).trans ?_
    refine Q0k.trans ?_
    kernel_rfl
  · refine (Q0i).trans ?_
    refine (Q0a (st' := (S85_0 a_ b_))).trans ?_
    refine .trans Q0c ?_
    refine (Q2d (d4e a_ b_ _)).trans ?_
    refine (Q0j (id := 0)).trans ?_
    refine (d4h a_ b_ _).trans (Q0e (Q1d (fun y1896 => ?_) (fun y1897 => ?_)))
    · refine Q0u.trans ?_
      refine (Q0a (st' := ⟨[], [], [], 26⟩)).trans ?_
      refine (Q2d (c78 _)).trans ?_
      refine (Q0h).trans ?_
      kernel_rfl
    · refine Q0t.trans ?_
      refine Q0k.trans ?_
      kernel_rfl
noncomputable def cp82 : Q2g := Q2i cp80 20 [(.one (.g (.sl (.one (.int .i8))))), (.one (.g (.sl (.one (.int .i8)))))] (.one pB) (fun y : Bool => y) (fun x => a0o x.1 x.2.1)
theorem d9p : Q0p E cp82 := conS eok c7g a0r fun x => Eq.mp (by kernel_rfl) (d4g x.1 x.2.1)
end
end Go.V.P
