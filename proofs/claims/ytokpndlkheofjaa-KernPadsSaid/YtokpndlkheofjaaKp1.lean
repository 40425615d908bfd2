/- What functions compute. -/
import Derived.Test.YtokpndlkheofjaaKp0
namespace Go.V.P
open Go.RowKit Go.V Go.Proofs
set_option linter.unusedVariables false
set_option maxRecDepth 100000
section
variable {α β : Type} (a0 : Node) (a_ : I3) (b_ : I3) (k : St → Option α)
noncomputable abbrev C19 := Q0r E.P 59
noncomputable abbrev P19 := @preK α E 59 cp19 noE
abbrev S19_0 : St := ⟨[(4, rC Q2o a_), (5, rC Q2o b_), (6, rF 0)], [[di 0, di 0, di 0]], [], 12⟩
theorem d1x : P19 1 C19 ⟨[(0, rA a01 a0), (1, rA Q2o a_), (2, rA Q2o b_)], [], [], 12⟩ k = k (S19_0 a_ b_) := by kernel_rfl
theorem b8b : P19 1 C19.r.l (S19_0 a_ b_) k = k ⟨[(4, rC Q2o a_), (6, rF 0), (9, rb (!((a_.1 == b_.1) && ((a_.2.1 == b_.2.1) && ((a_.2.2 == b_.2.2) && true)))))], [[di 0, di 0, di 0]], [], 12⟩ := by kernel_rfl
abbrev S19_1 : St := ⟨[(4, rC Q2o a_), (6, rF 0)], [[di 0, di 0, di 0]], [], 12⟩
theorem d1y : P19 1 C19.r.l.r.t (S19_1 a_) k = k ⟨[(6, rF 0)], [[di 0, di 0, di 0]], [], 12⟩ := by kernel_rfl
theorem c5f : P19 1 C19.r.r (S19_1 a_) k = k ⟨[(6, rF 0)], [(Q2o.leaves a_)], [], 12⟩ := by kernel_rfl
def b0l {β : Type} (a0 : Node) (a_ : I3) (b_ : I3) (K : I3 → β) : β := (bif (!((a_.1 == b_.1) && ((a_.2.1 == b_.2.1) && ((a_.2.2 == b_.2.2) && true)))) then (K ((0 : Int), (0 : Int), (0 : Int))) else (K a_))
def a9x : I3 := b0l a0 a_ b_ (fun y => y)
theorem d6g (K : I3 → β) : b0l a0 a_ b_ K = K (a9x a0 a_ b_) := (Q2h K rfl rfl)
theorem d1z : Q2j E cp19 noE 59 [rA a01 a0, rA Q2o a_, rA Q2o b_] = (fun y : I3 => some (rA Q2o y : R)) (a9x a0 a_ b_) := by
  refine Eq.trans ?_ (d6g a0 a_ b_ (fun y : I3 => some (rA Q2o y : R)))
  refine (Q0l (nt := 12) (regs := [(0, rA a01 a0), (1, rA Q2o a_), (2, rA Q2o b_)])).trans ?_
  unfold b0l
  refine (Q2d (d1x a0 a_ b_ _)).trans ?_
  refine .trans Q0c ?_
  refine (Q2d (b8b a_ b_ _)).trans ?_
  refine (Q0m (b := (!((a_.1 == b_.1) && ((a_.2.1 == b_.2.1) && ((a_.2.2 == b_.2.2) && true))))) (st' := (S19_1 a_)) ).trans (Q2f ?_ ?_)
  · refine (Q2d (d1y a_ _)).trans ?_
    refine (Q0h).trans ?_
    refine Q0k.trans ?_
    kernel_rfl
  · refine (Q0i).trans ?_
    refine (Q0a (st' := (S19_1 a_))).trans ?_
    refine (Q2d (c5f a_ _)).trans ?_
    refine (Q0h).trans ?_
    kernel_rfl
noncomputable def cp20 : Q2g := Q2i cp19 59 [(.agg a01), (.agg Q2o), (.agg Q2o)] (.one (.agg Q2o)) (fun y : I3 => y) (fun x => some (a9x x.1 x.2.1 x.2.2.1))
theorem e2s : Q0p E cp20 := conS eok e2r Q0z fun x => Eq.mp (by kernel_rfl) (d1z x.1 x.2.1 x.2.2.1)
end
section
variable {α β : Type} (a0 : Node) (a_ : I3) (a2 : I3) (k : St → Option α)
noncomputable abbrev C20 := Q0r E.P 60
noncomputable abbrev P20 := @preK α E 60 cp20 noE
theorem d1s : P20 2 C20 ⟨[(0, rA a01 a0), (1, rA Q2o a_), (2, rA Q2o a2)], [], [], 16⟩ k = k ⟨[(6, rF 0)], [[di (IntKind.wrap .i64 (a_.1 + 2)), di (IntKind.wrap .i64 (a_.2.1 + 2)), di a_.2.2]], [], 16⟩ := by kernel_rfl
def b0i {β : Type} (a0 : Node) (a_ : I3) (a2 : I3) (K : I3 → β) : β := (K ((IntKind.wrap .i64 (a_.1 + 2)), (IntKind.wrap .i64 (a_.2.1 + 2)), a_.2.2))
def a9v : I3 := b0i a0 a_ a2 (fun y => y)
theorem d5y (K : I3 → β) : b0i a0 a_ a2 K = K (a9v a0 a_ a2) := rfl
theorem d1t : Q2j E cp20 noE 60 [rA a01 a0, rA Q2o a_, rA Q2o a2] = (fun y : I3 => some (rA Q2o y : R)) (a9v a0 a_ a2) := by
  refine Eq.trans ?_ (d5y a0 a_ a2 (fun y : I3 => some (rA Q2o y : R)))
  refine (Q0l (nt := 16) (regs := [(0, rA a01 a0), (1, rA Q2o a_), (2, rA Q2o a2)])).trans ?_
  unfold b0i
  refine (pre2 (d1s a0 a_ a2 _)).trans ?_
  refine (Q0h).trans ?_
  kernel_rfl
noncomputable def cp21 : Q2g := Q2i cp20 60 [(.agg a01), (.agg Q2o), (.agg Q2o)] (.one (.agg Q2o)) (fun y : I3 => y) (fun x => some (a9v x.1 x.2.1 x.2.2.1))
theorem e2t : Q0p E cp21 := conS eok e2s Q0z fun x => Eq.mp (by kernel_rfl) (d1t x.1 x.2.1 x.2.2.1)
end
section
variable {α β : Type} (a0 : Node) (a_ : I3) (b_ : I3) (k : St → Option α)
noncomputable abbrev C21 := Q0r E.P 61
noncomputable abbrev P21 := @preK α E 61 cp21 noE
abbrev S21_0 : St := ⟨[(4, rC Q2o a_), (5, rC Q2o b_), (6, rF 0)], [[di 0, di 0, di 0]], [], 30⟩
theorem c58 : P21 1 C21 ⟨[(0, rA a01 a0), (1, rA Q2o a_), (2, rA Q2o b_)], [], [], 30⟩ k = k (S21_0 a_ b_) := by kernel_rfl
def a9d (K : Bool → β) : β := (bif (a_.1 != b_.1) then (K true) else (K (a_.2.1 != b_.2.1)))
def a2k : Bool := a9d a_ b_ (fun y => y)
theorem c1e (K : Bool → β) : a9d a_ b_ K = K (a2k a_ b_) := (Q2h K rfl rfl)
theorem c5b : P21 1 C21.r.l (S21_0 a_ b_) k = k ⟨[(4, rC Q2o a_), (5, rC Q2o b_), (6, rF 0), (18, rb (a2k a_ b_))], [[di 0, di 0, di 0]], [], 30⟩ := Eq.trans (by kernel_rfl) (c1e a_ b_ (fun y200 : Bool => k ⟨[(4, rC Q2o a_), (5, rC Q2o b_), (6, rF 0), (18, rb y200)], [[di 0, di 0, di 0]], [], 30⟩))
theorem c59 : P21 1 C21.r.l.r.t (S21_0 a_ b_) k = k ⟨[(6, rF 0)], [[di 0, di 0, di 0]], [], 30⟩ := by kernel_rfl
theorem c1d : P21 1 C21.r.r (S21_0 a_ b_) k = k ⟨[(6, rF 0)], [[di a_.1, di a_.2.1, di (IntKind.wrap .i64 (a_.2.2 + b_.2.2))]], [], 30⟩ := by kernel_rfl
def a86 {β : Type} (a0 : Node) (a_ : I3) (b_ : I3) (K : I3 → β) : β := (bif (a2k a_ b_) then (K ((0 : Int), (0 : Int), (0 : Int))) else (K (a_.1, a_.2.1, (IntKind.wrap .i64 (a_.2.2 + b_.2.2)))))
def a6h : I3 := a86 a0 a_ b_ (fun y => y)
theorem c7x (K : I3 → β) : a86 a0 a_ b_ K = K (a6h a0 a_ b_) := (Q2h K rfl rfl)
theorem c5a : Q2j E cp21 noE 61 [rA a01 a0, rA Q2o a_, rA Q2o b_] = (fun y : I3 => some (rA Q2o y : R)) (a6h a0 a_ b_) := by
  refine Eq.trans ?_ (c7x a0 a_ b_ (fun y : I3 => some (rA Q2o y : R)))
  refine (Q0l (nt := 30) (regs := [(0, rA a01 a0), (1, rA Q2o a_), (2, rA Q2o b_)])).trans ?_
  unfold a86
  refine (Q2d (c58 a0 a_ b_ _)).trans ?_
  refine .trans Q0c ?_
  refine (Q2d (c5b a_ b_ _)).trans ?_
  refine (Q0m (b := (a2k a_ b_)) (st' := (S21_0 a_ b_)) ).trans (Q2f ?_ ?_)
  · refine (Q2d (c59 a_ b_ _)).trans ?_
    refine (Q0h).trans ?_
    refine Q0k.trans ?_
    kernel_rfl
  · refine (Q0i).trans ?_
    refine (Q0a (st' := (S21_0 a_ b_))).trans ?_
    refine (Q2d (c1d a_ b_ _)).trans ?_
    refine (Q0h).trans ?_
    kernel_rfl
noncomputable def cp22 : Q2g := Q2i cp21 61 [(.agg a01), (.agg Q2o), (.agg Q2o)] (.one (.agg Q2o)) (fun y : I3 => y) (fun x => some (a6h x.1 x.2.1 x.2.2.1))
theorem e2u : Q0p E cp22 := conS eok e2t Q0z fun x => Eq.mp (by kernel_rfl) (c5a x.1 x.2.1 x.2.2.1)
end
noncomputable abbrev C22 := Q0r E.P 68
noncomputable abbrev P22 {α : Type} := @preK α E 68 cp22 noE
abbrev S22_0 (s_ : I3) : St := ⟨[(1, rC Q2o s_)], [], [], 11⟩
theorem d8e {α : Type} (s_ : I3) (k : St → Option α) : P22 1 C22 ⟨[(0, rA Q2o s_)], [], [], 11⟩ k = k (S22_0 s_) := by kernel_rfl
theorem d8h {α : Type} (s_ : I3) (k : St → Option α) : P22 1 C22.r.l (S22_0 s_) k = Option.bind (a4a s_) fun y203 : Bool => k ⟨[(1, rC Q2o s_), (5, rb (!y203))], [], [], 11⟩ := by kernel_rfl
theorem d8f {α : Type} (s_ : I3) (k : St → Option α) : P22 1 C22.r.l.r.t (S22_0 s_) k = k ⟨[(2, ri 0)], [], [], 11⟩ := by kernel_rfl
theorem d16 {α : Type} (s_ : I3) (k : St → Option α) : P22 1 C22.r.r (S22_0 s_) k = k ⟨[(2, ri (IntKind.wrap .i64 (s_.2.1 * s_.2.2)))], [], [], 11⟩ := by kernel_rfl
def a8z (s_ : I3) : Option Int := (Option.bind (a4a s_) (fun y203 : Bool => (bif (!y203) then (some (0 : Int)) else (some (IntKind.wrap .i64 (s_.2.1 * s_.2.2))))))
theorem d8g (s_ : I3) : Q2j E cp22 noE 68 [rA Q2o s_] = Option.bind (a8z s_) (fun y : Int => some (ri y : R)) := by
  refine .trans ?_ (Q0d fun y203 => (Q2b Q0b Q0b))
  refine (Q0l (nt := 11) (regs := [(0, rA Q2o s_)])).trans ?_
  refine (Q2d (d8e s_ _)).trans ?_
  refine .trans Q0c ?_
  refine (Q2d (d8h s_ _)).trans (Q0e fun y203 => ?_)
  refine (Q0m (b := (!y203)) (st' := (S22_0 s_)) ).trans (Q2f ?_ ?_)
  · refine (Q2d (d8f s_ _)).trans ?_
    refine (Q0h).trans ?_
    refine Q0k.trans ?_
    kernel_rfl
  · refine (Q0i).trans ?_
    refine (Q0a (st' := (S22_0 s_))).trans ?_
    refine (Q2d (d16 s_ _)).trans ?_
    refine (Q0h).trans ?_
    kernel_rfl
noncomputable def cp23 : Q2g := Q2i cp22 68 [(.agg Q2o)] (.one pI) (fun y : Int => y) (fun x => a8z x.1)
theorem e2v : Q0p E cp23 := conS eok e2u Q0z fun x => Eq.mp (by kernel_rfl) (d8g x.1)
noncomputable abbrev C23 := Q0r E.P 58
noncomputable abbrev P23 {α : Type} := @preK α E 58 cp23 noE
theorem d4l {α : Type} (s_ : I3) (k : St → Option α) : P23 2 C23 ⟨[(0, rA Q2o s_)], [], [], 8⟩ k = Option.bind (a8z s_) fun y204 : Int => k ⟨[(2, ri (IntKind.wrap .i64 (y204 * s_.1)))], [], [], 8⟩ := by kernel_rfl
def a3c (s_ : I3) : Option Int := (Option.bind (a8z s_) (fun y204 : Int => (some (IntKind.wrap .i64 (y204 * s_.1)))))
theorem d4k (s_ : I3) : Q2j E cp23 noE 58 [rA Q2o s_] = Option.bind (a3c s_) (fun y : Int => some (ri y : R)) := by
  refine .trans ?_ (Q0d fun y204 => Q0b)
  refine (Q0l (nt := 8) (regs := [(0, rA Q2o s_)])).trans ?_
  refine (pre2 (d4l s_ _)).trans (Q0e fun y204 => ?_)
  refine (Q0h).trans ?_
  kernel_rfl
noncomputable def cp24 : Q2g := Q2i cp23 58 [(.agg Q2o)] (.one pI) (fun y : Int => y) (fun x => a3c x.1)
theorem e2w : Q0p E cp24 := conS eok e2v Q0z fun x => Eq.mp (by kernel_rfl) (d4k x.1)
section
variable {α : Type} (n_ : Node) (a_ : I3) (a2 : I3) (k : St → Option α)
noncomputable abbrev C24 := Q0r E.P 62
noncomputable abbrev P24 := @preK α E 62 cp24 noE
abbrev S24_0 : St := ⟨[(3, rC a01 n_), (4, rC Q2o a_), (6, rF 0)], [[di 0, di 0, di 0]], [], 16⟩
theorem d1b : P24 1 C24 ⟨[(0, rA a01 n_), (1, rA Q2o a_), (2, rA Q2o a2)], [], [], 16⟩ k = k (S24_0 n_ a_) := by kernel_rfl
def b25 : Option Bool := (Option.bind (a3c (n_.2.2.2.2.2.2.2.2.2.1, n_.2.2.2.2.2.2.2.2.2.2.1, n_.2.2.2.2.2.2.2.2.2.2.2.1)) (fun y208 : Int => (Option.bind (a3c a_) (fun y209 : Int => (some (y208 != y209))))))
theorem d1e : P24 1 C24.r.l (S24_0 n_ a_) k = Option.bind (b25 n_ a_) (fun y210 : Bool => k ⟨[(3, rC a01 n_), (6, rF 0), (12, rb y210)], [[di 0, di 0, di 0]], [], 16⟩) := .trans (by kernel_rfl) (Q0d fun y208 => (Q0d fun y209 => Q0b))
abbrev S24_1 : St := ⟨[(3, rC a01 n_), (6, rF 0)], [[di 0, di 0, di 0]], [], 16⟩
theorem d1c : P24 1 C24.r.l.r.t (S24_1 n_) k = k ⟨[(6, rF 0)], [[di 0, di 0, di 0]], [], 16⟩ := by kernel_rfl
theorem c57 : P24 1 C24.r.r (S24_1 n_) k = k ⟨[(6, rF 0)], [[di n_.2.2.2.2.2.2.2.2.2.1, di n_.2.2.2.2.2.2.2.2.2.2.1, di n_.2.2.2.2.2.2.2.2.2.2.2.1]], [], 16⟩ := by kernel_rfl
def b5n (n_ : Node) (a_ : I3) (a2 : I3) : Option I3 := (Option.bind (b25 n_ a_) (fun y210 : Bool => (bif y210 then (some ((0 : Int), (0 : Int), (0 : Int))) else (some (n_.2.2.2.2.2.2.2.2.2.1, n_.2.2.2.2.2.2.2.2.2.2.1, n_.2.2.2.2.2.2.2.2.2.2.2.1)))))
theorem d1d : Q2j E cp24 noE 62 [rA a01 n_, rA Q2o a_, rA Q2o a2] = Option.bind (b5n n_ a_ a2) (fun y : I3 => some (rA Q2o y : R)) := by
  refine .trans ?_ (Q0d fun y210 => (Q2b Q0b Q0b))
  refine (Q0l (nt := 16) (regs := [(0, rA a01 n_), (1, rA Q2o a_), (2, rA Q2o a2)])).trans ?_
  refine (Q2d (d1b n_ a_ a2 _)).trans ?_
  refine .trans Q0c ?_
  refine (Q2d (d1e n_ a_ _)).trans (Q0e fun y210 => ?_)
  refine (Q0m (b := y210) (st' := (S24_1 n_)) ).trans (Q2f ?_ ?_)
  · refine (Q2d (d1c n_ _)).trans ?_
    refine (Q0h).trans ?_
    refine Q0k.trans ?_
    kernel_rfl
  · refine (Q0i).trans ?_
    refine (Q0a (st' := (S24_1 n_))).trans ?_
    refine (Q2d (c57 n_ _)).trans ?_
    refine (Q0h).trans ?_
    kernel_rfl
noncomputable def cp25 : Q2g := Q2i cp24 62 [(.agg a01), (.agg Q2o), (.agg Q2o)] (.one (.agg Q2o)) (fun y : I3 => y) (fun x => b5n x.1 x.2.1 x.2.2.1)
theorem e2x : Q0p E cp25 := conS eok e2w Q0z fun x => Eq.mp (by kernel_rfl) (d1d x.1 x.2.1 x.2.2.1)
end
section
variable {α β : Type} (a0_ : Node) (a1_ : I3) (k : St → Option α)
noncomputable abbrev C25 := Q0r E.P 50
noncomputable abbrev P25 := @preK α E 50 cp25 noE
theorem d1f : P25 2 C25 ⟨[(0, rA a01 a0_), (1, rA Q2o a1_)], [], [], 6⟩ k = k ⟨[(4, ri 0), (5, ri 0)], [], [], 6⟩ := by kernel_rfl
def b0e {β : Type} (a0_ : Node) (a1_ : I3) (K : (Int × Int) → β) : β := (K ((0 : Int), (0 : Int)))
def a9r : (Int × Int) := b0e a0_ a1_ (fun y => y)
theorem d5u (K : (Int × Int) → β) : b0e a0_ a1_ K = K (a9r a0_ a1_) := rfl
theorem d1g : Q2j E cp25 noE 50 [rA a01 a0_, rA Q2o a1_] = (fun y : (Int × Int) => some (.tup [ri y.1, ri y.2] : R)) (a9r a0_ a1_) := by
  refine Eq.trans ?_ (d5u a0_ a1_ (fun y : (Int × Int) => some (.tup [ri y.1, ri y.2] : R)))
  refine (Q0l (nt := 6) (regs := [(0, rA a01 a0_), (1, rA Q2o a1_)])).trans ?_
  unfold b0e
  refine (pre2 (d1f a0_ a1_ _)).trans ?_
  refine (Q0h).trans ?_
  kernel_rfl
noncomputable def cp26 : Q2g := Q2i cp25 50 [(.agg a01), (.agg Q2o)] (.tup [pI, pI]) (fun y : (Int × Int) => (y.1, y.2, ())) (fun x => some (a9r x.1 x.2.1))
theorem e2y : Q0p E cp26 := conS eok e2x Q0z fun x => Eq.mp (by kernel_rfl) (d1g x.1 x.2.1)
end
section
variable {α β : Type} (n_ : Node) (s_ : I3) (k : St → Option α)
noncomputable abbrev C26 := Q0r E.P 53
noncomputable abbrev P26 := @preK α E 53 cp26 noE
def b26 (K : Int → β) : β := (K (IntKind.wrap .i64 ((IntKind.wrap .i64 ((IntKind.wrap .i64 (n_.2.2.1 * n_.2.2.1)) * s_.2.2)) * n_.2.2.2.2.2.1)))
def a6l : Int := b26 n_ s_ (fun y => y)
theorem c5c (K : Int → β) : b26 n_ s_ K = K (a6l n_ s_) := rfl
theorem d1l : P26 2 C26 ⟨[(0, rA a01 n_), (1, rA Q2o s_)], [], [], 19⟩ k = k ⟨[(4, ri (a6l n_ s_)), (5, ri n_.2.2.2.2.2.1)], [], [], 19⟩ := Eq.trans (by kernel_rfl) (c5c n_ s_ (fun y218 : Int => k ⟨[(4, ri y218), (5, ri n_.2.2.2.2.2.1)], [], [], 19⟩))
def b0f (K : (Int × Int) → β) : β := (K ((a6l n_ s_), n_.2.2.2.2.2.1))
def a9s : (Int × Int) := b0f n_ s_ (fun y => y)
theorem d5v (K : (Int × Int) → β) : b0f n_ s_ K = K (a9s n_ s_) := rfl
theorem d1k : Q2j E cp26 noE 53 [rA a01 n_, rA Q2o s_] = (fun y : (Int × Int) => some (.tup [ri y.1, ri y.2] : R)) (a9s n_ s_) := by
  refine Eq.trans ?_ (d5v n_ s_ (fun y : (Int × Int) => some (.tup [ri y.1, ri y.2] : R)))
  refine (Q0l (nt := 19) (regs := [(0, rA a01 n_), (1, rA Q2o s_)])).trans ?_
  unfold b0f
  refine (pre2 (d1l n_ s_ _)).trans ?_
  refine (Q0h).trans ?_
  kernel_rfl
noncomputable def cp27 : Q2g := Q2i cp26 53 [(.agg a01), (.agg Q2o)] (.tup [pI, pI]) (fun y : (Int × Int) => (y.1, y.2, ())) (fun x => some (a9s x.1 x.2.1))
theorem e2z : Q0p E cp27 := conS eok e2y Q0z fun x => Eq.mp (by kernel_rfl) (d1k x.1 x.2.1)
end
section
variable {α β : Type} (n_ : Node) (s_ : I3) (k : St → Option α)
noncomputable abbrev C27 := Q0r E.P 55
noncomputable abbrev P27 := @preK α E 55 cp27 noE
theorem d1m : P27 2 C27 ⟨[(0, rA a01 n_), (1, rA Q2o s_)], [], [], 16⟩ k = k ⟨[(4, ri (IntKind.wrap .i64 ((IntKind.wrap .i64 (n_.2.2.1 * n_.2.2.1)) * s_.2.2))), (5, ri s_.2.2)], [], [], 16⟩ := by kernel_rfl
def b0g (K : (Int × Int) → β) : β := (K ((IntKind.wrap .i64 ((IntKind.wrap .i64 (n_.2.2.1 * n_.2.2.1)) * s_.2.2)), s_.2.2))
def a9t : (Int × Int) := b0g n_ s_ (fun y => y)
theorem d5w (K : (Int × Int) → β) : b0g n_ s_ K = K (a9t n_ s_) := rfl
theorem d1n : Q2j E cp27 noE 55 [rA a01 n_, rA Q2o s_] = (fun y : (Int × Int) => some (.tup [ri y.1, ri y.2] : R)) (a9t n_ s_) := by
  refine Eq.trans ?_ (d5w n_ s_ (fun y : (Int × Int) => some (.tup [ri y.1, ri y.2] : R)))
  refine (Q0l (nt := 16) (regs := [(0, rA a01 n_), (1, rA Q2o s_)])).trans ?_
  unfold b0g
  refine (pre2 (d1m n_ s_ _)).trans ?_
  refine (Q0h).trans ?_
  kernel_rfl
noncomputable def cp28 : Q2g := Q2i cp27 55 [(.agg a01), (.agg Q2o)] (.tup [pI, pI]) (fun y : (Int × Int) => (y.1, y.2, ())) (fun x => some (a9t x.1 x.2.1))
theorem e30 : Q0p E cp28 := conS eok e2z Q0z fun x => Eq.mp (by kernel_rfl) (d1n x.1 x.2.1)
end
section
variable {α : Type} (n_ : Node) (s_ : I3) (k : St → Option α)
noncomputable abbrev C28 := Q0r E.P 57
noncomputable abbrev P28 := @preK α E 57 cp28 noE
theorem d1r : P28 2 C28 ⟨[(0, rA a01 n_), (1, rA Q2o s_)], [], [], 13⟩ k = Option.bind (a3c s_) fun y221 : Int => k ⟨[(4, ri (IntKind.wrap .i64 (y221 * n_.2.2.2.2.2.1))), (5, ri n_.2.2.2.2.2.1)], [], [], 13⟩ := by kernel_rfl
def b5s : Option (Int × Int) := (Option.bind (a3c s_) (fun y221 : Int => (some ((IntKind.wrap .i64 (y221 * n_.2.2.2.2.2.1)), n_.2.2.2.2.2.1))))
theorem d1q : Q2j E cp28 noE 57 [rA a01 n_, rA Q2o s_] = Option.bind (b5s n_ s_) (fun y : (Int × Int) => some (.tup [ri y.1, ri y.2] : R)) := by
  refine .trans ?_ (Q0d fun y221 => Q0b)
  refine (Q0l (nt := 13) (regs := [(0, rA a01 n_), (1, rA Q2o s_)])).trans ?_
  refine (pre2 (d1r n_ s_ _)).trans (Q0e fun y221 => ?_)
  refine (Q0h).trans ?_
  kernel_rfl
noncomputable def cp29 : Q2g := Q2i cp28 57 [(.agg a01), (.agg Q2o)] (.tup [pI, pI]) (fun y : (Int × Int) => (y.1, y.2, ())) (fun x => b5s x.1 x.2.1)
theorem e31 : Q0p E cp29 := conS eok e30 Q0z fun x => Eq.mp (by kernel_rfl) (d1q x.1 x.2.1)
end
section
variable {α β : Type} (a0_ : Node) (a1_ : I3) (k : St → Option α)
noncomputable abbrev C29 := Q0r E.P 63
noncomputable abbrev P29 := @preK α E 63 cp29 noE
theorem d1u : P29 2 C29 ⟨[(0, rA a01 a0_), (1, rA Q2o a1_)], [], [], 6⟩ k = k ⟨[(4, ri 256), (5, ri 0)], [], [], 6⟩ := by kernel_rfl
def b0j {β : Type} (a0_ : Node) (a1_ : I3) (K : (Int × Int) → β) : β := (K ((256 : Int), (0 : Int)))
def a9w : (Int × Int) := b0j a0_ a1_ (fun y => y)
theorem d5z (K : (Int × Int) → β) : b0j a0_ a1_ K = K (a9w a0_ a1_) := rfl
theorem d1v : Q2j E cp29 noE 63 [rA a01 a0_, rA Q2o a1_] = (fun y : (Int × Int) => some (.tup [ri y.1, ri y.2] : R)) (a9w a0_ a1_) := by
  refine Eq.trans ?_ (d5z a0_ a1_ (fun y : (Int × Int) => some (.tup [ri y.1, ri y.2] : R)))
  refine (Q0l (nt := 6) (regs := [(0, rA a01 a0_), (1, rA Q2o a1_)])).trans ?_
  unfold b0j
  refine (pre2 (d1u a0_ a1_ _)).trans ?_
  refine (Q0h).trans ?_
  kernel_rfl
noncomputable def cp30 : Q2g := Q2i cp29 63 [(.agg a01), (.agg Q2o)] (.tup [pI, pI]) (fun y : (Int × Int) => (y.1, y.2, ())) (fun x => some (a9w x.1 x.2.1))
theorem e32 : Q0p E cp30 := conS eok e31 Q0z fun x => Eq.mp (by kernel_rfl) (d1v x.1 x.2.1)
end
noncomputable abbrev C30 := Q0r E.P 40
noncomputable abbrev P30 {α : Type} := @preK α E 40 cp30 noE
theorem c32 {α : Type} (x_ : Int) (k : St → Option α) : P30 2 C30 ⟨[(0, rk .i32 x_)], [], [], 7⟩ k = k ⟨[(2, rb (!(a0s (IntKind.wrap .i64 x_) (-16777216 : Int) (16777216 : Int))))], [], [], 7⟩ := by kernel_rfl
def a6g {β : Type} (x_ : Int) (K : Bool → β) : β := (K (!(a0s (IntKind.wrap .i64 x_) (-16777216 : Int) (16777216 : Int))))
def a2a (x_ : Int) : Bool := a6g x_ (fun y => y)
theorem c54 {β : Type} (x_ : Int) (K : Bool → β) : a6g x_ K = K (a2a x_) := rfl
theorem c33 (x_ : Int) : Q2j E cp30 noE 40 [rk .i32 x_] = (fun y : Bool => some (rb y : R)) (a2a x_) := by
  refine Eq.trans ?_ (c54 x_ (fun y : Bool => some (rb y : R)))
  refine (Q0l (nt := 7) (regs := [(0, rk .i32 x_)])).trans ?_
  unfold a6g
  refine (pre2 (c32 x_ _)).trans ?_
  refine (Q0h).trans ?_
  kernel_rfl
noncomputable def cp31 : Q2g := Q2i cp30 40 [(.one (.g (.int .i32)))] (.one pB) (fun y : Bool => y) (fun x => some (a2a x.1))
theorem e33 : Q0p E cp31 := conS eok e32 Q0z fun x => Eq.mp (by kernel_rfl) (c33 x.1)
section
variable {α : Type} (s_ : (List Int)) (s237 : Int) (k : St → Option α) (q : Kont α)
noncomputable abbrev C31 := Q0r E.P 66
noncomputable abbrev P31 := @preK α E 66 cp31 noE
noncomputable abbrev R31 := @Q0o α E 66 cp31 noE
abbrev S31_0 : St := ⟨[(0, rl (.one (.int .i32)) s_), (1, .one (.fn 40 []))], [], [], 19⟩
theorem a7l : P31 1 C31 (S31_0 s_) k = k (S31_0 s_) := by kernel_rfl
abbrev S31_1 : St := ⟨[(0, rl (.one (.int .i32)) s_), (1, .one (.fn 40 [])), (7, ri (s_.length : Int)), (8, ri 0)], [], [], 19⟩
theorem a7m : P31 1 C31.r.l (S31_0 s_) k = k (S31_1 s_) := by kernel_rfl
abbrev S31_2 : St := ⟨[(0, rl (.one (.int .i32)) s_), (1, .one (.fn 40 [])), (7, ri (s_.length : Int)), (8, ri s237)], [], [], 19⟩
theorem a7n : P31 1 C31.r.l.r.b.b (S31_2 s_ s237) k = k ⟨[(0, rl (.one (.int .i32)) s_), (1, .one (.fn 40 [])), (7, ri (s_.length : Int)), (8, ri s237), (9, rb (decide (s237 < (s_.length : Int))))], [], [], 19⟩ := by kernel_rfl
def a21 : Option Unit := (bif (decide ((0 : Int) ≤ s237)) then (bif (decide (s237 < (s_.length : Int))) then (some ()) else none) else none)
theorem a7q : P31 2 C31.r.l.r.b.b.r.r.l.b (S31_2 s_ s237) k = Option.bind (a21 s_ s237) (fun y239 : Unit => k ⟨[(0, rl (.one (.int .i32)) s_), (1, .one (.fn 40 [])), (5, ri s237), (7, ri (s_.length : Int)), (8, ri s237), (16, rb (a2a (gt s_ s237 (0 : Int))))], [], [], 19⟩) := .trans (by kernel_rfl) (Q2b (Q2b Q0b Q0n) Q0n)
abbrev S31_3 : St := ⟨[(0, rl (.one (.int .i32)) s_), (1, .one (.fn 40 [])), (5, ri s237), (7, ri (s_.length : Int)), (8, ri s237)], [], [], 19⟩
theorem a68 : P31 1 C31.r.l.r.b.b.r.r.l.b.r.r.t (S31_3 s_ s237) k = k ⟨[(4, ri s237)], [], [], 19⟩ := by kernel_rfl
theorem a7r : R31 C31.r.l.r.b.b.r.r.r (S31_2 s_ s237) q = q .normal ⟨[(0, rl (.one (.int .i32)) s_), (1, .one (.fn 40 [])), (7, ri (s_.length : Int)), (8, ri (IntKind.wrap .i64 (s237 + 1)))], [], [], 19⟩ := by kernel_rfl
def a19 : Option (Int ⊕ (Int ⊕ Int)) := (bif (decide (s237 < (s_.length : Int))) then (Option.bind (a21 s_ s237) (fun y239 : Unit => (bif (a2a (gt s_ s237 (0 : Int))) then (some (Sum.inr (Sum.inr s237))) else (some (Sum.inl (IntKind.wrap .i64 (s237 + 1))))))) else (some (Sum.inr (Sum.inl s237))))
abbrev S31_4 (y240 : Int) : St := ⟨[(0, rl (.one (.int .i32)) s_), (1, .one (.fn 40 [])), (7, ri (s_.length : Int)), (8, ri y240)], [], [], 19⟩
theorem a6a : R31 C31.r.l.r.b.b (S31_2 s_ s237) (Q0w 0 q) = Option.bind (a19 s_ s237) (Q1z (fun y : Int => q .normal ⟨[(0, rl (.one (.int .i32)) s_), (1, .one (.fn 40 [])), (7, ri (s_.length : Int)), (8, ri y)], [], [], 19⟩) (Q1z (fun y240 : Int => q (.exit 0) (S31_4 s_ y240)) (fun y241 : Int => q .ret ⟨[(4, ri y241)], [], [], 19⟩))) := by
  refine .trans ?_ (Q2b (Q0d fun y239 => (Q2b e3_2 e3_0)) e3_1)
  refine (Q2d (a7n s_ s237 _)).trans ?_
  refine .trans Q0c ?_
  refine (Q0m (b := (decide (s237 < (s_.length : Int)))) (st' := (S31_2 s_ s237)) ).trans (Q2f ?_ ?_)
  · refine (Q0i).trans ?_
    refine (Q0a (st' := (S31_2 s_ s237))).trans ?_
    refine .trans Q0c ?_
    refine (Q0j (id := 1)).trans ?_
    refine (pre2 (a7q s_ s237 _)).trans (Q0e fun y239 => ?_)
    refine (Q0m (b := (a2a (gt s_ s237 (0 : Int)))) (st' := (S31_3 s_ s237)) ).trans (Q2f ?_ ?_)
    · refine (Q2d (a68 s_ s237 _)).trans ?_
      refine (Q0h).trans ?_
      refine Q0t.trans ?_
      refine Q0k.trans ?_
      kernel_rfl
    · refine (Q0i).trans ?_
      refine Q0f.trans ?_
      refine (Q0a (st' := (S31_2 s_ s237))).trans ?_
      refine (a7r s_ s237 _).trans ?_
      kernel_rfl
  · refine ((Q1f (j := 0))).trans ?_
    refine Q0v.trans ?_
    kernel_rfl
theorem a7p : R31 C31.r.l.r.b (S31_1 s_) q = Option.bind (iterN (a19 s_) LL (0 : Int)) (Q1z (fun y240 : Int => q (.exit 0) (S31_4 s_ y240)) (fun y241 : Int => q .ret ⟨[(4, ri y241)], [], [], 19⟩)) :=
  Eq.trans (by kernel_rfl) (loop_iter2 (S := fun s237 : Int => (S31_2 s_ s237)) (Y1 := fun y240 : Int => ((.exit 0), (S31_4 s_ y240))) (Y2 := fun y241 : Int => (.ret, ⟨[(4, ri y241)], [], [], 19⟩)) (fun s q => a6a s_ s q) (fun z => rfl) (fun z => rfl) LL (0 : Int))
theorem a69 : P31 1 C31.r.r ⟨[], [], [], 19⟩ k = k ⟨[(4, ri (-1 : Int))], [], [], 19⟩ := by kernel_rfl
def a0y : Option Int := (Option.bind (iterN (a19 s_) LL (0 : Int)) (Q1z (fun y240 : Int => (some (-1 : Int))) (fun y241 : Int => (some y241))))
theorem a7o : Q2j E cp31 noE 66 [rl (.one (.int .i32)) s_, .one (.fn 40 [])] = Option.bind (a0y s_) (fun y : Int => some (ri y : R)) := by
  refine .trans ?_ (Q0d (Q0g (fun y240 => Q0b) (fun y241 => Q0b)))
  refine (Q0l (nt := 19) (regs := [(0, rl (.one (.int .i32)) s_), (1, .one (.fn 40 []))])).trans ?_
  refine (Q2d (a7l s_ _)).trans ?_
  refine .trans Q0c ?_
  refine (Q2d (a7m s_ _)).trans ?_
  refine (Q0j (id := 0)).trans ?_
  refine (a7p s_ _).trans (Q0e (Q1d (fun y240 => ?_) (fun y241 => ?_)))
  · refine Q0u.trans ?_
    refine (Q0a (st' := ⟨[], [], [], 19⟩)).trans ?_
    refine (Q2d (a69 _)).trans ?_
    refine (Q0h).trans ?_
    kernel_rfl
  · refine Q0t.trans ?_
    refine Q0k.trans ?_
    kernel_rfl
noncomputable def cp32 : Q2g := Q2i cp31 66 [(.one (.g (.sl (.one (.int .i32))))), (.one (.fn 40 .nil))] (.one pI) (fun y : Int => y) (fun x => a0y x.1)
theorem e34 : Q0p E cp32 := conS eok e33 Q0z fun x => Eq.mp (by kernel_rfl) (a7o x.1)
end
noncomputable abbrev C32 := Q0r E.P 39
noncomputable abbrev P32 {α : Type} := @preK α E 39 cp32 noE
theorem a5n {α : Type} (s_ : (List Int)) (k : St → Option α) : P32 2 C32 ⟨[(0, rl (.one (.int .i32)) s_), (1, .one (.fn 40 []))], [], [], 9⟩ k = Option.bind (a0y s_) fun y242 : Int => k ⟨[(4, rb (decide (y242 ≥ 0)))], [], [], 9⟩ := by kernel_rfl
def a1c (s_ : (List Int)) : Option Bool := (Option.bind (a0y s_) (fun y242 : Int => (some (decide (y242 ≥ 0)))))
theorem a5m (s_ : (List Int)) : Q2j E cp32 noE 39 [rl (.one (.int .i32)) s_, .one (.fn 40 [])] = Option.bind (a1c s_) (fun y : Bool => some (rb y : R)) := by
  refine .trans ?_ (Q0d fun y242 => Q0b)
  refine (Q0l (nt := 9) (regs := [(0, rl (.one (.int .i32)) s_), (1, .one (.fn 40 []))])).trans ?_
  refine (pre2 (a5n s_ _)).trans (Q0e fun y242 => ?_)
  refine (Q0h).trans ?_
  kernel_rfl
noncomputable def cp33 : Q2g := Q2i cp32 39 [(.one (.g (.sl (.one (.int .i32))))), (.one (.fn 40 .nil))] (.one pB) (fun y : Bool => y) (fun x => a1c x.1)
theorem e35 : Q0p E cp33 := conS eok e34 Q0z fun x => Eq.mp (by kernel_rfl) (a5m x.1)
section
variable {α β : Type} (n_ : Node) (in_ : (List I4)) (y82 : U15) (y213 : (Int × Int × Int)) (y225 : (Int × Int)) (k : St → Option α)
noncomputable abbrev C33 := Q0r E.P 22
noncomputable abbrev P33 := @preK α E 22 cp33 noE
def b0a : Option U15 := (Option.bind (c3b n_.1) (fun y18 : U17 => ((Q1z (fun u19 : Unit => ((Q1z (fun u20 : Unit => (some (y18.2, y18.1.1, y18.1.2.1, y18.1.2.2.1, y18.1.2.2.2.1, y18.1.2.2.2.2.1, y18.1.2.2.2.2.2.1, (Sum.inl ()), (Sum.inl ())))) (Q1z (fun u21 : Unit => (some (y18.2, y18.1.1, y18.1.2.1, y18.1.2.2.1, y18.1.2.2.2.1, y18.1.2.2.2.2.1, y18.1.2.2.2.2.2.1, (Sum.inl ()), (Sum.inr (Sum.inl ()))))) (Q1z (fun u22 : Unit => (some (y18.2, y18.1.1, y18.1.2.1, y18.1.2.2.1, y18.1.2.2.2.1, y18.1.2.2.2.2.1, y18.1.2.2.2.2.2.1, (Sum.inl ()), (Sum.inr (Sum.inr (Sum.inl ())))))) (Q1z (fun u23 : Unit => (some (y18.2, y18.1.1, y18.1.2.1, y18.1.2.2.1, y18.1.2.2.2.1, y18.1.2.2.2.2.1, y18.1.2.2.2.2.2.1, (Sum.inl ()), (Sum.inr (Sum.inr (Sum.inr (Sum.inl ()))))))) (Q1z (fun u24 : Unit => (some (y18.2, y18.1.1, y18.1.2.1, y18.1.2.2.1, y18.1.2.2.2.1, y18.1.2.2.2.2.1, y18.1.2.2.2.2.2.1, (Sum.inl ()), (Sum.inr (Sum.inr (Sum.inr (Sum.inr (Sum.inl ())))))))) (fun u25 : Unit => (some (y18.2, y18.1.1, y18.1.2.1, y18.1.2.2.1, y18.1.2.2.2.1, y18.1.2.2.2.2.1, y18.1.2.2.2.2.2.1, (Sum.inl ()), (Sum.inr (Sum.inr (Sum.inr (Sum.inr (Sum.inr ()))))))))))))) y18.1.2.2.2.2.2.2.2.1)) (Q1z (fun u26 : Unit => ((Q1z (fun u27 : Unit => (some (y18.2, y18.1.1, y18.1.2.1, y18.1.2.2.1, y18.1.2.2.2.1, y18.1.2.2.2.2.1, y18.1.2.2.2.2.2.1, (Sum.inr (Sum.inl ())), (Sum.inl ())))) (Q1z (fun u28 : Unit => (some (y18.2, y18.1.1, y18.1.2.1, y18.1.2.2.1, y18.1.2.2.2.1, y18.1.2.2.2.2.1, y18.1.2.2.2.2.2.1, (Sum.inr (Sum.inl ())), (Sum.inr (Sum.inl ()))))) (Q1z (fun u29 : Unit => (some (y18.2, y18.1.1, y18.1.2.1, y18.1.2.2.1, y18.1.2.2.2.1, y18.1.2.2.2.2.1, y18.1.2.2.2.2.2.1, (Sum.inr (Sum.inl ())), (Sum.inr (Sum.inr (Sum.inl ())))))) (Q1z (fun u30 : Unit => (some (y18.2, y18.1.1, y18.1.2.1, y18.1.2.2.1, y18.1.2.2.2.1, y18.1.2.2.2.2.1, y18.1.2.2.2.2.2.1, (Sum.inr (Sum.inl ())), (Sum.inr (Sum.inr (Sum.inr (Sum.inl ()))))))) (Q1z (fun u31 : Unit => (some (y18.2, y18.1.1, y18.1.2.1, y18.1.2.2.1, y18.1.2.2.2.1, y18.1.2.2.2.2.1, y18.1.2.2.2.2.2.1, (Sum.inr (Sum.inl ())), (Sum.inr (Sum.inr (Sum.inr (Sum.inr (Sum.inl ())))))))) (fun u32 : Unit => (some (y18.2, y18.1.1, y18.1.2.1, y18.1.2.2.1, y18.1.2.2.2.1, y18.1.2.2.2.2.1, y18.1.2.2.2.2.2.1, (Sum.inr (Sum.inl ())), (Sum.inr (Sum.inr (Sum.inr (Sum.inr (Sum.inr ()))))))))))))) y18.1.2.2.2.2.2.2.2.1)) (Q1z (fun u33 : Unit => ((Q1z (fun u34 : Unit => (some (y18.2, y18.1.1, y18.1.2.1, y18.1.2.2.1, y18.1.2.2.2.1, y18.1.2.2.2.2.1, y18.1.2.2.2.2.2.1, (Sum.inr (Sum.inr (Sum.inl ()))), (Sum.inl ())))) (Q1z (fun u35 : Unit => (some (y18.2, y18.1.1, y18.1.2.1, y18.1.2.2.1, y18.1.2.2.2.1, y18.1.2.2.2.2.1, y18.1.2.2.2.2.2.1, (Sum.inr (Sum.inr (Sum.inl ()))), (Sum.inr (Sum.inl ()))))) (Q1z (fun u36 : Unit => (some (y18.2, y18.1.1, y18.1.2.1, y18.1.2.2.1, y18.1.2.2.2.1, y18.1.2.2.2.2.1, y18.1.2.2.2.2.2.1, (Sum.inr (Sum.inr (Sum.inl ()))), (Sum.inr (Sum.inr (Sum.inl ())))))) (Q1z (fun u37 : Unit => (some (y18.2, y18.1.1, y18.1.2.1, y18.1.2.2.1, y18.1.2.2.2.1, y18.1.2.2.2.2.1, y18.1.2.2.2.2.2.1, (Sum.inr (Sum.inr (Sum.inl ()))), (Sum.inr (Sum.inr (Sum.inr (Sum.inl ()))))))) (Q1z (fun u38 : Unit => (some (y18.2, y18.1.1, y18.1.2.1, y18.1.2.2.1, y18.1.2.2.2.1, y18.1.2.2.2.2.1, y18.1.2.2.2.2.2.1, (Sum.inr (Sum.inr (Sum.inl ()))), (Sum.inr (Sum.inr (Sum.inr (Sum.inr (Sum.inl ())))))))) (fun u39 : Unit => (some (y18.2, y18.1.1, y18.1.2.1, y18.1.2.2.1, y18.1.2.2.2.1, y18.1.2.2.2.2.1, y18.1.2.2.2.2.2.1, (Sum.inr (Sum.inr (Sum.inl ()))), (Sum.inr (Sum.inr (Sum.inr (Sum.inr (Sum.inr ()))))))))))))) y18.1.2.2.2.2.2.2.2.1)) (Q1z (fun u40 : Unit => ((Q1z (fun u41 : Unit => (some (y18.2, y18.1.1, y18.1.2.1, y18.1.2.2.1, y18.1.2.2.2.1, y18.1.2.2.2.2.1, y18.1.2.2.2.2.2.1, (Sum.inr (Sum.inr (Sum.inr (Sum.inl ())))), (Sum.inl ())))) (Q1z (fun u42 : Unit => (some (y18.2, y18.1.1, y18.1.2.1, y18.1.2.2.1, y18.1.2.2.2.1, y18.1.2.2.2.2.1, y18.1.2.2.2.2.2.1, (Sum.inr (Sum.inr (Sum.inr (Sum.inl ())))), (Sum.inr (Sum.inl ()))))) (Q1z (fun u43 : Unit => (some (y18.2, y18.1.1, y18.1.2.1, y18.1.2.2.1, y18.1.2.2.2.1, y18.1.2.2.2.2.1, y18.1.2.2.2.2.2.1, (Sum.inr (Sum.inr (Sum.inr (Sum.inl ())))), (Sum.inr (Sum.inr (Sum.inl ())))))) (Q1z (fun u44 : Unit => (some (y18.2, y18.1.1, y18.1.2.1, y18.1.2.2.1, y18.1.2.2.2.1, y18.1.2.2.2.2.1, y18.1.2.2.2.2.2.1, (Sum.inr (Sum.inr (Sum.inr (Sum.inl ())))), (Sum.inr (Sum.inr (Sum.inr (Sum.inl ()))))))) (Q1z (fun u45 : Unit => (some (y18.2, y18.1.1, y18.1.2.1, y18.1.2.2.1, y18.1.2.2.2.1, y18.1.2.2.2.2.1, y18.1.2.2.2.2.2.1, (Sum.inr (Sum.inr (Sum.inr (Sum.inl ())))), (Sum.inr (Sum.inr (Sum.inr (Sum.inr (Sum.inl ())))))))) (fun u46 : Unit => (some (y18.2, y18.1.1, y18.1.2.1, y18.1.2.2.1, y18.1.2.2.2.1, y18.1.2.2.2.2.1, y18.1.2.2.2.2.2.1, (Sum.inr (Sum.inr (Sum.inr (Sum.inl ())))), (Sum.inr (Sum.inr (Sum.inr (Sum.inr (Sum.inr ()))))))))))))) y18.1.2.2.2.2.2.2.2.1)) (Q1z (fun u47 : Unit => ((Q1z (fun u48 : Unit => (some (y18.2, y18.1.1, y18.1.2.1, y18.1.2.2.1, y18.1.2.2.2.1, y18.1.2.2.2.2.1, y18.1.2.2.2.2.2.1, (Sum.inr (Sum.inr (Sum.inr (Sum.inr (Sum.inl ()))))), (Sum.inl ())))) (Q1z (fun u49 : Unit => (some (y18.2, y18.1.1, y18.1.2.1, y18.1.2.2.1, y18.1.2.2.2.1, y18.1.2.2.2.2.1, y18.1.2.2.2.2.2.1, (Sum.inr (Sum.inr (Sum.inr (Sum.inr (Sum.inl ()))))), (Sum.inr (Sum.inl ()))))) (Q1z (fun u50 : Unit => (some (y18.2, y18.1.1, y18.1.2.1, y18.1.2.2.1, y18.1.2.2.2.1, y18.1.2.2.2.2.1, y18.1.2.2.2.2.2.1, (Sum.inr (Sum.inr (Sum.inr (Sum.inr (Sum.inl ()))))), (Sum.inr (Sum.inr (Sum.inl ())))))) (Q1z (fun u51 : Unit => (some (y18.2, y18.1.1, y18.1.2.1, y18.1.2.2.1, y18.1.2.2.2.1, y18.1.2.2.2.2.1, y18.1.2.2.2.2.2.1, (Sum.inr (Sum.inr (Sum.inr (Sum.inr (Sum.inl ()))))), (Sum.inr (Sum.inr (Sum.inr (Sum.inl ()))))))) (Q1z (fun u52 : Unit => (some (y18.2, y18.1.1, y18.1.2.1, y18.1.2.2.1, y18.1.2.2.2.1, y18.1.2.2.2.2.1, y18.1.2.2.2.2.2.1, (Sum.inr (Sum.inr (Sum.inr (Sum.inr (Sum.inl ()))))), (Sum.inr (Sum.inr (Sum.inr (Sum.inr (Sum.inl ())))))))) (fun u53 : Unit => (some (y18.2, y18.1.1, y18.1.2.1, y18.1.2.2.1, y18.1.2.2.2.1, y18.1.2.2.2.2.1, y18.1.2.2.2.2.2.1, (Sum.inr (Sum.inr (Sum.inr (Sum.inr (Sum.inl ()))))), (Sum.inr (Sum.inr (Sum.inr (Sum.inr (Sum.inr ()))))))))))))) y18.1.2.2.2.2.2.2.2.1)) (Q1z (fun u54 : Unit => ((Q1z (fun u55 : Unit => (some (y18.2, y18.1.1, y18.1.2.1, y18.1.2.2.1, y18.1.2.2.2.1, y18.1.2.2.2.2.1, y18.1.2.2.2.2.2.1, (Sum.inr (Sum.inr (Sum.inr (Sum.inr (Sum.inr (Sum.inl ())))))), (Sum.inl ())))) (Q1z (fun u56 : Unit => (some (y18.2, y18.1.1, y18.1.2.1, y18.1.2.2.1, y18.1.2.2.2.1, y18.1.2.2.2.2.1, y18.1.2.2.2.2.2.1, (Sum.inr (Sum.inr (Sum.inr (Sum.inr (Sum.inr (Sum.inl ())))))), (Sum.inr (Sum.inl ()))))) (Q1z (fun u57 : Unit => (some (y18.2, y18.1.1, y18.1.2.1, y18.1.2.2.1, y18.1.2.2.2.1, y18.1.2.2.2.2.1, y18.1.2.2.2.2.2.1, (Sum.inr (Sum.inr (Sum.inr (Sum.inr (Sum.inr (Sum.inl ())))))), (Sum.inr (Sum.inr (Sum.inl ())))))) (Q1z (fun u58 : Unit => (some (y18.2, y18.1.1, y18.1.2.1, y18.1.2.2.1, y18.1.2.2.2.1, y18.1.2.2.2.2.1, y18.1.2.2.2.2.2.1, (Sum.inr (Sum.inr (Sum.inr (Sum.inr (Sum.inr (Sum.inl ())))))), (Sum.inr (Sum.inr (Sum.inr (Sum.inl ()))))))) (Q1z (fun u59 : Unit => (some (y18.2, y18.1.1, y18.1.2.1, y18.1.2.2.1, y18.1.2.2.2.1, y18.1.2.2.2.2.1, y18.1.2.2.2.2.2.1, (Sum.inr (Sum.inr (Sum.inr (Sum.inr (Sum.inr (Sum.inl ())))))), (Sum.inr (Sum.inr (Sum.inr (Sum.inr (Sum.inl ())))))))) (fun u60 : Unit => (some (y18.2, y18.1.1, y18.1.2.1, y18.1.2.2.1, y18.1.2.2.2.1, y18.1.2.2.2.2.1, y18.1.2.2.2.2.2.1, (Sum.inr (Sum.inr (Sum.inr (Sum.inr (Sum.inr (Sum.inl ())))))), (Sum.inr (Sum.inr (Sum.inr (Sum.inr (Sum.inr ()))))))))))))) y18.1.2.2.2.2.2.2.2.1)) (Q1z (fun u61 : Unit => ((Q1z (fun u62 : Unit => (some (y18.2, y18.1.1, y18.1.2.1, y18.1.2.2.1, y18.1.2.2.2.1, y18.1.2.2.2.2.1, y18.1.2.2.2.2.2.1, (Sum.inr (Sum.inr (Sum.inr (Sum.inr (Sum.inr (Sum.inr (Sum.inl ()))))))), (Sum.inl ())))) (Q1z (fun u63 : Unit => (some (y18.2, y18.1.1, y18.1.2.1, y18.1.2.2.1, y18.1.2.2.2.1, y18.1.2.2.2.2.1, y18.1.2.2.2.2.2.1, (Sum.inr (Sum.inr (Sum.inr (Sum.inr (Sum.inr (Sum.inr (Sum.inl ()))))))), (Sum.inr (Sum.inl ()))))) (Q1z (fun u64 : Unit => (some (y18.2, y18.1.1, y18.1.2.1, y18.1.2.2.1, y18.1.2.2.2.1, y18.1.2.2.2.2.1, y18.1.2.2.2.2.2.1, (Sum.inr (Sum.inr (Sum.inr (Sum.inr (Sum.inr (Sum.inr (Sum.inl ()))))))), (Sum.inr (Sum.inr (Sum.inl ())))))) (Q1z (fun u65 : Unit => (some (y18.2, y18.1.1, y18.1.2.1, y18.1.2.2.1, y18.1.2.2.2.1, y18.1.2.2.2.2.1, y18.1.2.2.2.2.2.1, (Sum.inr (Sum.inr (Sum.inr (Sum.inr (Sum.inr (Sum.inr (Sum.inl ()))))))), (Sum.inr (Sum.inr (Sum.inr (Sum.inl ()))))))) (Q1z (fun u66 : Unit => (some (y18.2, y18.1.1, y18.1.2.1, y18.1.2.2.1, y18.1.2.2.2.1, y18.1.2.2.2.2.1, y18.1.2.2.2.2.2.1, (Sum.inr (Sum.inr (Sum.inr (Sum.inr (Sum.inr (Sum.inr (Sum.inl ()))))))), (Sum.inr (Sum.inr (Sum.inr (Sum.inr (Sum.inl ())))))))) (fun u67 : Unit => (some (y18.2, y18.1.1, y18.1.2.1, y18.1.2.2.1, y18.1.2.2.2.1, y18.1.2.2.2.2.1, y18.1.2.2.2.2.2.1, (Sum.inr (Sum.inr (Sum.inr (Sum.inr (Sum.inr (Sum.inr (Sum.inl ()))))))), (Sum.inr (Sum.inr (Sum.inr (Sum.inr (Sum.inr ()))))))))))))) y18.1.2.2.2.2.2.2.2.1)) (Q1z (fun u68 : Unit => ((Q1z (fun u69 : Unit => (some (y18.2, y18.1.1, y18.1.2.1, y18.1.2.2.1, y18.1.2.2.2.1, y18.1.2.2.2.2.1, y18.1.2.2.2.2.2.1, (Sum.inr (Sum.inr (Sum.inr (Sum.inr (Sum.inr (Sum.inr (Sum.inr (Sum.inl ())))))))), (Sum.inl ())))) (Q1z (fun u70 : Unit => (some (y18.2, y18.1.1, y18.1.2.1, y18.1.2.2.1, y18.1.2.2.2.1, y18.1.2.2.2.2.1, y18.1.2.2.2.2.2.1, (Sum.inr (Sum.inr (Sum.inr (Sum.inr (Sum.inr (Sum.inr (Sum.inr (Sum.inl ())))))))), (Sum.inr (Sum.inl ()))))) (Q1z (fun u71 : Unit => (some (y18.2, y18.1.1, y18.1.2.1, y18.1.2.2.1, y18.1.2.2.2.1, y18.1.2.2.2.2.1, y18.1.2.2.2.2.2.1, (Sum.inr (Sum.inr (Sum.inr (Sum.inr (Sum.inr (Sum.inr (Sum.inr (Sum.inl ())))))))), (Sum.inr (Sum.inr (Sum.inl ())))))) (Q1z (fun u72 : Unit => (some (y18.2, y18.1.1, y18.1.2.1, y18.1.2.2.1, y18.1.2.2.2.1, y18.1.2.2.2.2.1, y18.1.2.2.2.2.2.1, (Sum.inr (Sum.inr (Sum.inr (Sum.inr (Sum.inr (Sum.inr (Sum.inr (Sum.inl ())))))))), (Sum.inr (Sum.inr (Sum.inr (Sum.inl ()))))))) (Q1z (fun u73 : Unit => (some (y18.2, y18.1.1, y18.1.2.1, y18.1.2.2.1, y18.1.2.2.2.1, y18.1.2.2.2.2.1, y18.1.2.2.2.2.2.1, (Sum.inr (Sum.inr (Sum.inr (Sum.inr (Sum.inr (Sum.inr (Sum.inr (Sum.inl ())))))))), (Sum.inr (Sum.inr (Sum.inr (Sum.inr (Sum.inl ())))))))) (fun u74 : Unit => (some (y18.2, y18.1.1, y18.1.2.1, y18.1.2.2.1, y18.1.2.2.2.1, y18.1.2.2.2.2.1, y18.1.2.2.2.2.2.1, (Sum.inr (Sum.inr (Sum.inr (Sum.inr (Sum.inr (Sum.inr (Sum.inr (Sum.inl ())))))))), (Sum.inr (Sum.inr (Sum.inr (Sum.inr (Sum.inr ()))))))))))))) y18.1.2.2.2.2.2.2.2.1)) (fun u75 : Unit => ((Q1z (fun u76 : Unit => (some (y18.2, y18.1.1, y18.1.2.1, y18.1.2.2.1, y18.1.2.2.2.1, y18.1.2.2.2.2.1, y18.1.2.2.2.2.2.1, (Sum.inr (Sum.inr (Sum.inr (Sum.inr (Sum.inr (Sum.inr (Sum.inr (Sum.inr ())))))))), (Sum.inl ())))) (Q1z (fun u77 : Unit => (some (y18.2, y18.1.1, y18.1.2.1, y18.1.2.2.1, y18.1.2.2.2.1, y18.1.2.2.2.2.1, y18.1.2.2.2.2.2.1, (Sum.inr (Sum.inr (Sum.inr (Sum.inr (Sum.inr (Sum.inr (Sum.inr (Sum.inr ())))))))), (Sum.inr (Sum.inl ()))))) (Q1z (fun u78 : Unit => (some (y18.2, y18.1.1, y18.1.2.1, y18.1.2.2.1, y18.1.2.2.2.1, y18.1.2.2.2.2.1, y18.1.2.2.2.2.2.1, (Sum.inr (Sum.inr (Sum.inr (Sum.inr (Sum.inr (Sum.inr (Sum.inr (Sum.inr ())))))))), (Sum.inr (Sum.inr (Sum.inl ())))))) (Q1z (fun u79 : Unit => (some (y18.2, y18.1.1, y18.1.2.1, y18.1.2.2.1, y18.1.2.2.2.1, y18.1.2.2.2.2.1, y18.1.2.2.2.2.2.1, (Sum.inr (Sum.inr (Sum.inr (Sum.inr (Sum.inr (Sum.inr (Sum.inr (Sum.inr ())))))))), (Sum.inr (Sum.inr (Sum.inr (Sum.inl ()))))))) (Q1z (fun u80 : Unit => (some (y18.2, y18.1.1, y18.1.2.1, y18.1.2.2.1, y18.1.2.2.2.1, y18.1.2.2.2.2.1, y18.1.2.2.2.2.2.1, (Sum.inr (Sum.inr (Sum.inr (Sum.inr (Sum.inr (Sum.inr (Sum.inr (Sum.inr ())))))))), (Sum.inr (Sum.inr (Sum.inr (Sum.inr (Sum.inl ())))))))) (fun u81 : Unit => (some (y18.2, y18.1.1, y18.1.2.1, y18.1.2.2.1, y18.1.2.2.2.1, y18.1.2.2.2.2.1, y18.1.2.2.2.2.2.1, (Sum.inr (Sum.inr (Sum.inr (Sum.inr (Sum.inr (Sum.inr (Sum.inr (Sum.inr ())))))))), (Sum.inr (Sum.inr (Sum.inr (Sum.inr (Sum.inr ()))))))))))))) y18.1.2.2.2.2.2.2.2.1)))))))))) y18.1.2.2.2.2.2.2.1)))
abbrev S33_0 : St := ⟨[(1, rl Q2n in_), (2, rC a01 n_), (4, rF 0), (6, rF 1), (7, rb y82.1)], [[di 0, di 0, di 0, di 0], [di y82.2.1, db y82.2.2.1, db y82.2.2.2.1, db y82.2.2.2.2.1, db y82.2.2.2.2.2.1, db y82.2.2.2.2.2.2.1, Ps.enc Z2 y82.2.2.2.2.2.2.2.1, Ps.enc Z0 y82.2.2.2.2.2.2.2.2]], [], 90⟩
theorem c7r : P33 2 C33 ⟨[(0, rA a01 n_), (1, rl Q2n in_)], [], [], 90⟩ k = Option.bind (b0a n_) (fun y82 : U15 => k (S33_0 n_ in_ y82)) := .trans (by kernel_rfl) (Q0d fun y18 => ((Q0g (fun u19 => ((Q0g (fun u20 => Q0b) (Q0g (fun u21 => Q0b) (Q0g (fun u22 => Q0b) (Q0g (fun u23 => Q0b) (Q0g (fun u24 => Q0b) (fun u25 => Q0b)))))) y18.1.2.2.2.2.2.2.2.1)) (Q0g (fun u26 => ((Q0g (fun u27 => Q0b) (Q0g (fun u28 => Q0b) (Q0g (fun u29 => Q0b) (Q0g (fun u30 => Q0b) (Q0g (fun u31 => Q0b) (fun u32 => Q0b)))))) y18.1.2.2.2.2.2.2.2.1)) (Q0g (fun u33 => ((Q0g (fun u34 => Q0b) (Q0g (fun u35 => Q0b) (Q0g (fun u36 => Q0b) (Q0g (fun u37 => Q0b) (Q0g (fun u38 => Q0b) (fun u39 => Q0b)))))) y18.1.2.2.2.2.2.2.2.1)) (Q0g (fun u40 => ((Q0g (fun u41 => Q0b) (Q0g (fun u42 => Q0b) (Q0g (fun u43 => Q0b) (Q0g (fun u44 => Q0b) (Q0g (fun u45 => Q0b) (fun u46 => Q0b)))))) y18.1.2.2.2.2.2.2.2.1)) (Q0g (fun u47 => ((Q0g (fun u48 => Q0b) (Q0g (fun u49 => Q0b) (Q0g (fun u50 => Q0b) (Q0g (fun u51 => Q0b) (Q0g (fun u52 => Q0b) (fun u53 => Q0b)))))) y18.1.2.2.2.2.2.2.2.1)) (Q0g (fun u54 => ((Q0g (fun u55 => Q0b) (Q0g (fun u56 => Q0b) (Q0g (fun u57 => Q0b) (Q0g (fun u58 => Q0b) (Q0g (fun u59 => Q0b) (fun u60 => Q0b)))))) y18.1.2.2.2.2.2.2.2.1)) (Q0g (fun u61 => ((Q0g (fun u62 => Q0b) (Q0g (fun u63 => Q0b) (Q0g (fun u64 => Q0b) (Q0g (fun u65 => Q0b) (Q0g (fun u66 => Q0b) (fun u67 => Q0b)))))) y18.1.2.2.2.2.2.2.2.1)) (Q0g (fun u68 => ((Q0g (fun u69 => Q0b) (Q0g (fun u70 => Q0b) (Q0g (fun u71 => Q0b) (Q0g (fun u72 => Q0b) (Q0g (fun u73 => Q0b) (fun u74 => Q0b)))))) y18.1.2.2.2.2.2.2.2.1)) (fun u75 => ((Q0g (fun u76 => Q0b) (Q0g (fun u77 => Q0b) (Q0g (fun u78 => Q0b) (Q0g (fun u79 => Q0b) (Q0g (fun u80 => Q0b) (fun u81 => Q0b)))))) y18.1.2.2.2.2.2.2.2.1)))))))))) y18.1.2.2.2.2.2.2.1))
def b0b (K : Bool → β) : β := (bif (!y82.1) then (K true) else (K (!(a4b y82.2.1 y82.2.2.1 y82.2.2.2.1 y82.2.2.2.2.1 y82.2.2.2.2.2.1 y82.2.2.2.2.2.2.1 y82.2.2.2.2.2.2.2.1 y82.2.2.2.2.2.2.2.2 n_ in_))))
def a2x : Bool := b0b n_ in_ y82 (fun y => y)
theorem c39 (K : Bool → β) : b0b n_ in_ y82 K = K (a2x n_ in_ y82) := (Q2h K rfl rfl)
theorem c7s : P33 1 C33.r.r.l (S33_0 n_ in_ y82) k = k ⟨[(1, rl Q2n in_), (2, rC a01 n_), (4, rF 0), (6, rF 1), (25, rb (a2x n_ in_ y82))], [[di 0, di 0, di 0, di 0], [di y82.2.1, db y82.2.2.1, db y82.2.2.2.1, db y82.2.2.2.2.1, db y82.2.2.2.2.2.1, db y82.2.2.2.2.2.2.1, Ps.enc Z2 y82.2.2.2.2.2.2.2.1, Ps.enc Z0 y82.2.2.2.2.2.2.2.2]], [], 90⟩ := Eq.trans (by (rcases y82 with ⟨_, _, _, _, _, _, _, (_ | _ | _ | _ | _ | _ | _ | _ | _), (_ | _ | _ | _ | _ | _)⟩ <;> kernel_rfl)) (c39 n_ in_ y82 (fun y97 : Bool => k ⟨[(1, rl Q2n in_), (2, rC a01 n_), (4, rF 0), (6, rF 1), (25, rb y97)], [[di 0, di 0, di 0, di 0], [di y82.2.1, db y82.2.2.1, db y82.2.2.2.1, db y82.2.2.2.2.1, db y82.2.2.2.2.2.1, db y82.2.2.2.2.2.2.1, Ps.enc Z2 y82.2.2.2.2.2.2.2.1, Ps.enc Z0 y82.2.2.2.2.2.2.2.2]], [], 90⟩))
abbrev S33_1 : St := ⟨[(1, rl Q2n in_), (2, rC a01 n_), (4, rF 0), (6, rF 1)], [[di 0, di 0, di 0, di 0], [di y82.2.1, db y82.2.2.1, db y82.2.2.2.1, db y82.2.2.2.2.1, db y82.2.2.2.2.2.1, db y82.2.2.2.2.2.2.1, Ps.enc Z2 y82.2.2.2.2.2.2.2.1, Ps.enc Z0 y82.2.2.2.2.2.2.2.2]], [], 90⟩
abbrev S33_2 : St := ⟨[(4, rF 0), (5, ri 11)], [[di 0, di 0, di 0, di 0], []], [], 90⟩
theorem c7p : P33 1 C33.r.r.l.r.t (S33_1 n_ in_ y82) k = k S33_2 := by (rcases y82 with ⟨_, _, _, _, _, _, _, (_ | _ | _ | _ | _ | _ | _ | _ | _), (_ | _ | _ | _ | _ | _)⟩ <;> kernel_rfl)
def b0c : Option Bool := (bif y82.2.2.2.2.2.2.1 then (Option.bind (a0v in_ n_) (fun y117 : Bool => (some y117))) else (some false))
theorem c7t : P33 1 C33.r.r.r.l (S33_1 n_ in_ y82) k = Option.bind (b0c n_ in_ y82) (fun y118 : Bool => k ⟨[(1, rl Q2n in_), (2, rC a01 n_), (4, rF 0), (6, rF 1), (33, rb y118)], [[di 0, di 0, di 0, di 0], [di y82.2.1, db y82.2.2.1, db y82.2.2.2.1, db y82.2.2.2.2.1, db y82.2.2.2.2.2.1, db y82.2.2.2.2.2.2.1, Ps.enc Z2 y82.2.2.2.2.2.2.2.1, Ps.enc Z0 y82.2.2.2.2.2.2.2.2]], [], 90⟩) := .trans (by (rcases y82 with ⟨_, _, _, _, _, _, _, (_ | _ | _ | _ | _ | _ | _ | _ | _), (_ | _ | _ | _ | _ | _)⟩ <;> kernel_rfl)) (Q2b (Q0d fun y117 => Q0b) Q0b)
theorem c34 : P33 1 C33.r.r.r.l.r.t (S33_1 n_ in_ y82) k = k S33_2 := by (rcases y82 with ⟨_, _, _, _, _, _, _, (_ | _ | _ | _ | _ | _ | _ | _ | _), (_ | _ | _ | _ | _ | _)⟩ <;> kernel_rfl)
theorem c7u : P33 1 C33.r.r.r.r.l (S33_1 n_ in_ y82) k = Option.bind (a0k in_) fun y175 : Bool => k ⟨[(1, rl Q2n in_), (2, rC a01 n_), (4, rF 0), (6, rF 1), (36, rb y175)], [[di 0, di 0, di 0, di 0], [di y82.2.1, db y82.2.2.1, db y82.2.2.2.1, db y82.2.2.2.2.1, db y82.2.2.2.2.2.1, db y82.2.2.2.2.2.2.1, Ps.enc Z2 y82.2.2.2.2.2.2.2.1, Ps.enc Z0 y82.2.2.2.2.2.2.2.2]], [], 90⟩ := by (rcases y82 with ⟨_, _, _, _, _, _, _, (_ | _ | _ | _ | _ | _ | _ | _ | _), (_ | _ | _ | _ | _ | _)⟩ <;> kernel_rfl)
theorem c35 : P33 1 C33.r.r.r.r.l.r.t (S33_1 n_ in_ y82) k = k ⟨[(4, rF 0), (5, ri 10)], [[di 0, di 0, di 0, di 0], []], [], 90⟩ := by (rcases y82 with ⟨_, _, _, _, _, _, _, (_ | _ | _ | _ | _ | _ | _ | _ | _), (_ | _ | _ | _ | _ | _)⟩ <;> kernel_rfl)
def b0d : Option (Int × Int × Int) := (bif (decide ((0 : Int) < (in_.length : Int))) then (bif (decide ((0 : Int) ≤ (IntKind.wrap .i64 ((in_.length : Int) - 1)))) then (bif (decide ((IntKind.wrap .i64 ((in_.length : Int) - 1)) < (in_.length : Int))) then ((Q1z (fun u176 : Unit => (some (a8n n_ ((gt in_ (0 : Int) dI4).1, (gt in_ (0 : Int) dI4).2.1, (gt in_ (0 : Int) dI4).2.2.1) ((gt in_ (IntKind.wrap .i64 ((in_.length : Int) - 1)) dI4).1, (gt in_ (IntKind.wrap .i64 ((in_.length : Int) - 1)) dI4).2.1, (gt in_ (IntKind.wrap .i64 ((in_.length : Int) - 1)) dI4).2.2.1)))) (Q1z (fun u177 : Unit => (Option.bind (b5r n_ ((gt in_ (0 : Int) dI4).1, (gt in_ (0 : Int) dI4).2.1, (gt in_ (0 : Int) dI4).2.2.1) ((gt in_ (IntKind.wrap .i64 ((in_.length : Int) - 1)) dI4).1, (gt in_ (IntKind.wrap .i64 ((in_.length : Int) - 1)) dI4).2.1, (gt in_ (IntKind.wrap .i64 ((in_.length : Int) - 1)) dI4).2.2.1)) (fun y191 : I3 => (some y191)))) (Q1z (fun u192 : Unit => (Option.bind (b0k n_ ((gt in_ (0 : Int) dI4).1, (gt in_ (0 : Int) dI4).2.1, (gt in_ (0 : Int) dI4).2.2.1) ((gt in_ (IntKind.wrap .i64 ((in_.length : Int) - 1)) dI4).1, (gt in_ (IntKind.wrap .i64 ((in_.length : Int) - 1)) dI4).2.1, (gt in_ (IntKind.wrap .i64 ((in_.length : Int) - 1)) dI4).2.2.1)) (fun y194 : I3 => (some y194)))) (Q1z (fun u195 : Unit => (some (a9u n_ ((gt in_ (0 : Int) dI4).1, (gt in_ (0 : Int) dI4).2.1, (gt in_ (0 : Int) dI4).2.2.1) ((gt in_ (IntKind.wrap .i64 ((in_.length : Int) - 1)) dI4).1, (gt in_ (IntKind.wrap .i64 ((in_.length : Int) - 1)) dI4).2.1, (gt in_ (IntKind.wrap .i64 ((in_.length : Int) - 1)) dI4).2.2.1)))) (Q1z (fun u196 : Unit => (some (a9x n_ ((gt in_ (0 : Int) dI4).1, (gt in_ (0 : Int) dI4).2.1, (gt in_ (0 : Int) dI4).2.2.1) ((gt in_ (IntKind.wrap .i64 ((in_.length : Int) - 1)) dI4).1, (gt in_ (IntKind.wrap .i64 ((in_.length : Int) - 1)) dI4).2.1, (gt in_ (IntKind.wrap .i64 ((in_.length : Int) - 1)) dI4).2.2.1)))) (Q1z (fun u197 : Unit => (some (a9v n_ ((gt in_ (0 : Int) dI4).1, (gt in_ (0 : Int) dI4).2.1, (gt in_ (0 : Int) dI4).2.2.1) ((gt in_ (IntKind.wrap .i64 ((in_.length : Int) - 1)) dI4).1, (gt in_ (IntKind.wrap .i64 ((in_.length : Int) - 1)) dI4).2.1, (gt in_ (IntKind.wrap .i64 ((in_.length : Int) - 1)) dI4).2.2.1)))) (Q1z (fun u198 : Unit => (some (a6h n_ ((gt in_ (0 : Int) dI4).1, (gt in_ (0 : Int) dI4).2.1, (gt in_ (0 : Int) dI4).2.2.1) ((gt in_ (IntKind.wrap .i64 ((in_.length : Int) - 1)) dI4).1, (gt in_ (IntKind.wrap .i64 ((in_.length : Int) - 1)) dI4).2.1, (gt in_ (IntKind.wrap .i64 ((in_.length : Int) - 1)) dI4).2.2.1)))) (Q1z (fun u201 : Unit => (Option.bind (b5n n_ ((gt in_ (0 : Int) dI4).1, (gt in_ (0 : Int) dI4).2.1, (gt in_ (0 : Int) dI4).2.2.1) ((gt in_ (IntKind.wrap .i64 ((in_.length : Int) - 1)) dI4).1, (gt in_ (IntKind.wrap .i64 ((in_.length : Int) - 1)) dI4).2.1, (gt in_ (IntKind.wrap .i64 ((in_.length : Int) - 1)) dI4).2.2.1)) (fun y211 : I3 => (some y211)))) (fun u212 : Unit => none))))))))) y82.2.2.2.2.2.2.2.1) else none) else none) else none)
abbrev S33_3 : St := ⟨[(1, rl Q2n in_), (2, rC a01 n_), (4, rF 0), (6, rF 1), (8, rF 2)], [[di 0, di 0, di 0, di 0], [di y82.2.1, db y82.2.2.1, db y82.2.2.2.1, db y82.2.2.2.2.1, db y82.2.2.2.2.2.1, db y82.2.2.2.2.2.2.1, Ps.enc Z2 y82.2.2.2.2.2.2.2.1, Ps.enc Z0 y82.2.2.2.2.2.2.2.2], (Q2o.leaves y213)], [], 90⟩
theorem c7v : P33 1 C33.r.r.r.r.r (S33_1 n_ in_ y82) k = Option.bind (b0d n_ in_ y82) (fun y213 : (Int × Int × Int) => k (S33_3 n_ in_ y82 y213)) := .trans (by (rcases y82 with ⟨_, _, _, _, _, _, _, (_ | _ | _ | _ | _ | _ | _ | _ | _), (_ | _ | _ | _ | _ | _)⟩ <;> kernel_rfl)) (Q2b (Q2b (Q2b ((Q0g (fun u176 => Q0b) (Q0g (fun u177 => (Q0d fun y191 => Q0b)) (Q0g (fun u192 => (Q0d fun y194 => Q0b)) (Q0g (fun u195 => Q0b) (Q0g (fun u196 => Q0b) (Q0g (fun u197 => Q0b) (Q0g (fun u198 => Q0b) (Q0g (fun u201 => (Q0d fun y211 => Q0b)) (fun u212 => Q0n))))))))) y82.2.2.2.2.2.2.2.1) Q0n) Q0n) Q0n)
theorem c7w : P33 1 C33.r.r.r.r.r.r.l (S33_3 n_ in_ y82 y213) k = Option.bind (a6d y213) fun y215 : Int => k ⟨[(1, rl Q2n in_), (2, rC a01 n_), (4, rF 0), (6, rF 1), (8, rF 2), (55, rb (y215 != 0))], [[di 0, di 0, di 0, di 0], [di y82.2.1, db y82.2.2.1, db y82.2.2.2.1, db y82.2.2.2.2.1, db y82.2.2.2.2.2.1, db y82.2.2.2.2.2.2.1, Ps.enc Z2 y82.2.2.2.2.2.2.2.1, Ps.enc Z0 y82.2.2.2.2.2.2.2.2], (Q2o.leaves y213)], [], 90⟩ := by (rcases y82 with ⟨_, _, _, _, _, _, _, (_ | _ | _ | _ | _ | _ | _ | _ | _), (_ | _ | _ | _ | _ | _)⟩ <;> kernel_rfl)
theorem c36 : P33 1 C33.r.r.r.r.r.r.l.r.t (S33_3 n_ in_ y82 y213) k = k ⟨[(4, rF 0), (5, ri 10)], [[di 0, di 0, di 0, di 0], [], []], [], 90⟩ := by (rcases y82 with ⟨_, _, _, _, _, _, _, (_ | _ | _ | _ | _ | _ | _ | _ | _), (_ | _ | _ | _ | _ | _)⟩ <;> kernel_rfl)
def a9b : Option (Int × Int) := (bif (decide ((0 : Int) < (in_.length : Int))) then ((Q1z (fun u216 : Unit => (some (a9r n_ ((gt in_ (0 : Int) dI4).1, (gt in_ (0 : Int) dI4).2.1, (gt in_ (0 : Int) dI4).2.2.1)))) (Q1z (fun u217 : Unit => (some (a9s n_ ((gt in_ (0 : Int) dI4).1, (gt in_ (0 : Int) dI4).2.1, (gt in_ (0 : Int) dI4).2.2.1)))) (Q1z (fun u219 : Unit => (some (a9t n_ ((gt in_ (0 : Int) dI4).1, (gt in_ (0 : Int) dI4).2.1, (gt in_ (0 : Int) dI4).2.2.1)))) (Q1z (fun u220 : Unit => (Option.bind (b5s n_ ((gt in_ (0 : Int) dI4).1, (gt in_ (0 : Int) dI4).2.1, (gt in_ (0 : Int) dI4).2.2.1)) (fun y222 : (Int × Int) => (some y222)))) (Q1z (fun u223 : Unit => (some (a9w n_ ((gt in_ (0 : Int) dI4).1, (gt in_ (0 : Int) dI4).2.1, (gt in_ (0 : Int) dI4).2.2.1)))) (fun u224 : Unit => none)))))) y82.2.2.2.2.2.2.2.2) else none)
abbrev S33_4 : St := ⟨[(2, rC a01 n_), (4, rF 0), (8, rF 2), (9, ri y225.1), (10, ri y225.2)], [[di 0, di 0, di 0, di 0], [], (Q2o.leaves y213)], [], 90⟩
theorem c55 : P33 1 C33.r.r.r.r.r.r.r (S33_3 n_ in_ y82 y213) k = Option.bind (a9b n_ in_ y82) (fun y225 : (Int × Int) => k (S33_4 n_ y213 y225)) := .trans (by (rcases y82 with ⟨_, _, _, _, _, _, _, (_ | _ | _ | _ | _ | _ | _ | _ | _), (_ | _ | _ | _ | _ | _)⟩ <;> kernel_rfl)) (Q2b ((Q0g (fun u216 => Q0b) (Q0g (fun u217 => Q0b) (Q0g (fun u219 => Q0b) (Q0g (fun u220 => (Q0d fun y222 => Q0b)) (Q0g (fun u223 => Q0b) (fun u224 => Q0n)))))) y82.2.2.2.2.2.2.2.2) Q0n)
def a9c : Option Bool := (bif ((n_.2.2.2.2.2.2.2.2.2.2.2.2.1.length : Int) != y225.1) then (some true) else (bif ((n_.2.2.2.2.2.2.2.2.2.2.2.2.2.length : Int) != y225.2) then (some true) else (Option.bind (a1c n_.2.2.2.2.2.2.2.2.2.2.2.2.2) (fun y245 : Bool => (some y245)))))
theorem c56 : P33 1 C33.r.r.r.r.r.r.r.r.l (S33_4 n_ y213 y225) k = Option.bind (a9c n_ y225) (fun y246 : Bool => k ⟨[(2, rC a01 n_), (4, rF 0), (8, rF 2), (84, rb y246)], [[di 0, di 0, di 0, di 0], [], (Q2o.leaves y213)], [], 90⟩) := .trans (by kernel_rfl) (Q2b Q0b (Q2b Q0b (Q0d fun y245 => Q0b)))
abbrev S33_5 : St := ⟨[(2, rC a01 n_), (4, rF 0), (8, rF 2)], [[di 0, di 0, di 0, di 0], [], (Q2o.leaves y213)], [], 90⟩
theorem c37 : P33 1 C33.r.r.r.r.r.r.r.r.l.r.t (S33_5 n_ y213) k = k ⟨[(4, rF 0), (5, ri 12)], [[di 0, di 0, di 0, di 0], [], []], [], 90⟩ := by kernel_rfl
theorem c38 : P33 1 C33.r.r.r.r.r.r.r.r.r (S33_5 n_ y213) k = k ⟨[(4, rF 0), (5, ri 0)], [[di y213.1, di y213.2.1, di y213.2.2, di n_.2.2.2.2.2.2.2.2.1], [], []], [], 90⟩ := by kernel_rfl
def a1z : Option (I4 × Int) := (Option.bind (b0a n_) (fun y82 : U15 => (bif (a2x n_ in_ y82) then (some (((0 : Int), (0 : Int), (0 : Int), (0 : Int)), (11 : Int))) else (Option.bind (b0c n_ in_ y82) (fun y118 : Bool => (bif y118 then (some (((0 : Int), (0 : Int), (0 : Int), (0 : Int)), (11 : Int))) else (Option.bind (a0k in_) (fun y175 : Bool => (bif y175 then (some (((0 : Int), (0 : Int), (0 : Int), (0 : Int)), (10 : Int))) else (Option.bind (b0d n_ in_ y82) (fun y213 : (Int × Int × Int) => (Option.bind (a6d y213) (fun y215 : Int => (bif (y215 != 0) then (some (((0 : Int), (0 : Int), (0 : Int), (0 : Int)), (10 : Int))) else (Option.bind (a9b n_ in_ y82) (fun y225 : (Int × Int) => (Option.bind (a9c n_ y225) (fun y246 : Bool => (bif y246 then (some (((0 : Int), (0 : Int), (0 : Int), (0 : Int)), (12 : Int))) else (some ((y213.1, y213.2.1, y213.2.2, n_.2.2.2.2.2.2.2.2.1), (0 : Int))))))))))))))))))))))
theorem c7q : Q2j E cp33 noE 22 [rA a01 n_, rl Q2n in_] = Option.bind (a1z n_ in_) (fun y : (I4 × Int) => some (.tup [rA Q2n y.1, ri y.2] : R)) := by
  refine .trans ?_ (Q0d fun y82 => (Q2b Q0b (Q0d fun y118 => (Q2b Q0b (Q0d fun y175 => (Q2b Q0b (Q0d fun y213 => (Q0d fun y215 => (Q2b Q0b (Q0d fun y225 => (Q0d fun y246 => (Q2b Q0b Q0b))))))))))))
  refine (Q0l (nt := 90) (regs := [(0, rA a01 n_), (1, rl Q2n in_)])).trans ?_
  refine (pre2 (c7r n_ in_ _)).trans (Q0e fun y82 => ?_)
  refine .trans Q0c ?_
  refine (Q2d (c7s n_ in_ y82 _)).trans ?_
  refine (Q0m (b := (a2x n_ in_ y82)) (st' := (S33_1 n_ in_ y82)) (hs := by (rcases y82 with ⟨_, _, _, _, _, _, _, (_ | _ | _ | _ | _ | _ | _ | _ | _), (_ | _ | _ | _ | _ | _)⟩ <;> kernel_rfl))).trans (Q2f ?_ ?_)
  · refine (Q2d (c7p n_ in_ y82 _)).trans ?_
    refine (Q0h).trans ?_
    refine Q0k.trans ?_
    (rcases y82 with ⟨_, _, _, _, _, _, _, (_ | _ | _ | _ | _ | _ | _ | _ | _), (_ | _ | _ | _ | _ | _)⟩ <;> kernel_rfl)
  · refine (Q0i).trans ?_
    refine (Q0a (st' := (S33_1 n_ in_ y82)) (hs := by (rcases y82 with ⟨_, _, _, _, _, _, _, (_ | _ | _ | _ | _ | _ | _ | _ | _), (_ | _ | _ | _ | _ | _)⟩ <;> kernel_rfl))).trans ?_
    refine .trans Q0c ?_
    refine (Q2d (c7t n_ in_ y82 _)).trans (Q0e fun y118 => ?_)
    refine (Q0m (b := y118) (st' := (S33_1 n_ in_ y82)) (hs := by (rcases y82 with ⟨_, _, _, _, _, _, _, (_ | _ | _ | _ | _ | _ | _ | _ | _), (_ | _ | _ | _ | _ | _)⟩ <;> kernel_rfl))).trans (Q2f ?_ ?_)
    · refine (Q2d (c34 n_ in_ y82 _)).trans ?_
      refine (Q0h).trans ?_
      refine Q0k.trans ?_
      (rcases y82 with ⟨_, _, _, _, _, _, _, (_ | _ | _ | _ | _ | _ | _ | _ | _), (_ | _ | _ | _ | _ | _)⟩ <;> kernel_rfl)
    · refine (Q0i).trans ?_
      refine (Q0a (st' := (S33_1 n_ in_ y82)) (hs := by (rcases y82 with ⟨_, _, _, _, _, _, _, (_ | _ | _ | _ | _ | _ | _ | _ | _), (_ | _ | _ | _ | _ | _)⟩ <;> kernel_rfl))).trans ?_
      refine .trans Q0c ?_
      refine (Q2d (c7u n_ in_ y82 _)).trans (Q0e fun y175 => ?_)
      refine (Q0m (b := y175) (st' := (S33_1 n_ in_ y82)) (hs := by (rcases y82 with ⟨_, _, _, _, _, _, _, (_ | _ | _ | _ | _ | _ | _ | _ | _), (_ | _ | _ | _ | _ | _)⟩ <;> kernel_rfl))).trans (Q2f ?_ ?_)
      · refine (Q2d (c35 n_ in_ y82 _)).trans ?_
        refine (Q0h).trans ?_
        refine Q0k.trans ?_
        (rcases y82 with ⟨_, _, _, _, _, _, _, (_ | _ | _ | _ | _ | _ | _ | _ | _), (_ | _ | _ | _ | _ | _)⟩ <;> kernel_rfl)
      · refine (Q0i).trans ?_
        refine (Q0a (st' := (S33_1 n_ in_ y82)) (hs := by (rcases y82 with ⟨_, _, _, _, _, _, _, (_ | _ | _ | _ | _ | _ | _ | _ | _), (_ | _ | _ | _ | _ | _)⟩ <;> kernel_rfl))).trans ?_
        refine (Q2d (c7v n_ in_ y82 _)).trans (Q0e fun y213 => ?_)
        refine .trans Q0c ?_
        refine (Q2d (c7w n_ in_ y82 y213 _)).trans (Q0e fun y215 => ?_)
        refine (Q0m (b := (y215 != 0)) (st' := (S33_3 n_ in_ y82 y213)) (hs := by (rcases y82 with ⟨_, _, _, _, _, _, _, (_ | _ | _ | _ | _ | _ | _ | _ | _), (_ | _ | _ | _ | _ | _)⟩ <;> kernel_rfl))).trans (Q2f ?_ ?_)
        · refine (Q2d (c36 n_ in_ y82 y213 _)).trans ?_
          refine (Q0h).trans ?_
          refine Q0k.trans ?_
          (rcases y82 with ⟨_, _, _, _, _, _, _, (_ | _ | _ | _ | _ | _ | _ | _ | _), (_ | _ | _ | _ | _ | _)⟩ <;> kernel_rfl)
        · refine (Q0i).trans ?_
          refine (Q0a (st' := (S33_3 n_ in_ y82 y213)) (hs := by (rcases y82 with ⟨_, _, _, _, _, _, _, (_ | _ | _ | _ | _ | _ | _ | _ | _), (_ | _ | _ | _ | _ | _)⟩ <;> kernel_rfl))).trans ?_
          refine (Q2d (c55 n_ in_ y82 y213 _)).trans (Q0e fun y225 => ?_)
          refine .trans Q0c ?_
          refine (Q2d (c56 n_ y213 y225 _)).trans (Q0e fun y246 => ?_)
          refine (Q0m (b := y246) (st' := (S33_5 n_ y213)) (hs := by (rcases y82 with ⟨_, _, _, _, _, _, _, (_ | _ | _ | _ | _ | _ | _ | _ | _), (_ | _ | _ | _ | _ | _)⟩ <;> kernel_rfl))).trans (Q2f ?_ ?_)
          · refine (Q2d (c37 n_ y213 _)).trans ?_
            refine (Q0h).trans ?_
            refine Q0k.trans ?_
            (rcases y82 with ⟨_, _, _, _, _, _, _, (_ | _ | _ | _ | _ | _ | _ | _ | _), (_ | _ | _ | _ | _ | _)⟩ <;> kernel_rfl)
          · refine (Q0i).trans ?_
            refine (Q0a (st' := (S33_5 n_ y213)) (hs := by (rcases y82 with ⟨_, _, _, _, _, _, _, (_ | _ | _ | _ | _ | _ | _ | _ | _), (_ | _ | _ | _ | _ | _)⟩ <;> kernel_rfl))).trans ?_
            refine (Q2d (c38 n_ y213 _)).trans ?_
            refine (Q0h).trans ?_
            (rcases y82 with ⟨_, _, _, _, _, _, _, (_ | _ | _ | _ | _ | _ | _ | _ | _), (_ | _ | _ | _ | _ | _)⟩ <;> kernel_rfl)
noncomputable def cp34 : Q2g := Q2i cp33 22 [(.agg a01), (pL Q2n)] (.tup [(.agg Q2n), pI]) (fun y : (I4 × Int) => (y.1, y.2, ())) (fun x => a1z x.1 x.2.1)
theorem e36 : Q0p E cp34 := conS eok e35 Q0z fun x => Eq.mp (by kernel_rfl) (c7q x.1 x.2.1)
end
section
variable {α β : Type} (first : Int) (rows : Int) (k_ : Int) (stride : Int) (pad : Int) (size : Int) (y275 : Int) (s294 : (Int × Int × Int)) (y299 : (Int × Int × Int)) (k : St → Option α) (q : Kont α)
noncomputable abbrev C34 := Q0r E.P 23
noncomputable abbrev P34 := @preK α E 23 cp34 noE
noncomputable abbrev R34 := @Q0o α E 23 cp34 noE
noncomputable abbrev Q34 := @seqC α E 23 cp34 noE
abbrev S34_0 : St := ⟨[(0, ri first), (1, ri rows), (2, ri k_), (3, ri stride), (4, ri pad), (5, ri size)], [], [], 78⟩
theorem d11 : P34 2 C34 (S34_0 first rows k_ stride pad size) k = Option.bind (a6e size k_ stride pad) fun y275 : Int => k ⟨[(0, ri first), (1, ri rows), (2, ri k_), (3, ri stride), (4, ri pad), (5, ri size), (14, ri y275)], [], [], 78⟩ := by kernel_rfl
def b1k (K : Bool → β) : β := (bif (decide (first < 0)) then (K true) else (bif (decide (rows < 1)) then (K true) else (bif (decide (first > y275)) then (K true) else (K (decide (rows > (IntKind.wrap .i64 (y275 - first))))))))
def a3a : Bool := b1k first rows y275 (fun y => y)
theorem c4r (K : Bool → β) : b1k first rows y275 K = K (a3a first rows y275) := (Q2h K rfl (Q2h K rfl (Q2h K rfl rfl)))
theorem d12 : P34 1 C34.r.r.l ⟨[(0, ri first), (1, ri rows), (2, ri k_), (3, ri stride), (4, ri pad), (5, ri size), (14, ri y275)], [], [], 78⟩ k = k ⟨[(0, ri first), (1, ri rows), (2, ri k_), (3, ri stride), (4, ri pad), (5, ri size), (40, rb (a3a first rows y275))], [], [], 78⟩ := Eq.trans (by kernel_rfl) (c4r first rows y275 (fun y277 : Bool => k ⟨[(0, ri first), (1, ri rows), (2, ri k_), (3, ri stride), (4, ri pad), (5, ri size), (40, rb y277)], [], [], 78⟩))
abbrev S34_1 : St := ⟨[(12, ri 0), (13, ri 0)], [], [], 78⟩
theorem d0x : P34 1 C34.r.r.l.r.t (S34_0 first rows k_ stride pad size) k = k S34_1 := by kernel_rfl
abbrev S34_2 : St := ⟨[(0, ri first), (1, ri rows), (2, ri k_), (3, ri stride), (4, ri pad), (5, ri size), (12, ri size), (13, ri 0)], [], [], 78⟩
theorem d0v : P34 1 C34.r.r.r (S34_0 first rows k_ stride pad size) k = k (S34_2 first rows k_ stride pad size) := by kernel_rfl
abbrev S34_3 : St := ⟨[(0, ri first), (1, ri rows), (2, ri k_), (3, ri stride), (4, ri pad), (5, ri size), (12, ri size), (13, ri 0), (15, ri first)], [], [], 78⟩
theorem d0w : P34 1 C34.r.r.r.r.l (S34_2 first rows k_ stride pad size) k = k (S34_3 first rows k_ stride pad size) := by kernel_rfl
abbrev S34_4 : St := ⟨[(0, ri first), (1, ri rows), (2, ri k_), (3, ri stride), (4, ri pad), (5, ri size), (12, ri s294.1), (13, ri s294.2.1), (15, ri s294.2.2)], [], [], 78⟩
theorem c4m : P34 1 C34.r.r.r.r.l.r.b.b.l (S34_4 first rows k_ stride pad size s294) k = k ⟨[(0, ri first), (1, ri rows), (2, ri k_), (3, ri stride), (4, ri pad), (5, ri size), (12, ri s294.1), (13, ri s294.2.1), (15, ri s294.2.2), (47, rb (decide (s294.2.2 < (IntKind.wrap .i64 (first + rows)))))], [], [], 78⟩ := by kernel_rfl
def b1l (K : Int → β) : β := (K (min size (IntKind.wrap .i64 ((IntKind.wrap .i64 ((IntKind.wrap .i64 (s294.2.2 * stride)) - pad)) + k_))))
def a0w : Int := b1l k_ stride pad size s294 (fun y => y)
theorem c4s (K : Int → β) : b1l k_ stride pad size s294 K = K (a0w k_ stride pad size s294) := rfl
abbrev S34_5 : St := ⟨[(0, ri first), (1, ri rows), (2, ri k_), (3, ri stride), (4, ri pad), (5, ri size), (12, ri s294.1), (13, ri s294.2.1), (15, ri s294.2.2), (16, ri (max (0 : Int) (IntKind.wrap .i64 ((IntKind.wrap .i64 (s294.2.2 * stride)) - pad)))), (17, ri (a0w k_ stride pad size s294))], [], [], 78⟩
theorem d14 : P34 1 C34.r.r.r.r.l.r.b.b.r.l.b (S34_4 first rows k_ stride pad size s294) k = k (S34_5 first rows k_ stride pad size s294) := Eq.trans (by kernel_rfl) (c4s k_ stride pad size s294 (fun y295 : Int => k ⟨[(0, ri first), (1, ri rows), (2, ri k_), (3, ri stride), (4, ri pad), (5, ri size), (12, ri s294.1), (13, ri s294.2.1), (15, ri s294.2.2), (16, ri (max (0 : Int) (IntKind.wrap .i64 ((IntKind.wrap .i64 (s294.2.2 * stride)) - pad)))), (17, ri y295)], [], [], 78⟩))
def b1m (K : Bool → β) : β := (K (decide ((max (0 : Int) (IntKind.wrap .i64 ((IntKind.wrap .i64 (s294.2.2 * stride)) - pad))) < (a0w k_ stride pad size s294))))
def a3b : Bool := b1m k_ stride pad size s294 (fun y => y)
theorem c4t (K : Bool → β) : b1m k_ stride pad size s294 K = K (a3b k_ stride pad size s294) := rfl
theorem d15 : P34 1 C34.r.r.r.r.l.r.b.b.r.l.b.r (S34_5 first rows k_ stride pad size s294) k = k ⟨[(0, ri first), (1, ri rows), (2, ri k_), (3, ri stride), (4, ri pad), (5, ri size), (12, ri s294.1), (13, ri s294.2.1), (15, ri s294.2.2), (16, ri (max (0 : Int) (IntKind.wrap .i64 ((IntKind.wrap .i64 (s294.2.2 * stride)) - pad)))), (17, ri (a0w k_ stride pad size s294)), (67, rb (a3b k_ stride pad size s294))], [], [], 78⟩ := Eq.trans (by kernel_rfl) (c4t k_ stride pad size s294 (fun y296 : Bool => k ⟨[(0, ri first), (1, ri rows), (2, ri k_), (3, ri stride), (4, ri pad), (5, ri size), (12, ri s294.1), (13, ri s294.2.1), (15, ri s294.2.2), (16, ri (max (0 : Int) (IntKind.wrap .i64 ((IntKind.wrap .i64 (s294.2.2 * stride)) - pad)))), (17, ri (a0w k_ stride pad size s294)), (67, rb y296)], [], [], 78⟩))
def a9q (K : Int → β) : β := (K (min s294.1 (max (0 : Int) (IntKind.wrap .i64 ((IntKind.wrap .i64 (s294.2.2 * stride)) - pad)))))
def a4z : Int := a9q stride pad s294 (fun y => y)
theorem c2i (K : Int → β) : a9q stride pad s294 K = K (a4z stride pad s294) := rfl
abbrev S34_6 : St := ⟨[(0, ri first), (1, ri rows), (2, ri k_), (3, ri stride), (4, ri pad), (5, ri size), (12, ri (a4z stride pad s294)), (13, ri (max s294.2.1 (a0w k_ stride pad size s294))), (15, ri s294.2.2)], [], [], 78⟩
theorem c7a : R34 C34.r.r.r.r.l.r.b.b.r.l.b.r.r.t (S34_5 first rows k_ stride pad size s294) q = q .normal (S34_6 first rows k_ stride pad size s294) := Eq.trans (by kernel_rfl) (c2i stride pad s294 (fun y297 : Int => q .normal ⟨[(0, ri first), (1, ri rows), (2, ri k_), (3, ri stride), (4, ri pad), (5, ri size), (12, ri y297), (13, ri (max s294.2.1 (a0w k_ stride pad size s294))), (15, ri s294.2.2)], [], [], 78⟩))
def a66 (K : (Int × Int) → β) : β := (bif (a3b k_ stride pad size s294) then (K ((a4z stride pad s294), (max s294.2.1 (a0w k_ stride pad size s294)))) else (K (s294.1, s294.2.1)))
def a18 : (Int × Int) := a66 k_ stride pad size s294 (fun y => y)
theorem c4p (K : (Int × Int) → β) : a66 k_ stride pad size s294 K = K (a18 k_ stride pad size s294) := (Q2h K rfl rfl)
abbrev S34_7 : St := ⟨[(0, ri first), (1, ri rows), (2, ri k_), (3, ri stride), (4, ri pad), (5, ri size), (12, ri ((a18 k_ stride pad size s294).1)), (13, ri ((a18 k_ stride pad size s294).2)), (15, ri s294.2.2)], [], [], 78⟩
theorem d0z : R34 C34.r.r.r.r.l.r.b.b.r.l (S34_4 first rows k_ stride pad size s294) (Q34 C34.r.r.r.r.l.r.b.b.r.r q) = R34 C34.r.r.r.r.l.r.b.b.r.r (S34_7 first rows k_ stride pad size s294) q := by
  refine Eq.trans ?_ (c4p k_ stride pad size s294 (fun y298 : (Int × Int) => R34 C34.r.r.r.r.l.r.b.b.r.r ⟨[(0, ri first), (1, ri rows), (2, ri k_), (3, ri stride), (4, ri pad), (5, ri size), (12, ri y298.1), (13, ri y298.2), (15, ri s294.2.2)], [], [], 78⟩ q))
  unfold a66
  refine (Q0j (id := 1)).trans ?_
  refine (Q2d (d14 first rows k_ stride pad size s294 _)).trans ?_
  refine (Q2d (d15 first rows k_ stride pad size s294 _)).trans ?_
  refine (Q0m (b := (a3b k_ stride pad size s294)) (st' := (S34_5 first rows k_ stride pad size s294)) ).trans (Q2f ?_ ?_)
  · refine (c7a first rows k_ stride pad size s294 _).trans ?_
    refine Q0f.trans ?_
    refine (Q0a (st' := (S34_6 first rows k_ stride pad size s294))).trans ?_
    kernel_rfl
  · refine (Q0i).trans ?_
    refine Q0f.trans ?_
    refine (Q0a (st' := (S34_4 first rows k_ stride pad size s294))).trans ?_
    kernel_rfl
theorem d13 : R34 C34.r.r.r.r.l.r.b.b.r.r (S34_7 first rows k_ stride pad size s294) q = q .normal ⟨[(0, ri first), (1, ri rows), (2, ri k_), (3, ri stride), (4, ri pad), (5, ri size), (12, ri ((a18 k_ stride pad size s294).1)), (13, ri ((a18 k_ stride pad size s294).2)), (15, ri (IntKind.wrap .i64 (s294.2.2 + 1)))], [], [], 78⟩ := by kernel_rfl
def a67 : Option ((Int × Int × Int) ⊕ (Int × Int × Int)) := (bif (decide (s294.2.2 < (IntKind.wrap .i64 (first + rows)))) then (some (Sum.inl ((a18 k_ stride pad size s294).1, (a18 k_ stride pad size s294).2, (IntKind.wrap .i64 (s294.2.2 + 1))))) else (some (Sum.inr s294)))
abbrev S34_8 : St := ⟨[(0, ri first), (1, ri rows), (2, ri k_), (3, ri stride), (4, ri pad), (5, ri size), (12, ri y299.1), (13, ri y299.2.1), (15, ri y299.2.2)], [], [], 78⟩
theorem c4q : R34 C34.r.r.r.r.l.r.b.b (S34_4 first rows k_ stride pad size s294) (Q0w 0 q) = Option.bind (a67 first rows k_ stride pad size s294) (Q1z (fun y : (Int × Int × Int) => q .normal ⟨[(0, ri first), (1, ri rows), (2, ri k_), (3, ri stride), (4, ri pad), (5, ri size), (12, ri y.1), (13, ri y.2.1), (15, ri y.2.2)], [], [], 78⟩) (fun y299 : (Int × Int × Int) => q (.exit 0) (S34_8 first rows k_ stride pad size y299))) := by
  refine .trans ?_ (Q2b e2_0 e2_1)
  refine .trans Q0c ?_
  refine (Q2d (c4m first rows k_ stride pad size s294 _)).trans ?_
  refine (Q0m (b := (decide (s294.2.2 < (IntKind.wrap .i64 (first + rows))))) (st' := (S34_4 first rows k_ stride pad size s294)) ).trans (Q2f ?_ ?_)
  · refine (Q0i).trans ?_
    refine (Q0a (st' := (S34_4 first rows k_ stride pad size s294))).trans ?_
    refine .trans Q0c ?_
    refine (d0z first rows k_ stride pad size s294 _).trans ?_
    refine (d13 first rows k_ stride pad size s294 _).trans ?_
    kernel_rfl
  · refine ((Q1f (j := 0))).trans ?_
    refine Q0v.trans ?_
    kernel_rfl
theorem d10 : R34 C34.r.r.r.r.l.r.b (S34_3 first rows k_ stride pad size) q = Option.bind (iterN (a67 first rows k_ stride pad size) LL (size, (0 : Int), first)) (fun y299 : (Int × Int × Int) => q (.exit 0) (S34_8 first rows k_ stride pad size y299)) :=
  Eq.trans (by kernel_rfl) (Q1a (S := fun s294 : (Int × Int × Int) => (S34_4 first rows k_ stride pad size s294)) (Y1 := fun y299 : (Int × Int × Int) => ((.exit 0), (S34_8 first rows k_ stride pad size y299))) (fun s q => c4q first rows k_ stride pad size s q) (fun z => rfl) LL (size, (0 : Int), first))
abbrev S34_9 : St := ⟨[(12, ri y299.1), (13, ri y299.2.1)], [], [], 78⟩
theorem b7w : P34 1 C34.r.r.r.r.r.l (S34_9 y299) k = k ⟨[(12, ri y299.1), (13, ri y299.2.1), (75, rb (y299.2.1 == 0))], [], [], 78⟩ := by kernel_rfl
theorem c4n : P34 1 C34.r.r.r.r.r.l.r.t (S34_9 y299) k = k S34_1 := by kernel_rfl
theorem c4o : P34 1 C34.r.r.r.r.r.r (S34_9 y299) k = k (S34_9 y299) := by kernel_rfl
def a8p : Option (Int × Int) := (Option.bind (a6e size k_ stride pad) (fun y275 : Int => (bif (a3a first rows y275) then (some ((0 : Int), (0 : Int))) else (Option.bind (iterN (a67 first rows k_ stride pad size) LL (size, (0 : Int), first)) (fun y299 : (Int × Int × Int) => (bif (y299.2.1 == 0) then (some ((0 : Int), (0 : Int))) else (some (y299.1, y299.2.1))))))))
theorem d0y : Q2j E cp34 noE 23 [ri first, ri rows, ri k_, ri stride, ri pad, ri size] = Option.bind (a8p first rows k_ stride pad size) (fun y : (Int × Int) => some (.tup [ri y.1, ri y.2] : R)) := by
  refine .trans ?_ (Q0d fun y275 => (Q2b Q0b (Q0d fun y299 => (Q2b Q0b Q0b))))
  refine (Q0l (nt := 78) (regs := [(0, ri first), (1, ri rows), (2, ri k_), (3, ri stride), (4, ri pad), (5, ri size)])).trans ?_
  refine (pre2 (d11 first rows k_ stride pad size _)).trans (Q0e fun y275 => ?_)
  refine .trans Q0c ?_
  refine (Q2d (d12 first rows k_ stride pad size y275 _)).trans ?_
  refine (Q0m (b := (a3a first rows y275)) (st' := (S34_0 first rows k_ stride pad size)) ).trans (Q2f ?_ ?_)
  · refine (Q2d (d0x first rows k_ stride pad size _)).trans ?_
    refine (Q0h).trans ?_
    refine Q0k.trans ?_
    kernel_rfl
  · refine (Q0i).trans ?_
    refine (Q0a (st' := (S34_0 first rows k_ stride pad size))).trans ?_
    refine (Q2d (d0v first rows k_ stride pad size _)).trans ?_
    refine .trans Q0c ?_
    refine (Q2d (d0w first rows k_ stride pad size _)).trans ?_
    refine (Q0j (id := 0)).trans ?_
    refine (d10 first rows k_ stride pad size _).trans (Q0e fun y299 => ?_)
    refine Q0u.trans ?_
    refine (Q0a (st' := (S34_9 y299))).trans ?_
    refine .trans Q0c ?_
    refine (Q2d (b7w y299 _)).trans ?_
    refine (Q0m (b := (y299.2.1 == 0)) (st' := (S34_9 y299)) ).trans (Q2f ?_ ?_)
    · refine (Q2d (c4n y299 _)).trans ?_
      refine (Q0h).trans ?_
      refine Q0k.trans ?_
      kernel_rfl
    · refine (Q0i).trans ?_
      refine (Q0a (st' := (S34_9 y299))).trans ?_
      refine (Q2d (c4o y299 _)).trans ?_
      refine (Q0h).trans ?_
      kernel_rfl
noncomputable def cp35 : Q2g := Q2i cp34 23 [pI, pI, pI, pI, pI, pI] (.tup [pI, pI]) (fun y : (Int × Int) => (y.1, y.2, ())) (fun x => a8p x.1 x.2.1 x.2.2.1 x.2.2.2.1 x.2.2.2.2.1 x.2.2.2.2.2.1)
theorem e37 : Q0p E cp35 := conS eok e36 Q0z fun x => Eq.mp (by kernel_rfl) (d0y x.1 x.2.1 x.2.2.1 x.2.2.2.1 x.2.2.2.2.1 x.2.2.2.2.2.1)
end
end Go.V.P
