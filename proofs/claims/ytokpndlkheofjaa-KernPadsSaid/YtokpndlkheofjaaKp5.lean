/- What functions compute. -/
import Derived.Test.YtokpndlkheofjaaKp4
namespace Go.V.P
open Go.RowKit Go.V Go.Proofs
set_option linter.unusedVariables false
set_option maxRecDepth 100000
noncomputable abbrev C70 := Q0r E.P 27
noncomputable abbrev P70 {α : Type} := @preK α E 27 cp66 ce4
theorem d7n {α : Type} (s_ : I3) (k : St → Option α) : P70 1 C70 ⟨[(0, rA Q2o s_)], [], [], 31⟩ k = k ⟨[(1, rC Q2o s_)], [], [], 31⟩ := by kernel_rfl
def b5h {β : Type} (s_ : I3) (K : Bool → β) : β := (bif (decide (s_.1 < 1)) then (K true) else (bif (decide (s_.1 > 16)) then (K true) else (bif (decide (s_.2.1 < 1)) then (K true) else (bif (decide (s_.2.1 > 16)) then (K true) else (bif (decide (s_.2.2 < 1)) then (K true) else (K (decide (s_.2.2 > 8))))))))
def a4i (s_ : I3) : Bool := b5h s_ (fun y => y)
theorem c9r {β : Type} (s_ : I3) (K : Bool → β) : b5h s_ K = K (a4i s_) := (Q2h K rfl (Q2h K rfl (Q2h K rfl (Q2h K rfl (Q2h K rfl rfl)))))
theorem d7q {α : Type} (s_ : I3) (k : St → Option α) : P70 1 C70.r.l ⟨[(1, rC Q2o s_)], [], [], 31⟩ k = k ⟨[(30, rb (a4i s_))], [], [], 31⟩ := Eq.trans (by kernel_rfl) (c9r s_ (fun y1325 : Bool => k ⟨[(30, rb y1325)], [], [], 31⟩))
theorem d7o {α : Type} (k : St → Option α) : P70 1 C70.r.l.r.t ⟨[], [], [], 31⟩ k = k ⟨[(2, ri 10)], [], [], 31⟩ := by kernel_rfl
theorem c9q {α : Type} (k : St → Option α) : P70 1 C70.r.r ⟨[], [], [], 31⟩ k = k ⟨[(2, ri 0)], [], [], 31⟩ := by kernel_rfl
def b3s {β : Type} (s_ : I3) (K : Int → β) : β := (bif (a4i s_) then (K (10 : Int)) else (K (0 : Int)))
def a1r (s_ : I3) : Int := b3s s_ (fun y => y)
theorem d9g {β : Type} (s_ : I3) (K : Int → β) : b3s s_ K = K (a1r s_) := (Q2h K rfl rfl)
theorem d7p (s_ : I3) : Q2j E cp66 ce4 27 [rA Q2o s_] = (fun y : Int => some (ri y : R)) (a1r s_) := by
  refine Eq.trans ?_ (d9g s_ (fun y : Int => some (ri y : R)))
  refine (Q0l (nt := 31) (regs := [(0, rA Q2o s_)])).trans ?_
  unfold b3s
  refine (Q2d (d7n s_ _)).trans ?_
  refine .trans Q0c ?_
  refine (Q2d (d7q s_ _)).trans ?_
  refine (Q0m (b := (a4i s_)) (st' := ⟨[], [], [], 31⟩) ).trans (Q2f ?_ ?_)
  · refine (Q2d (d7o _)).trans ?_
    refine (Q0h).trans ?_
    refine Q0k.trans ?_
    kernel_rfl
  · refine (Q0i).trans ?_
    refine (Q0a (st' := ⟨[], [], [], 31⟩)).trans ?_
    refine (Q2d (c9q _)).trans ?_
    refine (Q0h).trans ?_
    kernel_rfl
noncomputable def cp67 : Q2g := Q2i cp66 27 [(.agg Q2o)] (.one pI) (fun y : Int => y) (fun x => some (a1r x.1))
theorem e40 : Q0p E cp67 := conS eok e3z a0r fun x => Eq.mp (by kernel_rfl) (d7p x.1)
noncomputable abbrev C71 := Q0r E.P 21
noncomputable abbrev P71 {α : Type} := @preK α E 21 cp67 ce4
abbrev S71_0 (s_ : I3) : St := ⟨[(1, rC Q2o s_)], [], [], 14⟩
theorem d3i {α : Type} (s_ : I3) (k : St → Option α) : P71 1 C71 ⟨[(0, rA Q2o s_)], [], [], 14⟩ k = k (S71_0 s_) := by kernel_rfl
theorem b8t {α : Type} (s_ : I3) (k : St → Option α) : P71 1 C71.r.l (S71_0 s_) k = k ⟨[(1, rC Q2o s_), (5, rb ((a1r s_) != 0))], [], [], 14⟩ := by kernel_rfl
theorem d3j {α : Type} (s_ : I3) (k : St → Option α) : P71 1 C71.r.l.r.t (S71_0 s_) k = k ⟨[(2, ri 0)], [], [], 14⟩ := by kernel_rfl
theorem c6b {α : Type} (s_ : I3) (k : St → Option α) : P71 1 C71.r.r (S71_0 s_) k = k ⟨[(2, ri (IntKind.wrap .i64 ((IntKind.wrap .i64 (s_.1 * s_.2.1)) * s_.2.2)))], [], [], 14⟩ := by kernel_rfl
def b0z {β : Type} (s_ : I3) (K : Int → β) : β := (bif ((a1r s_) != 0) then (K (0 : Int)) else (K (IntKind.wrap .i64 ((IntKind.wrap .i64 (s_.1 * s_.2.1)) * s_.2.2))))
def a15 (s_ : I3) : Int := b0z s_ (fun y => y)
theorem d80 {β : Type} (s_ : I3) (K : Int → β) : b0z s_ K = K (a15 s_) := (Q2h K rfl rfl)
theorem d3k (s_ : I3) : Q2j E cp67 ce4 21 [rA Q2o s_] = (fun y : Int => some (ri y : R)) (a15 s_) := by
  refine Eq.trans ?_ (d80 s_ (fun y : Int => some (ri y : R)))
  refine (Q0l (nt := 14) (regs := [(0, rA Q2o s_)])).trans ?_
  unfold b0z
  refine (Q2d (d3i s_ _)).trans ?_
  refine .trans Q0c ?_
  refine (Q2d (b8t s_ _)).trans ?_
  refine (Q0m (b := ((a1r s_) != 0)) (st' := (S71_0 s_)) ).trans (Q2f ?_ ?_)
  · refine (Q2d (d3j s_ _)).trans ?_
    refine (Q0h).trans ?_
    refine Q0k.trans ?_
    kernel_rfl
  · refine (Q0i).trans ?_
    refine (Q0a (st' := (S71_0 s_))).trans ?_
    refine (Q2d (c6b s_ _)).trans ?_
    refine (Q0h).trans ?_
    kernel_rfl
noncomputable def cp68 : Q2g := Q2i cp67 21 [(.agg Q2o)] (.one pI) (fun y : Int => y) (fun x => some (a15 x.1))
theorem e41 : Q0p E cp68 := conS eok e40 a0r fun x => Eq.mp (by kernel_rfl) (d3k x.1)
section
variable {α : Type} (v_ : I4) (l_ : (List Int)) (s1351 : ((List Int) × Int)) (y1356 : Int) (y1358 : ((List Int) × Int)) (k : St → Option α) (q : Kont α)
noncomputable abbrev C72 := Q0r E.P 46
noncomputable abbrev P72 := @preK α E 46 cp68 ce4
noncomputable abbrev R72 := @Q0o α E 46 cp68 ce4
noncomputable abbrev Q72 := @seqC α E 46 cp68 ce4
abbrev S72_0 : St := ⟨[(1, rl (.one (.int .i8)) l_), (2, rC Q2n v_), (5, .one (.ow (.one (.int .i8)) [] (.v 5)))], [], [], 31⟩
theorem c60 : P72 2 C72 ⟨[(0, rA Q2n v_), (1, rl (.one (.int .i8)) l_)], [], [], 31⟩ k = k (S72_0 v_ l_) := by kernel_rfl
abbrev S72_1 : St := ⟨[(1, rl (.one (.int .i8)) l_), (2, rC Q2n v_), (5, .one (.ow (.one (.int .i8)) [] (.v 5))), (6, ri 0)], [], [], 31⟩
theorem c61 : P72 1 C72.r.r.l (S72_0 v_ l_) k = k (S72_1 v_ l_) := by kernel_rfl
abbrev S72_2 : St := ⟨[(1, rl (.one (.int .i8)) l_), (2, rC Q2n v_), (5, .one (.ow (.one (.int .i8)) s1351.1 (.v 5))), (6, ri s1351.2)], [], [], 31⟩
theorem c63 : P72 1 C72.r.r.l.r.b.b.l (S72_2 v_ l_ s1351) k = k ⟨[(1, rl (.one (.int .i8)) l_), (2, rC Q2n v_), (5, .one (.ow (.one (.int .i8)) s1351.1 (.v 5))), (6, ri s1351.2), (13, rb (decide (s1351.2 < (a15 (v_.1, v_.2.1, v_.2.2.1)))))], [], [], 31⟩ := by kernel_rfl
abbrev S72_3 : St := ⟨[(1, rl (.one (.int .i8)) l_), (2, rC Q2n v_), (5, .one (.ow (.one (.int .i8)) s1351.1 (.v 5))), (6, ri s1351.2), (7, rk .i8 (0 : Int))], [], [], 31⟩
theorem c62 : P72 1 C72.r.r.l.r.b.b.r.l.b (S72_2 v_ l_ s1351) k = k (S72_3 v_ l_ s1351) := by kernel_rfl
theorem b5g : P72 1 C72.r.r.l.r.b.b.r.l.b.r.l (S72_3 v_ l_ s1351) k = k ⟨[(1, rl (.one (.int .i8)) l_), (2, rC Q2n v_), (5, .one (.ow (.one (.int .i8)) s1351.1 (.v 5))), (6, ri s1351.2), (7, rk .i8 (0 : Int)), (18, rb (decide ((l_.length : Int) > 0)))], [], [], 31⟩ := by kernel_rfl
def a9j : Option Unit := (bif ((l_.length : Int) == 0) then none else (bif (decide ((0 : Int) ≤ (Int.tmod s1351.2 (l_.length : Int)))) then (bif (decide ((Int.tmod s1351.2 (l_.length : Int)) < (l_.length : Int))) then (some ()) else none) else none))
abbrev S72_4 : St := ⟨[(1, rl (.one (.int .i8)) l_), (2, rC Q2n v_), (5, .one (.ow (.one (.int .i8)) s1351.1 (.v 5))), (6, ri s1351.2), (7, rk .i8 (gt l_ (Int.tmod s1351.2 (l_.length : Int)) (0 : Int)))], [], [], 31⟩
theorem c68 : R72 C72.r.r.l.r.b.b.r.l.b.r.l.r.t (S72_3 v_ l_ s1351) q = Option.bind (a9j l_ s1351) (fun y1355 : Unit => q .normal (S72_4 v_ l_ s1351)) := .trans (by kernel_rfl) (Q2b Q0n (Q2b (Q2b Q0b Q0n) Q0n))
def a9i : Option Int := (bif (decide ((l_.length : Int) > 0)) then (Option.bind (a9j l_ s1351) (fun y1355 : Unit => (some (gt l_ (Int.tmod s1351.2 (l_.length : Int)) (0 : Int))))) else (some (0 : Int)))
abbrev S72_5 : St := ⟨[(1, rl (.one (.int .i8)) l_), (2, rC Q2n v_), (5, .one (.ow (.one (.int .i8)) s1351.1 (.v 5))), (6, ri s1351.2), (7, rk .i8 y1356)], [], [], 31⟩
theorem c65 : R72 C72.r.r.l.r.b.b.r.l.b.r.l (S72_3 v_ l_ s1351) (Q72 C72.r.r.l.r.b.b.r.l.b.r.r q) = Option.bind (a9i l_ s1351) (fun y1356 : Int => R72 C72.r.r.l.r.b.b.r.l.b.r.r (S72_5 v_ l_ s1351 y1356) q) := by
  refine .trans ?_ (Q2b (Q0d fun y1355 => Q0b) Q0b)
  refine (Q2d (b5g v_ l_ s1351 _)).trans ?_
  refine (Q0m (b := (decide ((l_.length : Int) > 0))) (st' := (S72_3 v_ l_ s1351)) ).trans (Q2f ?_ ?_)
  · refine (c68 v_ l_ s1351 _).trans (Q0e fun y1355 => ?_)
    refine (Q0a (st' := (S72_4 v_ l_ s1351))).trans ?_
    kernel_rfl
  · refine (Q0i).trans ?_
    refine (Q0a (st' := (S72_3 v_ l_ s1351))).trans ?_
    kernel_rfl
def a9k : Option Unit := (bif (decide (s1351.1.length + ([y1356] : List Int).length ≤ maxL)) then (some ()) else none)
abbrev S72_6 : St := ⟨[(1, rl (.one (.int .i8)) l_), (2, rC Q2n v_), (5, .one (.ow (.one (.int .i8)) (s1351.1 ++ [y1356]) (.v 5))), (6, ri s1351.2)], [], [], 31⟩
theorem c69 : R72 C72.r.r.l.r.b.b.r.l.b.r.r (S72_5 v_ l_ s1351 y1356) q = Option.bind (a9k s1351 y1356) (fun y1357 : Unit => q .normal (S72_6 v_ l_ s1351 y1356)) := .trans (by kernel_rfl) (Q2b Q0b Q0n)
theorem c67 : R72 C72.r.r.l.r.b.b.r.r (S72_6 v_ l_ s1351 y1356) q = q .normal ⟨[(1, rl (.one (.int .i8)) l_), (2, rC Q2n v_), (5, .one (.ow (.one (.int .i8)) (s1351.1 ++ [y1356]) (.v 5))), (6, ri (IntKind.wrap .i64 (s1351.2 + 1)))], [], [], 31⟩ := by kernel_rfl
def a4w : Option (((List Int) × Int) ⊕ ((List Int) × Int)) := (bif (decide (s1351.2 < (a15 (v_.1, v_.2.1, v_.2.2.1)))) then (Option.bind (a9i l_ s1351) (fun y1356 : Int => (Option.bind (a9k s1351 y1356) (fun y1357 : Unit => (some (Sum.inl ((s1351.1 ++ [y1356]), (IntKind.wrap .i64 (s1351.2 + 1))))))))) else (some (Sum.inr s1351)))
abbrev S72_7 : St := ⟨[(1, rl (.one (.int .i8)) l_), (2, rC Q2n v_), (5, .one (.ow (.one (.int .i8)) y1358.1 (.v 5))), (6, ri y1358.2)], [], [], 31⟩
theorem c2e : R72 C72.r.r.l.r.b.b (S72_2 v_ l_ s1351) (Q0w 0 q) = Option.bind (a4w v_ l_ s1351) (Q1z (fun y : ((List Int) × Int) => q .normal ⟨[(1, rl (.one (.int .i8)) l_), (2, rC Q2n v_), (5, .one (.ow (.one (.int .i8)) y.1 (.v 5))), (6, ri y.2)], [], [], 31⟩) (fun y1358 : ((List Int) × Int) => q (.exit 0) (S72_7 v_ l_ y1358))) := by
  refine .trans ?_ (Q2b (Q0d fun y1356 => (Q0d fun y1357 => e2_0)) e2_1)
  refine .trans Q0c ?_
  refine (Q2d (c63 v_ l_ s1351 _)).trans ?_
  refine (Q0m (b := (decide (s1351.2 < (a15 (v_.1, v_.2.1, v_.2.2.1))))) (st' := (S72_2 v_ l_ s1351)) ).trans (Q2f ?_ ?_)
  · refine (Q0i).trans ?_
    refine (Q0a (st' := (S72_2 v_ l_ s1351))).trans ?_
    refine .trans Q0c ?_
    refine (Q0j (id := 1)).trans ?_
    refine (Q2d (c62 v_ l_ s1351 _)).trans ?_
    refine .trans Q0c ?_
    refine (c65 v_ l_ s1351 _).trans (Q0e fun y1356 => ?_)
    refine (c69 v_ l_ s1351 y1356 _).trans (Q0e fun y1357 => ?_)
    refine Q0f.trans ?_
    refine (Q0a (st' := (S72_6 v_ l_ s1351 y1356))).trans ?_
    refine (c67 v_ l_ s1351 y1356 _).trans ?_
    kernel_rfl
  · refine ((Q1f (j := 0))).trans ?_
    refine Q0v.trans ?_
    kernel_rfl
theorem c66 : R72 C72.r.r.l.r.b (S72_1 v_ l_) q = Option.bind (iterN (a4w v_ l_) LL ([], (0 : Int))) (fun y1358 : ((List Int) × Int) => q (.exit 0) (S72_7 v_ l_ y1358)) :=
  Eq.trans (by kernel_rfl) (Q1a (S := fun s1351 : ((List Int) × Int) => (S72_2 v_ l_ s1351)) (Y1 := fun y1358 : ((List Int) × Int) => ((.exit 0), (S72_7 v_ l_ y1358))) (fun s q => c2e v_ l_ s q) (fun z => rfl) LL ([], (0 : Int)))
theorem c2d : P72 1 C72.r.r.r ⟨[(5, .one (.ow (.one (.int .i8)) y1358.1 (.v 5)))], [], [], 31⟩ k = k ⟨[(4, .one (.ow (.one (.int .i8)) y1358.1 (.v 5)))], [], [], 31⟩ := by kernel_rfl
def a7b : Option (List Int) := (Option.bind (iterN (a4w v_ l_) LL ([], (0 : Int))) (fun y1358 : ((List Int) × Int) => (some y1358.1)))
theorem c64 : Q2j E cp68 ce4 46 [rA Q2n v_, rl (.one (.int .i8)) l_] = Option.bind (a7b v_ l_) (fun y : (List Int) => some (rl (.one (.int .i8)) y : R)) := by
  refine .trans ?_ (Q0d fun y1358 => Q0b)
  refine (Q0l (nt := 31) (regs := [(0, rA Q2n v_), (1, rl (.one (.int .i8)) l_)])).trans ?_
  refine (pre2 (c60 v_ l_ _)).trans ?_
  refine .trans Q0c ?_
  refine (Q2d (c61 v_ l_ _)).trans ?_
  refine (Q0j (id := 0)).trans ?_
  refine (c66 v_ l_ _).trans (Q0e fun y1358 => ?_)
  refine Q0u.trans ?_
  refine (Q0a (st' := ⟨[(5, .one (.ow (.one (.int .i8)) y1358.1 (.v 5)))], [], [], 31⟩)).trans ?_
  refine (Q2d (c2d y1358 _)).trans ?_
  refine (Q0h).trans ?_
  kernel_rfl
noncomputable def cp69 : Q2g := Q2i cp68 46 [(.agg Q2n), (.one (.g (.sl (.one (.int .i8)))))] (.one (.one (.g (.sl (.one (.int .i8)))))) (fun y : (List Int) => y) (fun x => a7b x.1 x.2.1)
theorem e42 : Q0p E cp69 := conS eok e41 a0r fun x => Eq.mp (by kernel_rfl) (c64 x.1 x.2.1)
end
section
variable {α β : Type} (in_ : (List I4)) (l_ : A4) (s1398 : (Int × (List Int) × (List Int))) (y1406 : ((List Int) × (List Int))) (y1407 : (Int × (List Int) × (List Int))) (k : St → Option α) (q : Kont α)
noncomputable abbrev C73 := Q0r E.P 31
noncomputable abbrev P73 := @preK α E 31 cp69 ce4
noncomputable abbrev R73 := @Q0o α E 31 cp69 ce4
abbrev S73_0 : St := ⟨[(0, rl Q2n in_), (3, rC Q2p l_), (4, rF 0), (5, rF 1)], [[dl (.one (.int .i8)) [], dl (.one (.int .i8)) []], [dl (.one (.int .i8)) [], dl (.one (.int .i8)) []]], [], 29⟩
theorem d2z : P73 2 C73 ⟨[(0, rl Q2n in_), (1, rA Q2p l_)], [], [], 29⟩ k = k (S73_0 in_ l_) := by kernel_rfl
abbrev S73_1 : St := ⟨[(0, rl Q2n in_), (3, rC Q2p l_), (4, rF 0), (5, rF 1), (6, ri 0)], [[dl (.one (.int .i8)) [], dl (.one (.int .i8)) []], [dl (.one (.int .i8)) [], dl (.one (.int .i8)) []]], [], 29⟩
theorem d30 : P73 1 C73.r.r.l (S73_0 in_ l_) k = k (S73_1 in_ l_) := by kernel_rfl
def b2d (K : Bool → β) : β := (bif (decide (s1398.1 < (in_.length : Int))) then (K (decide (s1398.1 < 2))) else (K false))
def a40 : Bool := b2d in_ s1398 (fun y => y)
theorem c5z (K : Bool → β) : b2d in_ s1398 K = K (a40 in_ s1398) := (Q2h K rfl rfl)
abbrev S73_2 : St := ⟨[(0, rl Q2n in_), (3, rC Q2p l_), (4, rF 0), (5, rF 1), (6, ri s1398.1)], [[dl (.one (.int .i8)) [], dl (.one (.int .i8)) []], (Q2p.leaves s1398.2)], [], 29⟩
theorem d34 : P73 1 C73.r.r.l.r.b.b.l (S73_2 in_ l_ s1398) k = k ⟨[(0, rl Q2n in_), (3, rC Q2p l_), (4, rF 0), (5, rF 1), (6, ri s1398.1), (15, rb (a40 in_ s1398))], [[dl (.one (.int .i8)) [], dl (.one (.int .i8)) []], (Q2p.leaves s1398.2)], [], 29⟩ := Eq.trans (by kernel_rfl) (c5z in_ s1398 (fun y1400 : Bool => k ⟨[(0, rl Q2n in_), (3, rC Q2p l_), (4, rF 0), (5, rF 1), (6, ri s1398.1), (15, rb y1400)], [[dl (.one (.int .i8)) [], dl (.one (.int .i8)) []], (Q2p.leaves s1398.2)], [], 29⟩))
def b2e : Option ((List Int) × (List Int)) := (bif (decide ((0 : Int) ≤ s1398.1)) then (bif (decide (s1398.1 < (in_.length : Int))) then (bif (s1398.1 == 0) then (Option.bind (a7b (gt in_ s1398.1 dI4) l_.1) (fun y1404 : (List Int) => (bif (s1398.1 == 0) then (some (y1404, s1398.2.2)) else (bif (s1398.1 == 1) then (some (s1398.2.1, y1404)) else none)))) else (bif (s1398.1 == 1) then (Option.bind (a7b (gt in_ s1398.1 dI4) l_.2) (fun y1405 : (List Int) => (bif (s1398.1 == 0) then (some (y1405, s1398.2.2)) else (bif (s1398.1 == 1) then (some (s1398.2.1, y1405)) else none)))) else none)) else none) else none)
abbrev S73_3 : St := ⟨[(0, rl Q2n in_), (3, rC Q2p l_), (4, rF 0), (5, rF 1), (6, ri s1398.1)], [[dl (.one (.int .i8)) [], dl (.one (.int .i8)) []], (Q2p.leaves y1406)], [], 29⟩
theorem d36 : R73 C73.r.r.l.r.b.b.r.l.b (S73_2 in_ l_ s1398) q = Option.bind (b2e in_ l_ s1398) (fun y1406 : ((List Int) × (List Int)) => q .normal (S73_3 in_ l_ s1398 y1406)) := .trans (by kernel_rfl) (Q2b (Q2b (Q2b (Q0d fun y1404 => (Q2b Q0b (Q2b Q0b Q0n))) (Q2b (Q0d fun y1405 => (Q2b Q0b (Q2b Q0b Q0n))) Q0n)) Q0n) Q0n)
theorem d35 : R73 C73.r.r.l.r.b.b.r.r (S73_3 in_ l_ s1398 y1406) q = q .normal ⟨[(0, rl Q2n in_), (3, rC Q2p l_), (4, rF 0), (5, rF 1), (6, ri (IntKind.wrap .i64 (s1398.1 + 1)))], [[dl (.one (.int .i8)) [], dl (.one (.int .i8)) []], (Q2p.leaves y1406)], [], 29⟩ := by kernel_rfl
def a7a : Option ((Int × (List Int) × (List Int)) ⊕ (Int × (List Int) × (List Int))) := (bif (a40 in_ s1398) then (Option.bind (b2e in_ l_ s1398) (fun y1406 : ((List Int) × (List Int)) => (some (Sum.inl ((IntKind.wrap .i64 (s1398.1 + 1)), y1406.1, y1406.2))))) else (some (Sum.inr s1398)))
abbrev S73_4 : St := ⟨[(0, rl Q2n in_), (3, rC Q2p l_), (4, rF 0), (5, rF 1), (6, ri y1407.1)], [[dl (.one (.int .i8)) [], dl (.one (.int .i8)) []], (Q2p.leaves y1407.2)], [], 29⟩
theorem c5y : R73 C73.r.r.l.r.b.b (S73_2 in_ l_ s1398) (Q0w 2 q) = Option.bind (a7a in_ l_ s1398) (Q1z (fun y : (Int × (List Int) × (List Int)) => q .normal ⟨[(0, rl Q2n in_), (3, rC Q2p l_), (4, rF 0), (5, rF 1), (6, ri y.1)], [[dl (.one (.int .i8)) [], dl (.one (.int .i8)) []], (Q2p.leaves y.2)], [], 29⟩) (fun y1407 : (Int × (List Int) × (List Int)) => q (.exit 0) (S73_4 in_ l_ y1407))) := by
  refine .trans ?_ (Q2b (Q0d fun y1406 => e2_0) e2_1)
  refine .trans Q0c ?_
  refine (Q2d (d34 in_ l_ s1398 _)).trans ?_
  refine (Q0m (b := (a40 in_ s1398)) (st' := (S73_2 in_ l_ s1398)) ).trans (Q2f ?_ ?_)
  · refine (Q0i).trans ?_
    refine (Q0a (st' := (S73_2 in_ l_ s1398))).trans ?_
    refine .trans Q0c ?_
    refine (Q0j (id := 1)).trans ?_
    refine (d36 in_ l_ s1398 _).trans (Q0e fun y1406 => ?_)
    refine Q0f.trans ?_
    refine (Q0a (st' := (S73_3 in_ l_ s1398 y1406))).trans ?_
    refine (d35 in_ l_ s1398 y1406 _).trans ?_
    kernel_rfl
  · refine ((Q1f (j := 0))).trans ?_
    refine Q0v.trans ?_
    kernel_rfl
theorem d33 : R73 C73.r.r.l.r.b (S73_1 in_ l_) q = Option.bind (iterN (a7a in_ l_) LL ((0 : Int), [], [])) (fun y1407 : (Int × (List Int) × (List Int)) => q (.exit 0) (S73_4 in_ l_ y1407)) :=
  Eq.trans (by kernel_rfl) (Q1a (S := fun s1398 : (Int × (List Int) × (List Int)) => (S73_2 in_ l_ s1398)) (Y1 := fun y1407 : (Int × (List Int) × (List Int)) => ((.exit 0), (S73_4 in_ l_ y1407))) (fun s q => c5y in_ l_ s q) (fun z => rfl) LL ((0 : Int), [], []))
abbrev S73_5 : St := ⟨[(4, rF 0), (5, rF 1)], [[dl (.one (.int .i8)) [], dl (.one (.int .i8)) []], (Q2p.leaves y1407.2)], [], 29⟩
theorem d31 : P73 1 C73.r.r.r (S73_5 y1407) k = k ⟨[(4, rF 0)], [(Q2p.leaves y1407.2), []], [], 29⟩ := by kernel_rfl
def b03 : Option A4 := (Option.bind (iterN (a7a in_ l_) LL ((0 : Int), [], [])) (fun y1407 : (Int × (List Int) × (List Int)) => (some y1407.2)))
theorem d32 : Q2j E cp69 ce4 31 [rl Q2n in_, rA Q2p l_] = Option.bind (b03 in_ l_) (fun y : A4 => some (rA Q2p y : R)) := by
  refine .trans ?_ (Q0d fun y1407 => Q0b)
  refine (Q0l (nt := 29) (regs := [(0, rl Q2n in_), (1, rA Q2p l_)])).trans ?_
  refine (pre2 (d2z in_ l_ _)).trans ?_
  refine .trans Q0c ?_
  refine (Q2d (d30 in_ l_ _)).trans ?_
  refine (Q0j (id := 0)).trans ?_
  refine (d33 in_ l_ _).trans (Q0e fun y1407 => ?_)
  refine Q0u.trans ?_
  refine (Q0a (st' := (S73_5 y1407))).trans ?_
  refine (Q2d (d31 y1407 _)).trans ?_
  refine (Q0h).trans ?_
  kernel_rfl
noncomputable def cp70 : Q2g := Q2i cp69 31 [(pL Q2n), (.agg Q2p)] (.one (.agg Q2p)) (fun y : A4 => y) (fun x => b03 x.1 x.2.1)
theorem e43 : Q0p E cp70 := conS eok e42 a0r fun x => Eq.mp (by kernel_rfl) (d32 x.1 x.2.1)
end
section
variable {α β : Type} (x_ : Data) (y1323 : (List I4)) (k : St → Option α)
noncomputable abbrev C74 := Q0r E.P 18
noncomputable abbrev P74 := @preK α E 18 cp70 ce4
abbrev S74_0 : St := ⟨[(1, rC a09 x_), (3, rF 0), (5, rl Q2n y1323)], [[dl (.one (.int .i8)) [], dl (.one (.int .i8)) []]], [], 39⟩
theorem d39 : P74 2 C74 ⟨[(0, rA a09 x_)], [], [], 39⟩ k = Option.bind (b04 x_.1) fun y1323 : (List I4) => k (S74_0 x_ y1323) := by kernel_rfl
def b2f : Option Bool := (bif ((y1323.length : Int) == 0) then (some true) else (bif (decide ((0 : Int) < (y1323.length : Int))) then (some ((a1r ((gt y1323 (0 : Int) dI4).1, (gt y1323 (0 : Int) dI4).2.1, (gt y1323 (0 : Int) dI4).2.2.1)) != 0)) else none))
theorem d3a : P74 1 C74.r.r.l (S74_0 x_ y1323) k = Option.bind (b2f y1323) (fun y1327 : Bool => k ⟨[(1, rC a09 x_), (3, rF 0), (5, rl Q2n y1323), (21, rb y1327)], [[dl (.one (.int .i8)) [], dl (.one (.int .i8)) []]], [], 39⟩) := .trans (by kernel_rfl) (Q2b Q0b (Q2b Q0b Q0n))
theorem d37 : P74 1 C74.r.r.l.r.t (S74_0 x_ y1323) k = k ⟨[(2, .one (.ow Q2n [] (.v 2))), (3, rF 0), (4, rb false)], [[dl (.one (.int .i8)) [], dl (.one (.int .i8)) []]], [], 39⟩ := by kernel_rfl
def b2g : Option Unit := (bif (decide ((0 : Int) < (y1323.length : Int))) then (some ()) else none)
abbrev S74_1 : St := ⟨[(1, rC a09 x_), (3, rF 0), (6, rF 1)], [[dl (.one (.int .i8)) [], dl (.one (.int .i8)) []], (Q2n.leaves (gt y1323 (0 : Int) dI4))], [], 39⟩
theorem d3b : P74 1 C74.r.r.r (S74_0 x_ y1323) k = Option.bind (b2g y1323) (fun y1328 : Unit => k (S74_1 x_ y1323)) := .trans (by kernel_rfl) (Q2b Q0b Q0n)
def b2h (K : (List I4) → β) : β := (K [((gt y1323 (0 : Int) dI4).1, (gt y1323 (0 : Int) dI4).2.1, (gt y1323 (0 : Int) dI4).2.2.1, (min (max ((gt y1323 (0 : Int) dI4).2.2.2) (-128 : Int)) (127 : Int))), ((gt y1323 (0 : Int) dI4).1, (gt y1323 (0 : Int) dI4).2.1, (gt y1323 (0 : Int) dI4).2.2.1, (min (max ((gt y1323 (0 : Int) dI4).2.2.2) (-128 : Int)) (127 : Int)))])
def a1s : (List I4) := b2h y1323 (fun y => y)
theorem c6a (K : (List I4) → β) : b2h y1323 K = K (a1s y1323) := rfl
abbrev S74_2 : St := ⟨[(1, rC a09 x_), (3, rF 0), (7, .one (.ow Q2n (a1s y1323) (.v 7)))], [[dl (.one (.int .i8)) [], dl (.one (.int .i8)) []], []], [], 39⟩
theorem d3c : P74 2 C74.r.r.r.r (S74_1 x_ y1323) k = k (S74_2 x_ y1323) := Eq.trans (by kernel_rfl) (c6a y1323 (fun y1329 : (List I4) => k ⟨[(1, rC a09 x_), (3, rF 0), (7, rO Q2n y1329 7)], [[dl (.one (.int .i8)) [], dl (.one (.int .i8)) []], []], [], 39⟩))
theorem d3d : P74 1 C74.r.r.r.r.r.r (S74_2 x_ y1323) k = Option.bind (b03 (a1s y1323) x_.2) fun y1408 : A4 => k ⟨[(2, .one (.ow Q2n (a1s y1323) (.v 7))), (3, rF 0), (4, rb true)], [(Q2p.leaves y1408), []], [], 39⟩ := by kernel_rfl
def a4h : Option ((List I4) × A4 × Bool) := (Option.bind (b04 x_.1) (fun y1323 : (List I4) => (Option.bind (b2f y1323) (fun y1327 : Bool => (bif y1327 then (some ([], ([], []), false)) else (Option.bind (b2g y1323) (fun y1328 : Unit => (Option.bind (b03 (a1s y1323) x_.2) (fun y1408 : A4 => (some ((a1s y1323), y1408, true)))))))))))
theorem d38 : stepO E cp70 ce4 18 [rA a09 x_] = Option.bind (a4h x_) (fun y : ((List I4) × A4 × Bool) => some (.tup [.one (.ow Q2n y.1 (.s 0)), rA Q2p y.2.1, rb y.2.2] : R)) := by
  refine .trans ?_ (Q0d fun y1323 => (Q0d fun y1327 => (Q2b Q0b (Q0d fun y1328 => (Q0d fun y1408 => Q0b)))))
  refine (Q0l (nt := 39) (regs := [(0, rA a09 x_)])).trans ?_
  refine (pre2 (d39 x_ _)).trans (Q0e fun y1323 => ?_)
  refine .trans Q0c ?_
  refine (Q2d (d3a x_ y1323 _)).trans (Q0e fun y1327 => ?_)
  refine (Q0m (b := y1327) (st' := (S74_0 x_ y1323)) ).trans (Q2f ?_ ?_)
  · refine (Q2d (d37 x_ y1323 _)).trans ?_
    refine (Q0h).trans ?_
    refine Q0k.trans ?_
    kernel_rfl
  · refine (Q0i).trans ?_
    refine (Q0a (st' := (S74_0 x_ y1323))).trans ?_
    refine (Q2d (d3b x_ y1323 _)).trans (Q0e fun y1328 => ?_)
    refine (pre2 (d3c x_ y1323 _)).trans ?_
    refine (Q2d (d3d x_ y1323 _)).trans (Q0e fun y1408 => ?_)
    refine (Q0h).trans ?_
    kernel_rfl
noncomputable def cp71 : Q2g := Q2i cp70 18 [(.agg a09)] (.tup [(.one (.ow Q2n)), (.agg Q2p), pB]) (fun y : ((List I4) × A4 × Bool) => (y.1, y.2.1, y.2.2, ())) (fun x => a4h x.1)
theorem e44 : Q0p E cp71 := conO eok e43 a0r fun x => Eq.mp (by kernel_rfl) (d38 x.1)
end
noncomputable abbrev C75 := Q0r E.P 44
noncomputable abbrev P75 {α : Type} := @preK α E 44 cp71 ce4
def b5j {β : Type} (op : Int) (K : Bool → β) : β := (bif (op == 6) then (K true) else (bif (op == 7) then (K true) else (K (op == 10))))
def a8j (op : Int) : Bool := b5j op (fun y => y)
theorem c9w {β : Type} (op : Int) (K : Bool → β) : b5j op K = K (a8j op) := (Q2h K rfl (Q2h K rfl rfl))
theorem d82 {α : Type} (op : Int) (k : St → Option α) : P75 2 C75 ⟨[(0, ri op)], [], [], 13⟩ k = k ⟨[(2, rb (a8j op))], [], [], 13⟩ := Eq.trans (by kernel_rfl) (c9w op (fun y1433 : Bool => k ⟨[(2, rb y1433)], [], [], 13⟩))
def b3t {β : Type} (op : Int) (K : Bool → β) : β := (K (a8j op))
def a6c (op : Int) : Bool := b3t op (fun y => y)
theorem d9h {β : Type} (op : Int) (K : Bool → β) : b3t op K = K (a6c op) := rfl
theorem d81 (op : Int) : Q2j E cp71 ce4 44 [ri op] = (fun y : Bool => some (rb y : R)) (a6c op) := by
  refine Eq.trans ?_ (d9h op (fun y : Bool => some (rb y : R)))
  refine (Q0l (nt := 13) (regs := [(0, ri op)])).trans ?_
  unfold b3t
  refine (pre2 (d82 op _)).trans ?_
  refine (Q0h).trans ?_
  kernel_rfl
noncomputable def cp72 : Q2g := Q2i cp71 44 [pI] (.one pB) (fun y : Bool => y) (fun x => some (a6c x.1))
theorem e45 : Q0p E cp72 := conS eok e44 a0r fun x => Eq.mp (by kernel_rfl) (d81 x.1)
noncomputable abbrev C76 := Q0r E.P 45
noncomputable abbrev P76 {α : Type} := @preK α E 45 cp72 ce4
def a9p {β : Type} (op : Int) (K : Bool → β) : β := (bif (decide (op ≥ 1)) then (bif (decide (op ≤ 5)) then (K (op != 3)) else (K false)) else (K false))
def a4y (op : Int) : Bool := a9p op (fun y => y)
theorem c2h {β : Type} (op : Int) (K : Bool → β) : a9p op K = K (a4y op) := (Q2h K (Q2h K rfl rfl) rfl)
theorem c6m {α : Type} (op : Int) (k : St → Option α) : P76 2 C76 ⟨[(0, ri op)], [], [], 13⟩ k = k ⟨[(2, rb (a4y op))], [], [], 13⟩ := Eq.trans (by kernel_rfl) (c2h op (fun y1436 : Bool => k ⟨[(2, rb y1436)], [], [], 13⟩))
def a8k {β : Type} (op : Int) (K : Bool → β) : β := (K (a4y op))
def a2n (op : Int) : Bool := a8k op (fun y => y)
theorem d06 {β : Type} (op : Int) (K : Bool → β) : a8k op K = K (a2n op) := rfl
theorem c6l (op : Int) : Q2j E cp72 ce4 45 [ri op] = (fun y : Bool => some (rb y : R)) (a2n op) := by
  refine Eq.trans ?_ (d06 op (fun y : Bool => some (rb y : R)))
  refine (Q0l (nt := 13) (regs := [(0, ri op)])).trans ?_
  unfold a8k
  refine (pre2 (c6m op _)).trans ?_
  refine (Q0h).trans ?_
  kernel_rfl
noncomputable def cp73 : Q2g := Q2i cp72 45 [pI] (.one pB) (fun y : Bool => y) (fun x => some (a2n x.1))
theorem e46 : Q0p E cp73 := conS eok e45 a0r fun x => Eq.mp (by kernel_rfl) (c6l x.1)
section
variable {α β : Type} (x_ : Int) (low : Int) (high : Int) (k : St → Option α)
noncomputable abbrev C77 := Q0r E.P 30
noncomputable abbrev P77 := @preK α E 30 cp73 ce4
def b81 (K : Bool → β) : β := (bif (decide (x_ ≥ low)) then (K (decide (x_ ≤ high))) else (K false))
def a99 : Bool := b81 x_ low high (fun y => y)
theorem d3l (K : Bool → β) : b81 x_ low high K = K (a99 x_ low high) := (Q2h K rfl rfl)
theorem d9j : P77 2 C77 ⟨[(0, ri x_), (1, ri low), (2, ri high)], [], [], 15⟩ k = k ⟨[(6, rb (a99 x_ low high))], [], [], 15⟩ := Eq.trans (by kernel_rfl) (d3l x_ low high (fun y1437 : Bool => k ⟨[(6, rb y1437)], [], [], 15⟩))
def b7v (K : Bool → β) : β := (K (a99 x_ low high))
def a1i : Bool := b7v x_ low high (fun y => y)
theorem d9q (K : Bool → β) : b7v x_ low high K = K (a1i x_ low high) := rfl
theorem d9i : Q2j E cp73 ce4 30 [ri x_, ri low, ri high] = (fun y : Bool => some (rb y : R)) (a1i x_ low high) := by
  refine Eq.trans ?_ (d9q x_ low high (fun y : Bool => some (rb y : R)))
  refine (Q0l (nt := 15) (regs := [(0, ri x_), (1, ri low), (2, ri high)])).trans ?_
  unfold b7v
  refine (pre2 (d9j x_ low high _)).trans ?_
  refine (Q0h).trans ?_
  kernel_rfl
noncomputable def cp74 : Q2g := Q2i cp73 30 [pI, pI, pI] (.one pB) (fun y : Bool => y) (fun x => some (a1i x.1 x.2.1 x.2.2.1))
theorem e47 : Q0p E cp74 := conS eok e46 a0r fun x => Eq.mp (by kernel_rfl) (d9i x.1 x.2.1 x.2.2.1)
end
section
variable {α β : Type} (n_ : Node) (many : Int) (k : St → Option α) (q : Kont α)
noncomputable abbrev C78 := Q0r E.P 25
noncomputable abbrev P78 := @preK α E 25 cp74 ce4
noncomputable abbrev R78 := @Q0o α E 25 cp74 ce4
noncomputable abbrev Q78 := @seqC α E 25 cp74 ce4
abbrev S78_0 : St := ⟨[(1, ri many), (2, rC a01 n_), (5, ri 1)], [], [], 119⟩
theorem d42 : P78 2 C78 ⟨[(0, rA a01 n_), (1, ri many)], [], [], 119⟩ k = k (S78_0 n_ many) := by kernel_rfl
theorem b97 : P78 1 C78.r.r.l (S78_0 n_ many) k = k ⟨[(1, ri many), (2, rC a01 n_), (5, ri 1), (13, rb (a6c n_.1))], [], [], 119⟩ := by kernel_rfl
abbrev S78_1 : St := ⟨[(1, ri many), (2, rC a01 n_), (5, ri 2)], [], [], 119⟩
theorem d48 : R78 C78.r.r.l.r.t (S78_0 n_ many) q = q .normal (S78_1 n_ many) := by kernel_rfl
def a7f (K : Int → β) : β := (bif (a6c n_.1) then (K (2 : Int)) else (K (1 : Int)))
def a08 : Int := a7f n_ (fun y => y)
theorem c6z (K : Int → β) : a7f n_ K = K (a08 n_) := (Q2h K rfl rfl)
abbrev S78_2 : St := ⟨[(1, ri many), (2, rC a01 n_), (5, ri (a08 n_))], [], [], 119⟩
theorem d45 : R78 C78.r.r.l (S78_0 n_ many) (Q78 C78.r.r.r q) = R78 C78.r.r.r (S78_2 n_ many) q := by
  refine Eq.trans ?_ (c6z n_ (fun y1434 : Int => R78 C78.r.r.r ⟨[(1, ri many), (2, rC a01 n_), (5, ri y1434)], [], [], 119⟩ q))
  unfold a7f
  refine (Q2d (b97 n_ many _)).trans ?_
  refine (Q0m (b := (a6c n_.1)) (st' := (S78_0 n_ many)) ).trans (Q2f ?_ ?_)
  · refine (d48 n_ many _).trans ?_
    refine (Q0a (st' := (S78_1 n_ many))).trans ?_
    kernel_rfl
  · refine (Q0i).trans ?_
    refine (Q0a (st' := (S78_0 n_ many))).trans ?_
    kernel_rfl
def b2n (K : Bool → β) : β := (bif (n_.2.2.1 == 0) then (K (n_.2.2.2.1 == 0)) else (K false))
def a44 : Bool := b2n n_ (fun y => y)
theorem c72 (K : Bool → β) : b2n n_ K = K (a44 n_) := (Q2h K rfl rfl)
abbrev S78_3 : St := ⟨[(1, ri many), (2, rC a01 n_), (5, ri (a08 n_)), (6, rb (a44 n_))], [], [], 119⟩
theorem d49 : P78 1 C78.r.r.r (S78_2 n_ many) k = k (S78_3 n_ many) := Eq.trans (by kernel_rfl) (c72 n_ (fun y1435 : Bool => k ⟨[(1, ri many), (2, rC a01 n_), (5, ri (a08 n_)), (6, rb y1435)], [], [], 119⟩))
theorem b98 : P78 1 C78.r.r.r.r.l (S78_3 n_ many) k = k ⟨[(1, ri many), (2, rC a01 n_), (5, ri (a08 n_)), (6, rb (a44 n_)), (24, rb (a2n n_.1))], [], [], 119⟩ := by kernel_rfl
def b2o (K : Bool → β) : β := (bif (a1i n_.2.2.1 (1 : Int) (3 : Int)) then (K (a1i n_.2.2.2.1 (1 : Int) (2 : Int))) else (K false))
def a7i : Bool := b2o n_ (fun y => y)
theorem c73 (K : Bool → β) : b2o n_ K = K (a7i n_) := (Q2h K rfl rfl)
abbrev S78_4 : St := ⟨[(1, ri many), (2, rC a01 n_), (5, ri (a08 n_)), (6, rb (a7i n_))], [], [], 119⟩
theorem d4a : R78 C78.r.r.r.r.l.r.t (S78_3 n_ many) q = q .normal (S78_4 n_ many) := Eq.trans (by kernel_rfl) (c73 n_ (fun y1438 : Bool => q .normal ⟨[(1, ri many), (2, rC a01 n_), (5, ri (a08 n_)), (6, rb y1438)], [], [], 119⟩))
def a7g (K : Bool → β) : β := (bif (a2n n_.1) then (K (a7i n_)) else (K (a44 n_)))
def a0a : Bool := a7g n_ (fun y => y)
theorem c70 (K : Bool → β) : a7g n_ K = K (a0a n_) := (Q2h K rfl rfl)
abbrev S78_5 : St := ⟨[(1, ri many), (2, rC a01 n_), (5, ri (a08 n_)), (6, rb (a0a n_))], [], [], 119⟩
theorem d46 : R78 C78.r.r.r.r.l (S78_3 n_ many) (Q78 C78.r.r.r.r.r q) = R78 C78.r.r.r.r.r (S78_5 n_ many) q := by
  refine Eq.trans ?_ (c70 n_ (fun y1439 : Bool => R78 C78.r.r.r.r.r ⟨[(1, ri many), (2, rC a01 n_), (5, ri (a08 n_)), (6, rb y1439)], [], [], 119⟩ q))
  unfold a7g
  refine (Q2d (b98 n_ many _)).trans ?_
  refine (Q0m (b := (a2n n_.1)) (st' := (S78_3 n_ many)) ).trans (Q2f ?_ ?_)
  · refine (d4a n_ many _).trans ?_
    refine (Q0a (st' := (S78_4 n_ many))).trans ?_
    kernel_rfl
  · refine (Q0i).trans ?_
    refine (Q0a (st' := (S78_3 n_ many))).trans ?_
    kernel_rfl
abbrev S78_6 : St := ⟨[(1, ri many), (2, rC a01 n_), (5, ri (a08 n_)), (6, rb (a0a n_)), (7, rb (n_.2.2.2.2.1 == 0))], [], [], 119⟩
theorem d43 : P78 1 C78.r.r.r.r.r (S78_5 n_ many) k = k (S78_6 n_ many) := by kernel_rfl
def b2p (K : Bool → β) : β := (bif (n_.1 == 1) then (K true) else (K (n_.1 == 2)))
def a45 : Bool := b2p n_ (fun y => y)
theorem c74 (K : Bool → β) : b2p n_ K = K (a45 n_) := (Q2h K rfl rfl)
theorem d4b : P78 1 C78.r.r.r.r.r.r.l (S78_6 n_ many) k = k ⟨[(1, ri many), (2, rC a01 n_), (5, ri (a08 n_)), (6, rb (a0a n_)), (7, rb (n_.2.2.2.2.1 == 0)), (43, rb (a45 n_))], [], [], 119⟩ := Eq.trans (by kernel_rfl) (c74 n_ (fun y1440 : Bool => k ⟨[(1, ri many), (2, rC a01 n_), (5, ri (a08 n_)), (6, rb (a0a n_)), (7, rb (n_.2.2.2.2.1 == 0)), (43, rb y1440)], [], [], 119⟩))
def b2q (K : Bool → β) : β := (bif (a1i n_.2.2.2.2.1 (0 : Int) (1 : Int)) then (K (decide (n_.2.2.2.2.1 < n_.2.2.1))) else (K false))
def a7j : Bool := b2q n_ (fun y => y)
theorem c75 (K : Bool → β) : b2q n_ K = K (a7j n_) := (Q2h K rfl rfl)
abbrev S78_7 : St := ⟨[(1, ri many), (2, rC a01 n_), (5, ri (a08 n_)), (6, rb (a0a n_)), (7, rb (a7j n_))], [], [], 119⟩
theorem d4c : R78 C78.r.r.r.r.r.r.l.r.t (S78_6 n_ many) q = q .normal (S78_7 n_ many) := Eq.trans (by kernel_rfl) (c75 n_ (fun y1441 : Bool => q .normal ⟨[(1, ri many), (2, rC a01 n_), (5, ri (a08 n_)), (6, rb (a0a n_)), (7, rb y1441)], [], [], 119⟩))
def a7h (K : Bool → β) : β := (bif (a45 n_) then (K (a7j n_)) else (K (n_.2.2.2.2.1 == 0)))
def a43 : Bool := a7h n_ (fun y => y)
theorem c71 (K : Bool → β) : a7h n_ K = K (a43 n_) := (Q2h K rfl rfl)
abbrev S78_8 : St := ⟨[(1, ri many), (2, rC a01 n_), (5, ri (a08 n_)), (6, rb (a0a n_)), (7, rb (a43 n_))], [], [], 119⟩
theorem d47 : R78 C78.r.r.r.r.r.r.l (S78_6 n_ many) (Q78 C78.r.r.r.r.r.r.r q) = R78 C78.r.r.r.r.r.r.r (S78_8 n_ many) q := by
  refine Eq.trans ?_ (c71 n_ (fun y1442 : Bool => R78 C78.r.r.r.r.r.r.r ⟨[(1, ri many), (2, rC a01 n_), (5, ri (a08 n_)), (6, rb (a0a n_)), (7, rb y1442)], [], [], 119⟩ q))
  unfold a7h
  refine (Q2d (d4b n_ many _)).trans ?_
  refine (Q0m (b := (a45 n_)) (st' := (S78_6 n_ many)) ).trans (Q2f ?_ ?_)
  · refine (d4c n_ many _).trans ?_
    refine (Q0a (st' := (S78_7 n_ many))).trans ?_
    kernel_rfl
  · refine (Q0i).trans ?_
    refine (Q0a (st' := (S78_6 n_ many))).trans ?_
    kernel_rfl
theorem b99 : P78 1 C78.r.r.r.r.r.r.r.l (S78_8 n_ many) k = k ⟨[(1, ri many), (2, rC a01 n_), (5, ri (a08 n_)), (6, rb (a0a n_)), (7, rb (a43 n_)), (56, rb (n_.1 == 9))], [], [], 119⟩ := by kernel_rfl
abbrev S78_9 : St := ⟨[(1, ri many), (2, rC a01 n_), (5, ri (a08 n_)), (6, rb (a0a n_)), (7, rb (n_.2.2.2.2.1 == 1))], [], [], 119⟩
theorem d0j : R78 C78.r.r.r.r.r.r.r.l.r.t (S78_8 n_ many) q = q .normal (S78_9 n_ many) := by kernel_rfl
def a61 (K : Bool → β) : β := (bif (n_.1 == 9) then (K (n_.2.2.2.2.1 == 1)) else (K (a43 n_)))
def a0i : Bool := a61 n_ (fun y => y)
theorem c4f (K : Bool → β) : a61 n_ K = K (a0i n_) := (Q2h K rfl rfl)
abbrev e0c : St := ⟨[(1, ri many), (2, rC a01 n_), (5, ri (a08 n_)), (6, rb (a0a n_)), (7, rb (a0i n_))], [], [], 119⟩
theorem d0h : R78 C78.r.r.r.r.r.r.r.l (S78_8 n_ many) (Q78 C78.r.r.r.r.r.r.r.r q) = R78 C78.r.r.r.r.r.r.r.r (e0c n_ many) q := by
  refine Eq.trans ?_ (c4f n_ (fun y1443 : Bool => R78 C78.r.r.r.r.r.r.r.r ⟨[(1, ri many), (2, rC a01 n_), (5, ri (a08 n_)), (6, rb (a0a n_)), (7, rb y1443)], [], [], 119⟩ q))
  unfold a61
  refine (Q2d (b99 n_ many _)).trans ?_
  refine (Q0m (b := (n_.1 == 9)) (st' := (S78_8 n_ many)) ).trans (Q2f ?_ ?_)
  · refine (d0j n_ many _).trans ?_
    refine (Q0a (st' := (S78_9 n_ many))).trans ?_
    kernel_rfl
  · refine (Q0i).trans ?_
    refine (Q0a (st' := (S78_8 n_ many))).trans ?_
    kernel_rfl
abbrev b3y : St := ⟨[(1, ri many), (2, rC a01 n_), (5, ri (a08 n_)), (6, rb (a0a n_)), (7, rb (a0i n_)), (8, rb (n_.2.2.2.2.2.1 == 0))], [], [], 119⟩
theorem d0g : P78 1 C78.r.r.r.r.r.r.r.r (e0c n_ many) k = k (b3y n_ many) := by kernel_rfl
def b1e (K : Bool → β) : β := (bif (n_.1 == 1) then (K true) else (K (n_.1 == 3)))
def a39 : Bool := b1e n_ (fun y => y)
theorem c4h (K : Bool → β) : b1e n_ K = K (a39 n_) := (Q2h K rfl rfl)
theorem d0k : P78 1 C78.r.r.r.r.r.r.r.r.r.l (b3y n_ many) k = k ⟨[(1, ri many), (2, rC a01 n_), (5, ri (a08 n_)), (6, rb (a0a n_)), (7, rb (a0i n_)), (8, rb (n_.2.2.2.2.2.1 == 0)), (70, rb (a39 n_))], [], [], 119⟩ := Eq.trans (by kernel_rfl) (c4h n_ (fun y1444 : Bool => k ⟨[(1, ri many), (2, rC a01 n_), (5, ri (a08 n_)), (6, rb (a0a n_)), (7, rb (a0i n_)), (8, rb (n_.2.2.2.2.2.1 == 0)), (70, rb y1444)], [], [], 119⟩))
abbrev e0d : St := ⟨[(1, ri many), (2, rC a01 n_), (5, ri (a08 n_)), (6, rb (a0a n_)), (7, rb (a0i n_)), (8, rb (a1i n_.2.2.2.2.2.1 (1 : Int) (8 : Int)))], [], [], 119⟩
theorem d0l : R78 C78.r.r.r.r.r.r.r.r.r.l.r.t (b3y n_ many) q = q .normal (e0d n_ many) := by kernel_rfl
def a62 (K : Bool → β) : β := (bif (a39 n_) then (K (a1i n_.2.2.2.2.2.1 (1 : Int) (8 : Int))) else (K (n_.2.2.2.2.2.1 == 0)))
def a17 : Bool := a62 n_ (fun y => y)
theorem c4g (K : Bool → β) : a62 n_ K = K (a17 n_) := (Q2h K rfl rfl)
abbrev e0e : St := ⟨[(1, ri many), (2, rC a01 n_), (5, ri (a08 n_)), (6, rb (a0a n_)), (7, rb (a0i n_)), (8, rb (a17 n_))], [], [], 119⟩
theorem d0i : R78 C78.r.r.r.r.r.r.r.r.r.l (b3y n_ many) (Q78 C78.r.r.r.r.r.r.r.r.r.r q) = R78 C78.r.r.r.r.r.r.r.r.r.r (e0e n_ many) q := by
  refine Eq.trans ?_ (c4g n_ (fun y1445 : Bool => R78 C78.r.r.r.r.r.r.r.r.r.r ⟨[(1, ri many), (2, rC a01 n_), (5, ri (a08 n_)), (6, rb (a0a n_)), (7, rb (a0i n_)), (8, rb y1445)], [], [], 119⟩ q))
  unfold a62
  refine (Q2d (d0k n_ many _)).trans ?_
  refine (Q0m (b := (a39 n_)) (st' := (b3y n_ many)) ).trans (Q2f ?_ ?_)
  · refine (d0l n_ many _).trans ?_
    refine (Q0a (st' := (e0d n_ many))).trans ?_
    kernel_rfl
  · refine (Q0i).trans ?_
    refine (Q0a (st' := (b3y n_ many))).trans ?_
    kernel_rfl
def b1f (K : Bool → β) : β := (bif ((n_.2.2.2.2.2.2.2.2.2.1 == 0) && ((n_.2.2.2.2.2.2.2.2.2.2.1 == 0) && ((n_.2.2.2.2.2.2.2.2.2.2.2.1 == 0) && true))) then (K true) else (K (n_.1 == 11)))
def a20 : Bool := b1f n_ (fun y => y)
theorem c4i (K : Bool → β) : b1f n_ K = K (a20 n_) := (Q2h K rfl rfl)
abbrev e0f : St := ⟨[(1, ri many), (2, rC a01 n_), (5, ri (a08 n_)), (6, rb (a0a n_)), (7, rb (a0i n_)), (8, rb (a17 n_)), (9, rb (a20 n_))], [], [], 119⟩
theorem d0m : P78 1 C78.r.r.r.r.r.r.r.r.r.r (e0e n_ many) k = k (e0f n_ many) := Eq.trans (by kernel_rfl) (c4i n_ (fun y1446 : Bool => k ⟨[(1, ri many), (2, rC a01 n_), (5, ri (a08 n_)), (6, rb (a0a n_)), (7, rb (a0i n_)), (8, rb (a17 n_)), (9, rb y1446)], [], [], 119⟩))
def b1g (K : Bool → β) : β := (bif (a1i n_.2.2.2.2.2.2.1 (1 : Int) (32767 : Int)) then (bif (a1i n_.2.2.2.2.2.2.2.1 (0 : Int) (31 : Int)) then (K (a1i n_.2.2.2.2.2.2.2.2.1 (-128 : Int) (127 : Int))) else (K false)) else (K false))
def a63 : Bool := b1g n_ (fun y => y)
theorem c4j (K : Bool → β) : b1g n_ K = K (a63 n_) := (Q2h K (Q2h K rfl rfl) rfl)
abbrev e0g : St := ⟨[(1, ri many), (2, rC a01 n_), (5, ri (a08 n_)), (6, rb (a0a n_)), (7, rb (a0i n_)), (8, rb (a17 n_)), (9, rb (a20 n_)), (10, rb (a63 n_))], [], [], 119⟩
theorem d0n : P78 1 C78.r.r.r.r.r.r.r.r.r.r.r (e0f n_ many) k = k (e0g n_ many) := Eq.trans (by kernel_rfl) (c4j n_ (fun y1447 : Bool => k ⟨[(1, ri many), (2, rC a01 n_), (5, ri (a08 n_)), (6, rb (a0a n_)), (7, rb (a0i n_)), (8, rb (a17 n_)), (9, rb (a20 n_)), (10, rb y1447)], [], [], 119⟩))
def b1h (K : Bool → β) : β := (bif (a1i n_.1 (1 : Int) (12 : Int)) then (bif (many == (a08 n_)) then (bif (a0a n_) then (bif (a0i n_) then (bif (a17 n_) then (bif (a20 n_) then (K (a63 n_)) else (K false)) else (K false)) else (K false)) else (K false)) else (K false)) else (K false))
def a64 : Bool := b1h n_ many (fun y => y)
theorem c4k (K : Bool → β) : b1h n_ many K = K (a64 n_ many) := (Q2h K (Q2h K (Q2h K (Q2h K (Q2h K (Q2h K rfl rfl) rfl) rfl) rfl) rfl) rfl)
theorem d0o : P78 1 C78.r.r.r.r.r.r.r.r.r.r.r.r (e0g n_ many) k = k ⟨[(4, rb (a64 n_ many))], [], [], 119⟩ := Eq.trans (by kernel_rfl) (c4k n_ many (fun y1448 : Bool => k ⟨[(4, rb y1448)], [], [], 119⟩))
def b1d (K : Bool → β) : β := (K (a64 n_ many))
def a4k : Bool := b1d n_ many (fun y => y)
theorem d84 (K : Bool → β) : b1d n_ many K = K (a4k n_ many) := rfl
theorem d44 : Q2j E cp74 ce4 25 [rA a01 n_, ri many] = (fun y : Bool => some (rb y : R)) (a4k n_ many) := by
  refine Eq.trans ?_ (d84 n_ many (fun y : Bool => some (rb y : R)))
  refine (Q0l (nt := 119) (regs := [(0, rA a01 n_), (1, ri many)])).trans ?_
  unfold b1d
  refine (pre2 (d42 n_ many _)).trans ?_
  refine .trans Q0c ?_
  refine (d45 n_ many _).trans ?_
  refine (Q2d (d49 n_ many _)).trans ?_
  refine .trans Q0c ?_
  refine (d46 n_ many _).trans ?_
  refine (Q2d (d43 n_ many _)).trans ?_
  refine .trans Q0c ?_
  refine (d47 n_ many _).trans ?_
  refine .trans Q0c ?_
  refine (d0h n_ many _).trans ?_
  refine (Q2d (d0g n_ many _)).trans ?_
  refine .trans Q0c ?_
  refine (d0i n_ many _).trans ?_
  refine (Q2d (d0m n_ many _)).trans ?_
  refine (Q2d (d0n n_ many _)).trans ?_
  refine (Q2d (d0o n_ many _)).trans ?_
  refine (Q0h).trans ?_
  kernel_rfl
noncomputable def cp75 : Q2g := Q2i cp74 25 [(.agg a01), pI] (.one pB) (fun y : Bool => y) (fun x => some (a4k x.1 x.2.1))
theorem e48 : Q0p E cp75 := conS eok e47 a0r fun x => Eq.mp (by kernel_rfl) (d44 x.1 x.2.1)
end
noncomputable abbrev C79 := Q0r E.P 26
noncomputable abbrev P79 {α : Type} := @preK α E 26 cp75 ce4
def b16 {β : Type} (op : Int) (K : Bool → β) : β := (bif (op == 4) then (K true) else (bif (op == 5) then (K true) else (bif (op == 8) then (K true) else (bif (op == 9) then (K true) else (bif (op == 10) then (K true) else (K (op == 11)))))))
def a5z (op : Int) : Bool := b16 op (fun y => y)
theorem c4c {β : Type} (op : Int) (K : Bool → β) : b16 op K = K (a5z op) := (Q2h K rfl (Q2h K rfl (Q2h K rfl (Q2h K rfl (Q2h K rfl rfl)))))
theorem d08 {α : Type} (op : Int) (k : St → Option α) : P79 2 C79 ⟨[(0, ri op)], [], [], 25⟩ k = k ⟨[(2, rb (a5z op))], [], [], 25⟩ := Eq.trans (by kernel_rfl) (c4c op (fun y1450 : Bool => k ⟨[(2, rb y1450)], [], [], 25⟩))
def a9a {β : Type} (op : Int) (K : Bool → β) : β := (K (a5z op))
def a8o (op : Int) : Bool := a9a op (fun y => y)
theorem d3m {β : Type} (op : Int) (K : Bool → β) : a9a op K = K (a8o op) := rfl
theorem d07 (op : Int) : Q2j E cp75 ce4 26 [ri op] = (fun y : Bool => some (rb y : R)) (a8o op) := by
  refine Eq.trans ?_ (d3m op (fun y : Bool => some (rb y : R)))
  refine (Q0l (nt := 25) (regs := [(0, ri op)])).trans ?_
  unfold a9a
  refine (pre2 (d08 op _)).trans ?_
  refine (Q0h).trans ?_
  kernel_rfl
noncomputable def cp76 : Q2g := Q2i cp75 26 [pI] (.one pB) (fun y : Bool => y) (fun x => some (a8o x.1))
theorem e49 : Q0p E cp76 := conS eok e48 a0r fun x => Eq.mp (by kernel_rfl) (d07 x.1)
section
variable {α β : Type} (size : Int) (k_ : Int) (stride : Int) (pad : Int) (s1495 : (Int × Int)) (y1496 : (Int × Int)) (k : St → Option α) (q : Kont α)
noncomputable abbrev C80 := Q0r E.P 43
noncomputable abbrev P80 := @preK α E 43 cp76 ce4
noncomputable abbrev R80 := @Q0o α E 43 cp76 ce4
abbrev S80_0 : St := ⟨[(0, ri size), (1, ri k_), (2, ri stride), (3, ri pad)], [], [], 56⟩
theorem d7r : P80 1 C80 (S80_0 size k_ stride pad) k = k (S80_0 size k_ stride pad) := by kernel_rfl
def b5i (K : Bool → β) : β := (bif (decide (size < 1)) then (K true) else (bif (decide (size > 64)) then (K true) else (bif (decide (k_ < 1)) then (K true) else (bif (decide (k_ > 16)) then (K true) else (bif (decide (stride < 1)) then (K true) else (bif (decide (stride > 16)) then (K true) else (bif (decide (pad < 0)) then (K true) else (K (decide (pad > 16))))))))))
def a4j : Bool := b5i size k_ stride pad (fun y => y)
theorem c9v (K : Bool → β) : b5i size k_ stride pad K = K (a4j size k_ stride pad) := (Q2h K rfl (Q2h K rfl (Q2h K rfl (Q2h K rfl (Q2h K rfl (Q2h K rfl (Q2h K rfl rfl)))))))
theorem d7x : P80 1 C80.r.l (S80_0 size k_ stride pad) k = k ⟨[(0, ri size), (1, ri k_), (2, ri stride), (3, ri pad), (40, rb (a4j size k_ stride pad))], [], [], 56⟩ := Eq.trans (by kernel_rfl) (c9v size k_ stride pad (fun y1486 : Bool => k ⟨[(0, ri size), (1, ri k_), (2, ri stride), (3, ri pad), (40, rb y1486)], [], [], 56⟩))
theorem d7u : P80 1 C80.r.l.r.t (S80_0 size k_ stride pad) k = k ⟨[(8, ri 0)], [], [], 56⟩ := by kernel_rfl
theorem d7s : P80 1 C80.r.r (S80_0 size k_ stride pad) k = k ⟨[(0, ri size), (1, ri k_), (2, ri stride), (3, ri pad), (9, ri 0)], [], [], 56⟩ := by kernel_rfl
abbrev S80_1 : St := ⟨[(0, ri size), (1, ri k_), (2, ri stride), (3, ri pad), (9, ri 0), (10, ri (IntKind.wrap .i64 (0 - pad)))], [], [], 56⟩
theorem d7t : P80 1 C80.r.r.r.l ⟨[(0, ri size), (1, ri k_), (2, ri stride), (3, ri pad), (9, ri 0)], [], [], 56⟩ k = k (S80_1 size k_ stride pad) := by kernel_rfl
abbrev S80_2 : St := ⟨[(0, ri size), (1, ri k_), (2, ri stride), (3, ri pad), (9, ri s1495.1), (10, ri s1495.2)], [], [], 56⟩
theorem c9s : P80 1 C80.r.r.r.l.r.b.b.l (S80_2 size k_ stride pad s1495) k = k ⟨[(0, ri size), (1, ri k_), (2, ri stride), (3, ri pad), (9, ri s1495.1), (10, ri s1495.2), (49, rb (decide ((IntKind.wrap .i64 (s1495.2 + k_)) ≤ (IntKind.wrap .i64 (size + pad)))))], [], [], 56⟩ := by kernel_rfl
abbrev S80_3 : St := ⟨[(0, ri size), (1, ri k_), (2, ri stride), (3, ri pad), (9, ri (IntKind.wrap .i64 (s1495.1 + 1))), (10, ri s1495.2)], [], [], 56⟩
theorem d7z : R80 C80.r.r.r.l.r.b.b.r.l.b (S80_2 size k_ stride pad s1495) q = q .normal (S80_3 size k_ stride pad s1495) := by kernel_rfl
theorem d7y : R80 C80.r.r.r.l.r.b.b.r.r (S80_3 size k_ stride pad s1495) q = q .normal ⟨[(0, ri size), (1, ri k_), (2, ri stride), (3, ri pad), (9, ri (IntKind.wrap .i64 (s1495.1 + 1))), (10, ri (IntKind.wrap .i64 (s1495.2 + stride)))], [], [], 56⟩ := by kernel_rfl
def a8i : Option ((Int × Int) ⊕ (Int × Int)) := (bif (decide ((IntKind.wrap .i64 (s1495.2 + k_)) ≤ (IntKind.wrap .i64 (size + pad)))) then (some (Sum.inl ((IntKind.wrap .i64 (s1495.1 + 1)), (IntKind.wrap .i64 (s1495.2 + stride))))) else (some (Sum.inr s1495)))
abbrev S80_4 : St := ⟨[(0, ri size), (1, ri k_), (2, ri stride), (3, ri pad), (9, ri y1496.1), (10, ri y1496.2)], [], [], 56⟩
theorem c9u : R80 C80.r.r.r.l.r.b.b (S80_2 size k_ stride pad s1495) (Q0w 0 q) = Option.bind (a8i size k_ stride pad s1495) (Q1z (fun y : (Int × Int) => q .normal ⟨[(0, ri size), (1, ri k_), (2, ri stride), (3, ri pad), (9, ri y.1), (10, ri y.2)], [], [], 56⟩) (fun y1496 : (Int × Int) => q (.exit 0) (S80_4 size k_ stride pad y1496))) := by
  refine .trans ?_ (Q2b e2_0 e2_1)
  refine .trans Q0c ?_
  refine (Q2d (c9s size k_ stride pad s1495 _)).trans ?_
  refine (Q0m (b := (decide ((IntKind.wrap .i64 (s1495.2 + k_)) ≤ (IntKind.wrap .i64 (size + pad))))) (st' := (S80_2 size k_ stride pad s1495)) ).trans (Q2f ?_ ?_)
  · refine (Q0i).trans ?_
    refine (Q0a (st' := (S80_2 size k_ stride pad s1495))).trans ?_
    refine .trans Q0c ?_
    refine (Q0j (id := 1)).trans ?_
    refine (d7z size k_ stride pad s1495 _).trans ?_
    refine Q0f.trans ?_
    refine (Q0a (st' := (S80_3 size k_ stride pad s1495))).trans ?_
    refine (d7y size k_ stride pad s1495 _).trans ?_
    kernel_rfl
  · refine ((Q1f (j := 0))).trans ?_
    refine Q0v.trans ?_
    kernel_rfl
theorem d7w : R80 C80.r.r.r.l.r.b (S80_1 size k_ stride pad) q = Option.bind (iterN (a8i size k_ stride pad) LL ((0 : Int), (IntKind.wrap .i64 (0 - pad)))) (fun y1496 : (Int × Int) => q (.exit 0) (S80_4 size k_ stride pad y1496)) :=
  Eq.trans (by kernel_rfl) (Q1a (S := fun s1495 : (Int × Int) => (S80_2 size k_ stride pad s1495)) (Y1 := fun y1496 : (Int × Int) => ((.exit 0), (S80_4 size k_ stride pad y1496))) (fun s q => c9u size k_ stride pad s q) (fun z => rfl) LL ((0 : Int), (IntKind.wrap .i64 (0 - pad))))
theorem c9t : P80 1 C80.r.r.r.r ⟨[(9, ri y1496.1)], [], [], 56⟩ k = k ⟨[(8, ri y1496.1)], [], [], 56⟩ := by kernel_rfl
def b2j : Option Int := (bif (a4j size k_ stride pad) then (some (0 : Int)) else (Option.bind (iterN (a8i size k_ stride pad) LL ((0 : Int), (IntKind.wrap .i64 (0 - pad)))) (fun y1496 : (Int × Int) => (some y1496.1))))
theorem d7v : Q2j E cp76 ce4 43 [ri size, ri k_, ri stride, ri pad] = Option.bind (b2j size k_ stride pad) (fun y : Int => some (ri y : R)) := by
  refine .trans ?_ (Q2b Q0b (Q0d fun y1496 => Q0b))
  refine (Q0l (nt := 56) (regs := [(0, ri size), (1, ri k_), (2, ri stride), (3, ri pad)])).trans ?_
  refine (Q2d (d7r size k_ stride pad _)).trans ?_
  refine .trans Q0c ?_
  refine (Q2d (d7x size k_ stride pad _)).trans ?_
  refine (Q0m (b := (a4j size k_ stride pad)) (st' := (S80_0 size k_ stride pad)) ).trans (Q2f ?_ ?_)
  · refine (Q2d (d7u size k_ stride pad _)).trans ?_
    refine (Q0h).trans ?_
    refine Q0k.trans ?_
    kernel_rfl
  · refine (Q0i).trans ?_
    refine (Q0a (st' := (S80_0 size k_ stride pad))).trans ?_
    refine (Q2d (d7s size k_ stride pad _)).trans ?_
    refine .trans Q0c ?_
    refine (Q2d (d7t size k_ stride pad _)).trans ?_
    refine (Q0j (id := 0)).trans ?_
    refine (d7w size k_ stride pad _).trans (Q0e fun y1496 => ?_)
    refine Q0u.trans ?_
    refine (Q0a (st' := ⟨[(9, ri y1496.1)], [], [], 56⟩)).trans ?_
    refine (Q2d (c9t y1496 _)).trans ?_
    refine (Q0h).trans ?_
    kernel_rfl
noncomputable def cp77 : Q2g := Q2i cp76 43 [pI, pI, pI, pI] (.one pI) (fun y : Int => y) (fun x => b2j x.1 x.2.1 x.2.2.1 x.2.2.2.1)
theorem e4a : Q0p E cp77 := conS eok e49 a0r fun x => Eq.mp (by kernel_rfl) (d7v x.1 x.2.1 x.2.2.1 x.2.2.2.1)
end
section
variable {α β : Type} (n_ : Node) (l_ : (List I4)) (k : St → Option α) (q : Kont α)
noncomputable abbrev C81 := Q0r E.P 28
noncomputable abbrev P81 := @preK α E 28 cp77 ce4
noncomputable abbrev R81 := @Q0o α E 28 cp77 ce4
noncomputable abbrev Q81 := @seqC α E 28 cp77 ce4
def b2l : Option Unit := (bif (decide ((0 : Int) < (l_.length : Int))) then (some ()) else none)
abbrev S81_0 : St := ⟨[(1, rl Q2n l_), (2, rC a01 n_), (4, rF 0), (5, rF 1)], [[di 0, di 0, di 0], [di ((gt l_ (0 : Int) dI4).1), di ((gt l_ (0 : Int) dI4).2.1), di ((gt l_ (0 : Int) dI4).2.2.1)]], [], 117⟩
theorem d3u : P81 2 C81 ⟨[(0, rA a01 n_), (1, rl Q2n l_)], [], [], 117⟩ k = Option.bind (b2l l_) (fun y1482 : Unit => k (S81_0 n_ l_)) := .trans (by kernel_rfl) (Q2b Q0b Q0n)
abbrev S81_1 : St := ⟨[(1, rl Q2n l_), (2, rC a01 n_), (4, rF 0), (5, rF 1), (12, ri n_.1)], [[di 0, di 0, di 0], [di ((gt l_ (0 : Int) dI4).1), di ((gt l_ (0 : Int) dI4).2.1), di ((gt l_ (0 : Int) dI4).2.2.1)]], [], 117⟩
theorem d3n : P81 1 C81.r.r.l (S81_0 n_ l_) k = k (S81_1 n_ l_) := by kernel_rfl
abbrev S81_2 : St := ⟨[(1, rl Q2n l_), (2, rC a01 n_), (4, rF 0), (5, rF 1), (12, ri n_.1), (13, rb (n_.1 == 1))], [[di 0, di 0, di 0], [di ((gt l_ (0 : Int) dI4).1), di ((gt l_ (0 : Int) dI4).2.1), di ((gt l_ (0 : Int) dI4).2.2.1)]], [], 117⟩
theorem b8z : P81 1 C81.r.r.l.r.b.l (S81_1 n_ l_) k = k (S81_2 n_ l_) := by kernel_rfl
abbrev S81_3 : St := ⟨[(1, rl Q2n l_), (2, rC a01 n_), (4, rF 0), (5, rF 1), (12, ri n_.1), (13, rb (n_.1 == 2))], [[di 0, di 0, di 0], [di ((gt l_ (0 : Int) dI4).1), di ((gt l_ (0 : Int) dI4).2.1), di ((gt l_ (0 : Int) dI4).2.2.1)]], [], 117⟩
theorem b90 : P81 1 C81.r.r.l.r.b.l.r.e (S81_2 n_ l_) k = k (S81_3 n_ l_) := by kernel_rfl
abbrev S81_4 : St := ⟨[(1, rl Q2n l_), (2, rC a01 n_), (4, rF 0), (5, rF 1), (12, ri n_.1), (13, rb (n_.1 == 4))], [[di 0, di 0, di 0], [di ((gt l_ (0 : Int) dI4).1), di ((gt l_ (0 : Int) dI4).2.1), di ((gt l_ (0 : Int) dI4).2.2.1)]], [], 117⟩
theorem b91 : P81 1 C81.r.r.l.r.b.l.r.e.r.e (S81_3 n_ l_) k = k (S81_4 n_ l_) := by kernel_rfl
abbrev S81_5 : St := ⟨[(1, rl Q2n l_), (2, rC a01 n_), (4, rF 0), (5, rF 1), (12, ri n_.1), (13, rb (n_.1 == 5))], [[di 0, di 0, di 0], [di ((gt l_ (0 : Int) dI4).1), di ((gt l_ (0 : Int) dI4).2.1), di ((gt l_ (0 : Int) dI4).2.2.1)]], [], 117⟩
theorem d3v : R81 C81.r.r.l.r.b.l.r.e.r.e.r.e (S81_4 n_ l_) q = q .normal (S81_5 n_ l_) := by kernel_rfl
def a7c (K : Bool → β) : β := (bif (n_.1 == 1) then (K (n_.1 == 1)) else (bif (n_.1 == 2) then (K (n_.1 == 2)) else (bif (n_.1 == 4) then (K (n_.1 == 4)) else (K (n_.1 == 5)))))
def a41 : Bool := a7c n_ (fun y => y)
theorem c6t (K : Bool → β) : a7c n_ K = K (a41 n_) := (Q2h K rfl (Q2h K rfl (Q2h K rfl rfl)))
abbrev S81_6 : St := ⟨[(1, rl Q2n l_), (2, rC a01 n_), (4, rF 0), (5, rF 1), (12, ri n_.1), (13, rb (a41 n_))], [[di 0, di 0, di 0], [di ((gt l_ (0 : Int) dI4).1), di ((gt l_ (0 : Int) dI4).2.1), di ((gt l_ (0 : Int) dI4).2.2.1)]], [], 117⟩
theorem d3s : R81 C81.r.r.l.r.b.l (S81_1 n_ l_) (Q81 C81.r.r.l.r.b.r q) = R81 C81.r.r.l.r.b.r (S81_6 n_ l_) q := by
  refine Eq.trans ?_ (c6t n_ (fun y1483 : Bool => R81 C81.r.r.l.r.b.r ⟨[(1, rl Q2n l_), (2, rC a01 n_), (4, rF 0), (5, rF 1), (12, ri n_.1), (13, rb y1483)], [[di 0, di 0, di 0], [di ((gt l_ (0 : Int) dI4).1), di ((gt l_ (0 : Int) dI4).2.1), di ((gt l_ (0 : Int) dI4).2.2.1)]], [], 117⟩ q))
  unfold a7c
  refine (Q2d (b8z n_ l_ _)).trans ?_
  refine (cond_s (b := (n_.1 == 1)) ).trans (Q2f ?_ ?_)
  · refine (Q0i).trans ?_
    refine (Q0a (st' := (S81_2 n_ l_))).trans ?_
    kernel_rfl
  · refine (Q2d (b90 n_ l_ _)).trans ?_
    refine (cond_s (b := (n_.1 == 2)) ).trans (Q2f ?_ ?_)
    · refine (Q0i).trans ?_
      refine (Q0a (st' := (S81_3 n_ l_))).trans ?_
      kernel_rfl
    · refine (Q2d (b91 n_ l_ _)).trans ?_
      refine (cond_s (b := (n_.1 == 4)) ).trans (Q2f ?_ ?_)
      · refine (Q0i).trans ?_
        refine (Q0a (st' := (S81_4 n_ l_))).trans ?_
        kernel_rfl
      · refine (d3v n_ l_ _).trans ?_
        refine (Q0a (st' := (S81_5 n_ l_))).trans ?_
        kernel_rfl
abbrev S81_7 : St := ⟨[(2, rC a01 n_), (4, rF 0), (5, rF 1), (6, ri ((gt l_ (0 : Int) dI4).2.2.1))], [[di 0, di 0, di 0], [di ((gt l_ (0 : Int) dI4).1), di ((gt l_ (0 : Int) dI4).2.1), di ((gt l_ (0 : Int) dI4).2.2.1)]], [], 117⟩
theorem d3o : P81 1 C81.r.r.l.r.b.r.t (S81_6 n_ l_) k = k (S81_7 n_ l_) := by kernel_rfl
theorem b8u : P81 1 C81.r.r.l.r.b.r.t.r.l (S81_7 n_ l_) k = k ⟨[(2, rC a01 n_), (4, rF 0), (5, rF 1), (6, ri ((gt l_ (0 : Int) dI4).2.2.1)), (22, rb (n_.1 == 1))], [[di 0, di 0, di 0], [di ((gt l_ (0 : Int) dI4).1), di ((gt l_ (0 : Int) dI4).2.1), di ((gt l_ (0 : Int) dI4).2.2.1)]], [], 117⟩ := by kernel_rfl
abbrev S81_8 : St := ⟨[(2, rC a01 n_), (4, rF 0), (5, rF 1), (6, ri n_.2.2.2.2.2.1)], [[di 0, di 0, di 0], [di ((gt l_ (0 : Int) dI4).1), di ((gt l_ (0 : Int) dI4).2.1), di ((gt l_ (0 : Int) dI4).2.2.1)]], [], 117⟩
theorem d3w : R81 C81.r.r.l.r.b.r.t.r.l.r.t (S81_7 n_ l_) q = q .normal (S81_8 n_ l_) := by kernel_rfl
def a7d (K : Int → β) : β := (bif (n_.1 == 1) then (K n_.2.2.2.2.2.1) else (K ((gt l_ (0 : Int) dI4).2.2.1)))
def a42 : Int := a7d n_ l_ (fun y => y)
theorem c6u (K : Int → β) : a7d n_ l_ K = K (a42 n_ l_) := (Q2h K rfl rfl)
abbrev S81_9 : St := ⟨[(2, rC a01 n_), (4, rF 0), (5, rF 1), (6, ri (a42 n_ l_))], [[di 0, di 0, di 0], [di ((gt l_ (0 : Int) dI4).1), di ((gt l_ (0 : Int) dI4).2.1), di ((gt l_ (0 : Int) dI4).2.2.1)]], [], 117⟩
theorem d3t : R81 C81.r.r.l.r.b.r.t.r.l (S81_7 n_ l_) (Q81 C81.r.r.l.r.b.r.t.r.r q) = R81 C81.r.r.l.r.b.r.t.r.r (S81_9 n_ l_) q := by
  refine Eq.trans ?_ (c6u n_ l_ (fun y1484 : Int => R81 C81.r.r.l.r.b.r.t.r.r ⟨[(2, rC a01 n_), (4, rF 0), (5, rF 1), (6, ri y1484)], [[di 0, di 0, di 0], [di ((gt l_ (0 : Int) dI4).1), di ((gt l_ (0 : Int) dI4).2.1), di ((gt l_ (0 : Int) dI4).2.2.1)]], [], 117⟩ q))
  unfold a7d
  refine (Q2d (b8u n_ l_ _)).trans ?_
  refine (Q0m (b := (n_.1 == 1)) (st' := (S81_7 n_ l_)) ).trans (Q2f ?_ ?_)
  · refine (d3w n_ l_ _).trans ?_
    refine (Q0a (st' := (S81_8 n_ l_))).trans ?_
    kernel_rfl
  · refine (Q0i).trans ?_
    refine (Q0a (st' := (S81_7 n_ l_))).trans ?_
    kernel_rfl
def b17 : Option (Int × Int) := (Option.bind (b2j ((gt l_ (0 : Int) dI4).1) n_.2.2.1 n_.2.2.2.1 n_.2.2.2.2.1) (fun y1497 : Int => (Option.bind (b2j ((gt l_ (0 : Int) dI4).2.1) n_.2.2.1 n_.2.2.2.1 n_.2.2.2.2.1) (fun y1498 : Int => (some (y1497, y1498))))))
theorem d0a : P81 1 C81.r.r.l.r.b.r.t.r.r (S81_9 n_ l_) k = Option.bind (b17 n_ l_) (fun y1499 : (Int × Int) => k ⟨[(4, rF 0)], [[di y1499.1, di y1499.2, di (a42 n_ l_)], []], [], 117⟩) := .trans (by kernel_rfl) (Q0d fun y1497 => (Q0d fun y1498 => Q0b))
theorem b8v : P81 1 C81.r.r.l.r.b.r.e (S81_6 n_ l_) k = k ⟨[(1, rl Q2n l_), (2, rC a01 n_), (4, rF 0), (5, rF 1), (12, ri n_.1), (45, rb (n_.1 == 3))], [[di 0, di 0, di 0], [di ((gt l_ (0 : Int) dI4).1), di ((gt l_ (0 : Int) dI4).2.1), di ((gt l_ (0 : Int) dI4).2.2.1)]], [], 117⟩ := by kernel_rfl
theorem d3p : P81 1 C81.r.r.l.r.b.r.e.r.t (S81_1 n_ l_) k = k ⟨[(4, rF 0)], [[di 1, di 1, di n_.2.2.2.2.2.1], []], [], 117⟩ := by kernel_rfl
abbrev d4w : St := ⟨[(1, rl Q2n l_), (2, rC a01 n_), (4, rF 0), (5, rF 1), (12, ri n_.1), (50, rb (n_.1 == 6))], [[di 0, di 0, di 0], [di ((gt l_ (0 : Int) dI4).1), di ((gt l_ (0 : Int) dI4).2.1), di ((gt l_ (0 : Int) dI4).2.2.1)]], [], 117⟩
theorem b92 : P81 1 C81.r.r.l.r.b.r.e.r.e.l (S81_1 n_ l_) k = k (d4w n_ l_) := by kernel_rfl
abbrev e0h : St := ⟨[(1, rl Q2n l_), (2, rC a01 n_), (4, rF 0), (5, rF 1), (12, ri n_.1), (50, rb (n_.1 == 7))], [[di 0, di 0, di 0], [di ((gt l_ (0 : Int) dI4).1), di ((gt l_ (0 : Int) dI4).2.1), di ((gt l_ (0 : Int) dI4).2.2.1)]], [], 117⟩
theorem d0b : R81 C81.r.r.l.r.b.r.e.r.e.l.r.e (d4w n_ l_) q = q .normal (e0h n_ l_) := by kernel_rfl
def a60 (K : Bool → β) : β := (bif (n_.1 == 6) then (K (n_.1 == 6)) else (K (n_.1 == 7)))
def a37 : Bool := a60 n_ (fun y => y)
theorem c4d (K : Bool → β) : a60 n_ K = K (a37 n_) := (Q2h K rfl rfl)
abbrev d4x : St := ⟨[(1, rl Q2n l_), (2, rC a01 n_), (4, rF 0), (5, rF 1), (12, ri n_.1), (50, rb (a37 n_))], [[di 0, di 0, di 0], [di ((gt l_ (0 : Int) dI4).1), di ((gt l_ (0 : Int) dI4).2.1), di ((gt l_ (0 : Int) dI4).2.2.1)]], [], 117⟩
theorem d09 : R81 C81.r.r.l.r.b.r.e.r.e.l (S81_1 n_ l_) (Q81 C81.r.r.l.r.b.r.e.r.e.r q) = R81 C81.r.r.l.r.b.r.e.r.e.r (d4x n_ l_) q := by
  refine Eq.trans ?_ (c4d n_ (fun y1500 : Bool => R81 C81.r.r.l.r.b.r.e.r.e.r ⟨[(1, rl Q2n l_), (2, rC a01 n_), (4, rF 0), (5, rF 1), (12, ri n_.1), (50, rb y1500)], [[di 0, di 0, di 0], [di ((gt l_ (0 : Int) dI4).1), di ((gt l_ (0 : Int) dI4).2.1), di ((gt l_ (0 : Int) dI4).2.2.1)]], [], 117⟩ q))
  unfold a60
  refine (Q2d (b92 n_ l_ _)).trans ?_
  refine (cond_s (b := (n_.1 == 6)) ).trans (Q2f ?_ ?_)
  · refine (Q0i).trans ?_
    refine (Q0a (st' := (d4w n_ l_))).trans ?_
    kernel_rfl
  · refine (d0b n_ l_ _).trans ?_
    refine (Q0a (st' := (e0h n_ l_))).trans ?_
    kernel_rfl
def b18 : Option Bool := (bif (decide ((1 : Int) < (l_.length : Int))) then (some (!((((gt l_ (1 : Int) dI4).1) == ((gt l_ (0 : Int) dI4).1)) && ((((gt l_ (1 : Int) dI4).2.1) == ((gt l_ (0 : Int) dI4).2.1)) && ((((gt l_ (1 : Int) dI4).2.2.1) == ((gt l_ (0 : Int) dI4).2.2.1)) && true))))) else none)
theorem d0c : P81 1 C81.r.r.l.r.b.r.e.r.e.r.t (d4x n_ l_) k = Option.bind (b18 l_) (fun y1501 : Bool => k ⟨[(4, rF 0), (5, rF 1), (58, rb y1501)], [[di 0, di 0, di 0], [di ((gt l_ (0 : Int) dI4).1), di ((gt l_ (0 : Int) dI4).2.1), di ((gt l_ (0 : Int) dI4).2.2.1)]], [], 117⟩) := .trans (by kernel_rfl) (Q2b Q0b Q0n)
abbrev b3z : St := ⟨[(4, rF 0), (5, rF 1)], [[di 0, di 0, di 0], [di ((gt l_ (0 : Int) dI4).1), di ((gt l_ (0 : Int) dI4).2.1), di ((gt l_ (0 : Int) dI4).2.2.1)]], [], 117⟩
abbrev d4y : St := ⟨[(4, rF 0)], [[di 0, di 0, di 0], []], [], 117⟩
theorem c6n : P81 1 C81.r.r.l.r.b.r.e.r.e.r.t.r.t (b3z l_) k = k d4y := by kernel_rfl
theorem b8w : P81 1 C81.r.r.l.r.b.r.e.r.e.r.e (d4x n_ l_) k = k ⟨[(1, rl Q2n l_), (2, rC a01 n_), (4, rF 0), (5, rF 1), (12, ri n_.1), (60, rb (n_.1 == 9))], [[di 0, di 0, di 0], [di ((gt l_ (0 : Int) dI4).1), di ((gt l_ (0 : Int) dI4).2.1), di ((gt l_ (0 : Int) dI4).2.2.1)]], [], 117⟩ := by kernel_rfl
theorem c6o : P81 1 C81.r.r.l.r.b.r.e.r.e.r.e.r.t (S81_1 n_ l_) k = k ⟨[(4, rF 0)], [[di (IntKind.wrap .i64 (((gt l_ (0 : Int) dI4).1) + 2)), di (IntKind.wrap .i64 (((gt l_ (0 : Int) dI4).2.1) + 2)), di ((gt l_ (0 : Int) dI4).2.2.1)], []], [], 117⟩ := by kernel_rfl
theorem b8x : P81 1 C81.r.r.l.r.b.r.e.r.e.r.e.r.e (S81_1 n_ l_) k = k ⟨[(1, rl Q2n l_), (2, rC a01 n_), (4, rF 0), (5, rF 1), (12, ri n_.1), (71, rb (n_.1 == 10))], [[di 0, di 0, di 0], [di ((gt l_ (0 : Int) dI4).1), di ((gt l_ (0 : Int) dI4).2.1), di ((gt l_ (0 : Int) dI4).2.2.1)]], [], 117⟩ := by kernel_rfl
def b19 : Option Bool := (bif (decide ((1 : Int) < (l_.length : Int))) then (bif (((gt l_ (1 : Int) dI4).1) != ((gt l_ (0 : Int) dI4).1)) then (some true) else (bif (decide ((1 : Int) < (l_.length : Int))) then (some (((gt l_ (1 : Int) dI4).2.1) != ((gt l_ (0 : Int) dI4).2.1))) else none)) else none)
theorem d0d : P81 1 C81.r.r.l.r.b.r.e.r.e.r.e.r.e.r.t.l (S81_1 n_ l_) k = Option.bind (b19 l_) (fun y1503 : Bool => k ⟨[(1, rl Q2n l_), (4, rF 0), (5, rF 1), (90, rb y1503)], [[di 0, di 0, di 0], [di ((gt l_ (0 : Int) dI4).1), di ((gt l_ (0 : Int) dI4).2.1), di ((gt l_ (0 : Int) dI4).2.2.1)]], [], 117⟩) := .trans (by kernel_rfl) (Q2b (Q2b Q0b (Q2b Q0b Q0n)) Q0n)
abbrev c4v : St := ⟨[(1, rl Q2n l_), (4, rF 0), (5, rF 1)], [[di 0, di 0, di 0], [di ((gt l_ (0 : Int) dI4).1), di ((gt l_ (0 : Int) dI4).2.1), di ((gt l_ (0 : Int) dI4).2.2.1)]], [], 117⟩
theorem c6p : P81 1 C81.r.r.l.r.b.r.e.r.e.r.e.r.e.r.t.l.r.t (c4v l_) k = k d4y := by kernel_rfl
def b1a : Option Unit := (bif (decide ((1 : Int) < (l_.length : Int))) then (some ()) else none)
theorem d0e : P81 1 C81.r.r.l.r.b.r.e.r.e.r.e.r.e.r.t.r (c4v l_) k = Option.bind (b1a l_) (fun y1504 : Unit => k ⟨[(4, rF 0)], [[di ((gt l_ (0 : Int) dI4).1), di ((gt l_ (0 : Int) dI4).2.1), di (IntKind.wrap .i64 (((gt l_ (0 : Int) dI4).2.2.1) + ((gt l_ (1 : Int) dI4).2.2.1)))], []], [], 117⟩) := .trans (by kernel_rfl) (Q2b Q0b Q0n)
theorem b8y : P81 1 C81.r.r.l.r.b.r.e.r.e.r.e.r.e.r.e (S81_1 n_ l_) k = k ⟨[(2, rC a01 n_), (4, rF 0), (5, rF 1), (105, rb (n_.1 == 11))], [[di 0, di 0, di 0], [di ((gt l_ (0 : Int) dI4).1), di ((gt l_ (0 : Int) dI4).2.1), di ((gt l_ (0 : Int) dI4).2.2.1)]], [], 117⟩ := by kernel_rfl
def b1b (K : Bool → β) : β := (K ((a15 (n_.2.2.2.2.2.2.2.2.2.1, n_.2.2.2.2.2.2.2.2.2.2.1, n_.2.2.2.2.2.2.2.2.2.2.2.1)) != (a15 ((gt l_ (0 : Int) dI4).1, (gt l_ (0 : Int) dI4).2.1, (gt l_ (0 : Int) dI4).2.2.1))))
def a38 : Bool := b1b n_ l_ (fun y => y)
theorem c4e (K : Bool → β) : b1b n_ l_ K = K (a38 n_ l_) := rfl
abbrev e0i : St := ⟨[(2, rC a01 n_), (4, rF 0), (5, rF 1)], [[di 0, di 0, di 0], [di ((gt l_ (0 : Int) dI4).1), di ((gt l_ (0 : Int) dI4).2.1), di ((gt l_ (0 : Int) dI4).2.2.1)]], [], 117⟩
theorem d0f : P81 1 C81.r.r.l.r.b.r.e.r.e.r.e.r.e.r.e.r.t.l (e0i n_ l_) k = k ⟨[(2, rC a01 n_), (4, rF 0), (112, rb (a38 n_ l_))], [[di 0, di 0, di 0], []], [], 117⟩ := Eq.trans (by kernel_rfl) (c4e n_ l_ (fun y1506 : Bool => k ⟨[(2, rC a01 n_), (4, rF 0), (112, rb y1506)], [[di 0, di 0, di 0], []], [], 117⟩))
abbrev c4w : St := ⟨[(2, rC a01 n_), (4, rF 0)], [[di 0, di 0, di 0], []], [], 117⟩
theorem c6q : P81 1 C81.r.r.l.r.b.r.e.r.e.r.e.r.e.r.e.r.t.l.r.t (c4w n_) k = k d4y := by kernel_rfl
theorem c6r : P81 1 C81.r.r.l.r.b.r.e.r.e.r.e.r.e.r.e.r.t.r (c4w n_) k = k ⟨[(4, rF 0)], [[di n_.2.2.2.2.2.2.2.2.2.1, di n_.2.2.2.2.2.2.2.2.2.2.1, di n_.2.2.2.2.2.2.2.2.2.2.2.1], []], [], 117⟩ := by kernel_rfl
def b2k : Option (Unit ⊕ (Int × Int × Int)) := (bif (a41 n_) then (Option.bind (b17 n_ l_) (fun y1499 : (Int × Int) => (some (Sum.inr (y1499.1, y1499.2, (a42 n_ l_)))))) else (bif (n_.1 == 3) then (some (Sum.inr ((1 : Int), (1 : Int), n_.2.2.2.2.2.1))) else (bif (a37 n_) then (Option.bind (b18 l_) (fun y1501 : Bool => (bif y1501 then (some (Sum.inr ((0 : Int), (0 : Int), (0 : Int)))) else (some (Sum.inl ()))))) else (bif (n_.1 == 9) then (some (Sum.inr ((IntKind.wrap .i64 (((gt l_ (0 : Int) dI4).1) + 2)), (IntKind.wrap .i64 (((gt l_ (0 : Int) dI4).2.1) + 2)), (gt l_ (0 : Int) dI4).2.2.1))) else (bif (n_.1 == 10) then (Option.bind (b19 l_) (fun y1503 : Bool => (bif y1503 then (some (Sum.inr ((0 : Int), (0 : Int), (0 : Int)))) else (Option.bind (b1a l_) (fun y1504 : Unit => (some (Sum.inr ((gt l_ (0 : Int) dI4).1, (gt l_ (0 : Int) dI4).2.1, (IntKind.wrap .i64 (((gt l_ (0 : Int) dI4).2.2.1) + ((gt l_ (1 : Int) dI4).2.2.1))))))))))) else (bif (n_.1 == 11) then (bif (a38 n_ l_) then (some (Sum.inr ((0 : Int), (0 : Int), (0 : Int)))) else (some (Sum.inr (n_.2.2.2.2.2.2.2.2.2.1, n_.2.2.2.2.2.2.2.2.2.2.1, n_.2.2.2.2.2.2.2.2.2.2.2.1)))) else (some (Sum.inl ()))))))))
theorem d3r : R81 C81.r.r.l (S81_0 n_ l_) (Q81 C81.r.r.r q) = Option.bind (b2k n_ l_) (Q1z (fun y1507 : Unit => R81 C81.r.r.r (b3z l_) q) (fun y1508 : (Int × Int × Int) => q .ret ⟨[(4, rF 0)], [(Q2o.leaves y1508), []], [], 117⟩)) := by
  refine .trans ?_ (Q2b (Q0d fun y1499 => e2_1) (Q2b e2_1 (Q2b (Q0d fun y1501 => (Q2b e2_1 e2_0)) (Q2b e2_1 (Q2b (Q0d fun y1503 => (Q2b e2_1 (Q0d fun y1504 => e2_1))) (Q2b (Q2b e2_1 e2_1) e2_0))))))
  refine (Q2d (d3n n_ l_ _)).trans ?_
  refine (Q0j (id := 0)).trans ?_
  refine .trans Q0c ?_
  refine (d3s n_ l_ _).trans ?_
  refine (cond_s (b := (a41 n_)) ).trans (Q2f ?_ ?_)
  · refine (Q2d (d3o n_ l_ _)).trans ?_
    refine .trans Q0c ?_
    refine (d3t n_ l_ _).trans ?_
    refine (Q2d (d0a n_ l_ _)).trans (Q0e fun y1499 => ?_)
    refine (Q0h).trans ?_
    refine Q0t.trans ?_
    refine Q0k.trans ?_
    kernel_rfl
  · refine (Q2d (b8v n_ l_ _)).trans ?_
    refine (Q0m (b := (n_.1 == 3)) (st' := (S81_1 n_ l_)) ).trans (Q2f ?_ ?_)
    · refine (Q2d (d3p n_ l_ _)).trans ?_
      refine (Q0h).trans ?_
      refine Q0t.trans ?_
      refine Q0k.trans ?_
      kernel_rfl
    · refine .trans Q0c ?_
      refine (d09 n_ l_ _).trans ?_
      refine (cond_s (b := (a37 n_)) ).trans (Q2f ?_ ?_)
      · refine (Q2d (d0c n_ l_ _)).trans (Q0e fun y1501 => ?_)
        refine (Q0m (b := y1501) (st' := (b3z l_)) ).trans (Q2f ?_ ?_)
        · refine (Q2d (c6n l_ _)).trans ?_
          refine (Q0h).trans ?_
          refine Q0t.trans ?_
          refine Q0k.trans ?_
          kernel_rfl
        · refine (Q0i).trans ?_
          refine Q0f.trans ?_
          refine (Q0a (st' := (b3z l_))).trans ?_
          kernel_rfl
      · refine (Q2d (b8w n_ l_ _)).trans ?_
        refine (Q0m (b := (n_.1 == 9)) (st' := (S81_1 n_ l_)) ).trans (Q2f ?_ ?_)
        · refine (Q2d (c6o n_ l_ _)).trans ?_
          refine (Q0h).trans ?_
          refine Q0t.trans ?_
          refine Q0k.trans ?_
          kernel_rfl
        · refine (Q2d (b8x n_ l_ _)).trans ?_
          refine (Q0m (b := (n_.1 == 10)) (st' := (S81_1 n_ l_)) ).trans (Q2f ?_ ?_)
          · refine .trans Q0c ?_
            refine (Q2d (d0d n_ l_ _)).trans (Q0e fun y1503 => ?_)
            refine (Q0m (b := y1503) (st' := (c4v l_)) ).trans (Q2f ?_ ?_)
            · refine (Q2d (c6p l_ _)).trans ?_
              refine (Q0h).trans ?_
              refine Q0k.trans ?_
              refine Q0t.trans ?_
              refine Q0k.trans ?_
              kernel_rfl
            · refine (Q0i).trans ?_
              refine (Q0a (st' := (c4v l_))).trans ?_
              refine (Q2d (d0e l_ _)).trans (Q0e fun y1504 => ?_)
              refine (Q0h).trans ?_
              refine Q0t.trans ?_
              refine Q0k.trans ?_
              kernel_rfl
          · refine (Q2d (b8y n_ l_ _)).trans ?_
            refine (Q0m (b := (n_.1 == 11)) (st' := (e0i n_ l_)) ).trans (Q2f ?_ ?_)
            · refine .trans Q0c ?_
              refine (Q2d (d0f n_ l_ _)).trans ?_
              refine (Q0m (b := (a38 n_ l_)) (st' := (c4w n_)) ).trans (Q2f ?_ ?_)
              · refine (Q2d (c6q n_ _)).trans ?_
                refine (Q0h).trans ?_
                refine Q0k.trans ?_
                refine Q0t.trans ?_
                refine Q0k.trans ?_
                kernel_rfl
              · refine (Q0i).trans ?_
                refine (Q0a (st' := (c4w n_))).trans ?_
                refine (Q2d (c6r n_ _)).trans ?_
                refine (Q0h).trans ?_
                refine Q0t.trans ?_
                refine Q0k.trans ?_
                kernel_rfl
            · refine (Q0i).trans ?_
              refine Q0f.trans ?_
              refine (Q0a (st' := (b3z l_))).trans ?_
              kernel_rfl
theorem c6s : P81 1 C81.r.r.r (b3z l_) k = k ⟨[(4, rF 0)], [[di ((gt l_ (0 : Int) dI4).1), di ((gt l_ (0 : Int) dI4).2.1), di ((gt l_ (0 : Int) dI4).2.2.1)], []], [], 117⟩ := by kernel_rfl
def b05 : Option I3 := (Option.bind (b2l l_) (fun y1482 : Unit => (Option.bind (b2k n_ l_) (Q1z (fun y1507 : Unit => (some ((gt l_ (0 : Int) dI4).1, (gt l_ (0 : Int) dI4).2.1, (gt l_ (0 : Int) dI4).2.2.1))) (fun y1508 : (Int × Int × Int) => (some y1508))))))
theorem d3q : Q2j E cp77 ce4 28 [rA a01 n_, rl Q2n l_] = Option.bind (b05 n_ l_) (fun y : I3 => some (rA Q2o y : R)) := by
  refine .trans ?_ (Q0d fun y1482 => (Q0d (Q0g (fun y1507 => Q0b) (fun y1508 => Q0b))))
  refine (Q0l (nt := 117) (regs := [(0, rA a01 n_), (1, rl Q2n l_)])).trans ?_
  refine (pre2 (d3u n_ l_ _)).trans (Q0e fun y1482 => ?_)
  refine .trans Q0c ?_
  refine (d3r n_ l_ _).trans (Q0e (Q1d (fun y1507 => ?_) (fun y1508 => ?_)))
  · refine (Q2d (c6s l_ _)).trans ?_
    refine (Q0h).trans ?_
    kernel_rfl
  · kernel_rfl
noncomputable def cp78 : Q2g := Q2i cp77 28 [(.agg a01), (pL Q2n)] (.one (.agg Q2o)) (fun y : I3 => y) (fun x => b05 x.1 x.2.1)
theorem e4b : Q0p E cp78 := conS eok e4a a0r fun x => Eq.mp (by kernel_rfl) (d3q x.1 x.2.1)
end
section
variable {α β : Type} (n_ : Node) (s_ : I3) (k : St → Option α)
noncomputable abbrev C82 := Q0r E.P 29
noncomputable abbrev P82 := @preK α E 29 cp78 ce4
abbrev S82_0 : St := ⟨[(2, rC a01 n_), (3, rC Q2o s_)], [], [], 46⟩
theorem d3x : P82 1 C82 ⟨[(0, rA a01 n_), (1, rA Q2o s_)], [], [], 46⟩ k = k (S82_0 n_ s_) := by kernel_rfl
abbrev S82_1 : St := ⟨[(2, rC a01 n_), (3, rC Q2o s_), (7, ri n_.1)], [], [], 46⟩
theorem d3y : P82 1 C82.r.l (S82_0 n_ s_) k = k (S82_1 n_ s_) := by kernel_rfl
theorem b93 : P82 1 C82.r.l.r.b (S82_1 n_ s_) k = k ⟨[(2, rC a01 n_), (3, rC Q2o s_), (7, ri n_.1), (8, rb (n_.1 == 1))], [], [], 46⟩ := by kernel_rfl
def b2m (K : Int → β) : β := (K (IntKind.wrap .i64 ((IntKind.wrap .i64 ((IntKind.wrap .i64 (n_.2.2.1 * n_.2.2.1)) * s_.2.2)) * n_.2.2.2.2.2.1)))
def a7e : Int := b2m n_ s_ (fun y => y)
theorem c6y (K : Int → β) : b2m n_ s_ K = K (a7e n_ s_) := rfl
theorem d41 : P82 1 C82.r.l.r.b.r.t (S82_1 n_ s_) k = k ⟨[(4, ri (a7e n_ s_)), (5, ri n_.2.2.2.2.2.1)], [], [], 46⟩ := Eq.trans (by kernel_rfl) (c6y n_ s_ (fun y1511 : Int => k ⟨[(4, ri y1511), (5, ri n_.2.2.2.2.2.1)], [], [], 46⟩))
theorem b94 : P82 1 C82.r.l.r.b.r.e (S82_1 n_ s_) k = k ⟨[(2, rC a01 n_), (3, rC Q2o s_), (7, ri n_.1), (23, rb (n_.1 == 2))], [], [], 46⟩ := by kernel_rfl
theorem d3z : P82 1 C82.r.l.r.b.r.e.r.t (S82_1 n_ s_) k = k ⟨[(4, ri (IntKind.wrap .i64 ((IntKind.wrap .i64 (n_.2.2.1 * n_.2.2.1)) * s_.2.2))), (5, ri s_.2.2)], [], [], 46⟩ := by kernel_rfl
theorem b95 : P82 1 C82.r.l.r.b.r.e.r.e (S82_1 n_ s_) k = k ⟨[(2, rC a01 n_), (3, rC Q2o s_), (7, ri n_.1), (35, rb (n_.1 == 3))], [], [], 46⟩ := by kernel_rfl
theorem c6v : P82 1 C82.r.l.r.b.r.e.r.e.r.t (S82_1 n_ s_) k = k ⟨[(4, ri (IntKind.wrap .i64 ((a15 s_) * n_.2.2.2.2.2.1))), (5, ri n_.2.2.2.2.2.1)], [], [], 46⟩ := by kernel_rfl
theorem b96 : P82 1 C82.r.l.r.b.r.e.r.e.r.e (S82_1 n_ s_) k = k ⟨[(44, rb (n_.1 == 12))], [], [], 46⟩ := by kernel_rfl
theorem c6w : P82 1 C82.r.l.r.b.r.e.r.e.r.e.r.t ⟨[], [], [], 46⟩ k = k ⟨[(4, ri 256), (5, ri 0)], [], [], 46⟩ := by kernel_rfl
theorem c6x : P82 1 C82.r.r ⟨[], [], [], 46⟩ k = k ⟨[(4, ri 0), (5, ri 0)], [], [], 46⟩ := by kernel_rfl
def b1c (K : (Int × Int) → β) : β := (bif (n_.1 == 1) then (K ((a7e n_ s_), n_.2.2.2.2.2.1)) else (bif (n_.1 == 2) then (K ((IntKind.wrap .i64 ((IntKind.wrap .i64 (n_.2.2.1 * n_.2.2.1)) * s_.2.2)), s_.2.2)) else (bif (n_.1 == 3) then (K ((IntKind.wrap .i64 ((a15 s_) * n_.2.2.2.2.2.1)), n_.2.2.2.2.2.1)) else (bif (n_.1 == 12) then (K ((256 : Int), (0 : Int))) else (K ((0 : Int), (0 : Int)))))))
def b06 : (Int × Int) := b1c n_ s_ (fun y => y)
theorem d83 (K : (Int × Int) → β) : b1c n_ s_ K = K (b06 n_ s_) := (Q2h K rfl (Q2h K rfl (Q2h K rfl (Q2h K rfl rfl))))
theorem d40 : Q2j E cp78 ce4 29 [rA a01 n_, rA Q2o s_] = (fun y : (Int × Int) => some (.tup [ri y.1, ri y.2] : R)) (b06 n_ s_) := by
  refine Eq.trans ?_ (d83 n_ s_ (fun y : (Int × Int) => some (.tup [ri y.1, ri y.2] : R)))
  refine (Q0l (nt := 46) (regs := [(0, rA a01 n_), (1, rA Q2o s_)])).trans ?_
  unfold b1c
  refine (Q2d (d3x n_ s_ _)).trans ?_
  refine .trans Q0c ?_
  refine (Q2d (d3y n_ s_ _)).trans ?_
  refine (Q0j (id := 0)).trans ?_
  refine (Q2d (b93 n_ s_ _)).trans ?_
  refine (Q0m (b := (n_.1 == 1)) (st' := (S82_1 n_ s_)) ).trans (Q2f ?_ ?_)
  · refine (Q2d (d41 n_ s_ _)).trans ?_
    refine (Q0h).trans ?_
    refine Q0t.trans ?_
    refine Q0k.trans ?_
    kernel_rfl
  · refine (Q2d (b94 n_ s_ _)).trans ?_
    refine (Q0m (b := (n_.1 == 2)) (st' := (S82_1 n_ s_)) ).trans (Q2f ?_ ?_)
    · refine (Q2d (d3z n_ s_ _)).trans ?_
      refine (Q0h).trans ?_
      refine Q0t.trans ?_
      refine Q0k.trans ?_
      kernel_rfl
    · refine (Q2d (b95 n_ s_ _)).trans ?_
      refine (Q0m (b := (n_.1 == 3)) (st' := (S82_1 n_ s_)) ).trans (Q2f ?_ ?_)
      · refine (Q2d (c6v n_ s_ _)).trans ?_
        refine (Q0h).trans ?_
        refine Q0t.trans ?_
        refine Q0k.trans ?_
        kernel_rfl
      · refine (Q2d (b96 n_ s_ _)).trans ?_
        refine (Q0m (b := (n_.1 == 12)) (st' := ⟨[], [], [], 46⟩) ).trans (Q2f ?_ ?_)
        · refine (Q2d (c6w _)).trans ?_
          refine (Q0h).trans ?_
          refine Q0t.trans ?_
          refine Q0k.trans ?_
          kernel_rfl
        · refine (Q0i).trans ?_
          refine Q0f.trans ?_
          refine (Q0a (st' := ⟨[], [], [], 46⟩)).trans ?_
          refine (Q2d (c6x _)).trans ?_
          refine (Q0h).trans ?_
          kernel_rfl
noncomputable def cp79 : Q2g := Q2i cp78 29 [(.agg a01), (.agg Q2o)] (.tup [pI, pI]) (fun y : (Int × Int) => (y.1, y.2, ())) (fun x => some (b06 x.1 x.2.1))
theorem e4c : Q0p E cp79 := conS eok e4b a0r fun x => Eq.mp (by kernel_rfl) (d40 x.1 x.2.1)
end
end Go.V.P
