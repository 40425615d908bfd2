/- What functions compute. -/
import Derived.Test.YtokpndlkheofjaaKp1
namespace Go.V.P
open Go.RowKit Go.V Go.Proofs
set_option linter.unusedVariables false
set_option maxRecDepth 100000
section
variable {α β : Type} (n_ : Node) (in_ : (List I4)) (first : Int) (rows : Int) (y269 : (I4 × Int)) (s345 : (Int × Int × Int × Int × Int)) (y355 : (Int × Int × Int × Int)) (y356 : (Int × Int × Int × Int × Int)) (k : St → Option α) (q : Kont α)
noncomputable abbrev C35 := Q0r E.P 13
noncomputable abbrev P35 := @preK α E 13 cp35 noE
noncomputable abbrev R35 := @Q0o α E 13 cp35 noE
noncomputable abbrev Q35 := @seqC α E 13 cp35 noE
abbrev S35_0 : St := ⟨[(1, rl Q2n in_), (2, ri first), (3, ri rows), (4, rC a01 n_), (8, rF 0), (9, ri y269.2), (10, rF 1)], [[di 0, di 0, di 0, di 0], (Q2n.leaves y269.1)], [], 116⟩
theorem d2c : P35 2 C35 ⟨[(0, rA a01 n_), (1, rl Q2n in_), (2, ri first), (3, ri rows)], [], [], 116⟩ k = Option.bind (a1z n_ in_) fun y269 : (I4 × Int) => k (S35_0 n_ in_ first rows y269) := by kernel_rfl
theorem b8c : P35 1 C35.r.r.l.b (S35_0 n_ in_ first rows y269) k = k ⟨[(1, rl Q2n in_), (2, ri first), (3, ri rows), (4, rC a01 n_), (8, rF 0), (9, ri y269.2), (10, rF 1), (19, rb (y269.2 != 0))], [[di 0, di 0, di 0, di 0], (Q2n.leaves y269.1)], [], 116⟩ := by kernel_rfl
theorem d28 : P35 1 C35.r.r.l.b.r.t (S35_0 n_ in_ first rows y269) k = k ⟨[(8, rF 0), (9, ri y269.2)], [[di 0, di 0, di 0, di 0], []], [], 116⟩ := by kernel_rfl
def b29 (K : Bool → β) : β := (bif (decide (first < 0)) then (K true) else (bif (decide (rows < 1)) then (K true) else (bif (decide (first > y269.1.1)) then (K true) else (K (decide (rows > (IntKind.wrap .i64 (y269.1.1 - first))))))))
def a3y : Bool := b29 first rows y269 (fun y => y)
theorem c5m (K : Bool → β) : b29 first rows y269 K = K (a3y first rows y269) := (Q2h K rfl (Q2h K rfl (Q2h K rfl rfl)))
theorem d2d : P35 1 C35.r.r.l.b.r.e (S35_0 n_ in_ first rows y269) k = k ⟨[(1, rl Q2n in_), (2, ri first), (3, ri rows), (4, rC a01 n_), (8, rF 0), (24, rb (a3y first rows y269))], [[di 0, di 0, di 0, di 0], []], [], 116⟩ := Eq.trans (by kernel_rfl) (c5m first rows y269 (fun y271 : Bool => k ⟨[(1, rl Q2n in_), (2, ri first), (3, ri rows), (4, rC a01 n_), (8, rF 0), (24, rb y271)], [[di 0, di 0, di 0, di 0], []], [], 116⟩))
abbrev S35_1 : St := ⟨[(1, rl Q2n in_), (2, ri first), (3, ri rows), (4, rC a01 n_), (8, rF 0)], [[di 0, di 0, di 0, di 0], []], [], 116⟩
theorem c5i : P35 1 C35.r.r.l.b.r.e.r.t (S35_1 n_ in_ first rows) k = k ⟨[(8, rF 0), (9, ri 1)], [[di 0, di 0, di 0, di 0], []], [], 116⟩ := by kernel_rfl
abbrev S35_2 : St := ⟨[(1, rl Q2n in_), (2, ri first), (3, ri rows), (4, rC a01 n_), (8, rF 0), (49, ri (in_.length : Int)), (50, ri 0)], [[di 0, di 0, di 0, di 0], []], [], 116⟩
theorem d27 : P35 1 C35.r.r.r.l (S35_1 n_ in_ first rows) k = k (S35_2 n_ in_ first rows) := by kernel_rfl
abbrev S35_3 : St := ⟨[(1, rl Q2n in_), (2, ri first), (3, ri rows), (4, rC a01 n_), (8, rF 0), (49, ri (in_.length : Int)), (50, ri s345.1)], [(Q2n.leaves s345.2), []], [], 116⟩
theorem c5j : P35 1 C35.r.r.r.l.r.b.b (S35_3 n_ in_ first rows s345) k = k ⟨[(1, rl Q2n in_), (2, ri first), (3, ri rows), (4, rC a01 n_), (8, rF 0), (49, ri (in_.length : Int)), (50, ri s345.1), (51, rb (decide (s345.1 < (in_.length : Int))))], [(Q2n.leaves s345.2), []], [], 116⟩ := by kernel_rfl
def b2a : Option Unit := (bif (decide ((0 : Int) ≤ s345.1)) then (bif (decide (s345.1 < (in_.length : Int))) then (some ()) else none) else none)
abbrev S35_4 : St := ⟨[(1, rl Q2n in_), (2, ri first), (3, ri rows), (4, rC a01 n_), (8, rF 0), (11, ri s345.1), (12, ri ((gt in_ s345.1 dI4).1)), (49, ri (in_.length : Int)), (50, ri s345.1)], [(Q2n.leaves s345.2), []], [], 116⟩
theorem d2e : P35 2 C35.r.r.r.l.r.b.b.r.r.l.b (S35_3 n_ in_ first rows s345) k = Option.bind (b2a in_ s345) (fun y346 : Unit => k (S35_4 n_ in_ first rows s345)) := .trans (by kernel_rfl) (Q2b (Q2b Q0b Q0n) Q0n)
abbrev S35_5 : St := ⟨[(1, rl Q2n in_), (2, ri first), (3, ri rows), (4, rC a01 n_), (8, rF 0), (11, ri s345.1), (12, ri ((gt in_ s345.1 dI4).1)), (49, ri (in_.length : Int)), (50, ri s345.1), (60, ri n_.1)], [(Q2n.leaves s345.2), []], [], 116⟩
theorem c84 : P35 1 C35.r.r.r.l.r.b.b.r.r.l.b.r.r (S35_4 n_ in_ first rows s345) k = k (S35_5 n_ in_ first rows s345) := by kernel_rfl
abbrev S35_6 : St := ⟨[(1, rl Q2n in_), (2, ri first), (3, ri rows), (4, rC a01 n_), (8, rF 0), (11, ri s345.1), (12, ri ((gt in_ s345.1 dI4).1)), (49, ri (in_.length : Int)), (50, ri s345.1), (60, ri n_.1), (68, rb (n_.1 == 1))], [(Q2n.leaves s345.2), []], [], 116⟩
theorem b8e : P35 1 C35.r.r.r.l.r.b.b.r.r.l.b.r.r.r.b.l (S35_5 n_ in_ first rows s345) k = k (S35_6 n_ in_ first rows s345) := by kernel_rfl
abbrev S35_7 : St := ⟨[(1, rl Q2n in_), (2, ri first), (3, ri rows), (4, rC a01 n_), (8, rF 0), (11, ri s345.1), (12, ri ((gt in_ s345.1 dI4).1)), (49, ri (in_.length : Int)), (50, ri s345.1), (60, ri n_.1), (68, rb (n_.1 == 2))], [(Q2n.leaves s345.2), []], [], 116⟩
theorem b8f : P35 1 C35.r.r.r.l.r.b.b.r.r.l.b.r.r.r.b.l.r.e (S35_6 n_ in_ first rows s345) k = k (S35_7 n_ in_ first rows s345) := by kernel_rfl
abbrev S35_8 : St := ⟨[(1, rl Q2n in_), (2, ri first), (3, ri rows), (4, rC a01 n_), (8, rF 0), (11, ri s345.1), (12, ri ((gt in_ s345.1 dI4).1)), (49, ri (in_.length : Int)), (50, ri s345.1), (60, ri n_.1), (68, rb (n_.1 == 4))], [(Q2n.leaves s345.2), []], [], 116⟩
theorem b8g : P35 1 C35.r.r.r.l.r.b.b.r.r.l.b.r.r.r.b.l.r.e.r.e (S35_7 n_ in_ first rows s345) k = k (S35_8 n_ in_ first rows s345) := by kernel_rfl
abbrev S35_9 : St := ⟨[(1, rl Q2n in_), (2, ri first), (3, ri rows), (4, rC a01 n_), (8, rF 0), (11, ri s345.1), (12, ri ((gt in_ s345.1 dI4).1)), (49, ri (in_.length : Int)), (50, ri s345.1), (60, ri n_.1), (68, rb (n_.1 == 5))], [(Q2n.leaves s345.2), []], [], 116⟩
theorem c88 : R35 C35.r.r.r.l.r.b.b.r.r.l.b.r.r.r.b.l.r.e.r.e.r.e (S35_8 n_ in_ first rows s345) q = q .normal (S35_9 n_ in_ first rows s345) := by kernel_rfl
def a5u (K : Bool → β) : β := (bif (n_.1 == 1) then (K (n_.1 == 1)) else (bif (n_.1 == 2) then (K (n_.1 == 2)) else (bif (n_.1 == 4) then (K (n_.1 == 4)) else (K (n_.1 == 5)))))
def a31 : Bool := a5u n_ (fun y => y)
theorem c3c (K : Bool → β) : a5u n_ K = K (a31 n_) := (Q2h K rfl (Q2h K rfl (Q2h K rfl rfl)))
abbrev d4m : St := ⟨[(1, rl Q2n in_), (2, ri first), (3, ri rows), (4, rC a01 n_), (8, rF 0), (11, ri s345.1), (12, ri ((gt in_ s345.1 dI4).1)), (49, ri (in_.length : Int)), (50, ri s345.1), (60, ri n_.1), (68, rb (a31 n_))], [(Q2n.leaves s345.2), []], [], 116⟩
theorem c85 : R35 C35.r.r.r.l.r.b.b.r.r.l.b.r.r.r.b.l (S35_5 n_ in_ first rows s345) (Q35 C35.r.r.r.l.r.b.b.r.r.l.b.r.r.r.b.r q) = R35 C35.r.r.r.l.r.b.b.r.r.l.b.r.r.r.b.r (d4m n_ in_ first rows s345) q := by
  refine Eq.trans ?_ (c3c n_ (fun y347 : Bool => R35 C35.r.r.r.l.r.b.b.r.r.l.b.r.r.r.b.r ⟨[(1, rl Q2n in_), (2, ri first), (3, ri rows), (4, rC a01 n_), (8, rF 0), (11, ri s345.1), (12, ri ((gt in_ s345.1 dI4).1)), (49, ri (in_.length : Int)), (50, ri s345.1), (60, ri n_.1), (68, rb y347)], [(Q2n.leaves s345.2), []], [], 116⟩ q))
  unfold a5u
  refine (Q2d (b8e n_ in_ first rows s345 _)).trans ?_
  refine (cond_s (b := (n_.1 == 1)) ).trans (Q2f ?_ ?_)
  · refine (Q0i).trans ?_
    refine (Q0a (st' := (S35_6 n_ in_ first rows s345))).trans ?_
    kernel_rfl
  · refine (Q2d (b8f n_ in_ first rows s345 _)).trans ?_
    refine (cond_s (b := (n_.1 == 2)) ).trans (Q2f ?_ ?_)
    · refine (Q0i).trans ?_
      refine (Q0a (st' := (S35_7 n_ in_ first rows s345))).trans ?_
      kernel_rfl
    · refine (Q2d (b8g n_ in_ first rows s345 _)).trans ?_
      refine (cond_s (b := (n_.1 == 4)) ).trans (Q2f ?_ ?_)
      · refine (Q0i).trans ?_
        refine (Q0a (st' := (S35_8 n_ in_ first rows s345))).trans ?_
        kernel_rfl
      · refine (c88 n_ in_ first rows s345 _).trans ?_
        refine (Q0a (st' := (S35_9 n_ in_ first rows s345))).trans ?_
        kernel_rfl
def b0n : Option (Int × Int × Int × Int) := (Option.bind (a8p first rows n_.2.2.1 n_.2.2.2.1 n_.2.2.2.2.1 ((gt in_ s345.1 dI4).1)) (fun y348 : (Int × Int) => (bif (s345.1 == 0) then (bif (s345.1 == 0) then (some (y348.1, y348.2, s345.2.2.2.1, s345.2.2.2.2)) else (bif (s345.1 == 1) then (some (y348.1, s345.2.2.1, s345.2.2.2.1, y348.2)) else none)) else (bif (s345.1 == 1) then (bif (s345.1 == 0) then (some (s345.2.1, y348.2, y348.1, s345.2.2.2.2)) else (bif (s345.1 == 1) then (some (s345.2.1, s345.2.2.1, y348.1, y348.2)) else none)) else none))))
abbrev d9s (y349 : (Int × Int × Int × Int)) : St := ⟨[(1, rl Q2n in_), (2, ri first), (3, ri rows), (4, rC a01 n_), (8, rF 0), (49, ri (in_.length : Int)), (50, ri s345.1)], [(Q2n.leaves y349), []], [], 116⟩
theorem c89 : R35 C35.r.r.r.l.r.b.b.r.r.l.b.r.r.r.b.r.t (d4m n_ in_ first rows s345) q = Option.bind (b0n n_ in_ first rows s345) (fun y349 : (Int × Int × Int × Int) => q .normal (d9s n_ in_ first rows s345 y349)) := .trans (by kernel_rfl) (Q0d fun y348 => (Q2b (Q2b Q0b (Q2b Q0b Q0n)) (Q2b (Q2b Q0b (Q2b Q0b Q0n)) Q0n)))
theorem b8d : P35 1 C35.r.r.r.l.r.b.b.r.r.l.b.r.r.r.b.r.e (d4m n_ in_ first rows s345) k = k ⟨[(1, rl Q2n in_), (2, ri first), (3, ri rows), (4, rC a01 n_), (8, rF 0), (11, ri s345.1), (12, ri ((gt in_ s345.1 dI4).1)), (49, ri (in_.length : Int)), (50, ri s345.1), (60, ri n_.1), (92, rb (n_.1 == 9))], [(Q2n.leaves s345.2), []], [], 116⟩ := by kernel_rfl
def b0o : Option (Int × Int × Int × Int) := (Option.bind (a8p first rows (1 : Int) (1 : Int) (1 : Int) ((gt in_ s345.1 dI4).1)) (fun y350 : (Int × Int) => (bif (s345.1 == 0) then (bif (s345.1 == 0) then (some (y350.1, y350.2, s345.2.2.2.1, s345.2.2.2.2)) else (bif (s345.1 == 1) then (some (y350.1, s345.2.2.1, s345.2.2.2.1, y350.2)) else none)) else (bif (s345.1 == 1) then (bif (s345.1 == 0) then (some (s345.2.1, y350.2, y350.1, s345.2.2.2.2)) else (bif (s345.1 == 1) then (some (s345.2.1, s345.2.2.1, y350.1, y350.2)) else none)) else none))))
abbrev d9t (y351 : (Int × Int × Int × Int)) : St := ⟨[(1, rl Q2n in_), (2, ri first), (3, ri rows), (4, rC a01 n_), (8, rF 0), (49, ri (in_.length : Int)), (50, ri s345.1)], [(Q2n.leaves y351), []], [], 116⟩
theorem c8a : R35 C35.r.r.r.l.r.b.b.r.r.l.b.r.r.r.b.r.e.r.t (S35_5 n_ in_ first rows s345) q = Option.bind (b0o in_ first rows s345) (fun y351 : (Int × Int × Int × Int) => q .normal (d9t n_ in_ first rows s345 y351)) := .trans (by kernel_rfl) (Q0d fun y350 => (Q2b (Q2b Q0b (Q2b Q0b Q0n)) (Q2b (Q2b Q0b (Q2b Q0b Q0n)) Q0n)))
abbrev d9u : St := ⟨[(1, rl Q2n in_), (2, ri first), (3, ri rows), (4, rC a01 n_), (8, rF 0), (11, ri s345.1), (12, ri ((gt in_ s345.1 dI4).1)), (49, ri (in_.length : Int)), (50, ri s345.1), (60, ri n_.1), (107, rb (n_.1 == 3))], [(Q2n.leaves s345.2), []], [], 116⟩
theorem b8h : P35 1 C35.r.r.r.l.r.b.b.r.r.l.b.r.r.r.b.r.e.r.e.l (S35_5 n_ in_ first rows s345) k = k (d9u n_ in_ first rows s345) := by kernel_rfl
abbrev d9v : St := ⟨[(1, rl Q2n in_), (2, ri first), (3, ri rows), (4, rC a01 n_), (8, rF 0), (11, ri s345.1), (12, ri ((gt in_ s345.1 dI4).1)), (49, ri (in_.length : Int)), (50, ri s345.1), (107, rb (n_.1 == 11))], [(Q2n.leaves s345.2), []], [], 116⟩
theorem c8b : R35 C35.r.r.r.l.r.b.b.r.r.l.b.r.r.r.b.r.e.r.e.l.r.e (d9u n_ in_ first rows s345) q = q .normal (d9v n_ in_ first rows s345) := by kernel_rfl
def a5v (K : Bool → β) : β := (bif (n_.1 == 3) then (K (n_.1 == 3)) else (K (n_.1 == 11)))
def a32 : Bool := a5v n_ (fun y => y)
theorem c3d (K : Bool → β) : a5v n_ K = K (a32 n_) := (Q2h K rfl rfl)
abbrev d4n : St := ⟨[(1, rl Q2n in_), (2, ri first), (3, ri rows), (4, rC a01 n_), (8, rF 0), (11, ri s345.1), (12, ri ((gt in_ s345.1 dI4).1)), (49, ri (in_.length : Int)), (50, ri s345.1), (107, rb (a32 n_))], [(Q2n.leaves s345.2), []], [], 116⟩
theorem c86 : R35 C35.r.r.r.l.r.b.b.r.r.l.b.r.r.r.b.r.e.r.e.l (S35_5 n_ in_ first rows s345) (Q35 C35.r.r.r.l.r.b.b.r.r.l.b.r.r.r.b.r.e.r.e.r q) = R35 C35.r.r.r.l.r.b.b.r.r.l.b.r.r.r.b.r.e.r.e.r (d4n n_ in_ first rows s345) q := by
  refine Eq.trans ?_ (c3d n_ (fun y352 : Bool => R35 C35.r.r.r.l.r.b.b.r.r.l.b.r.r.r.b.r.e.r.e.r ⟨[(1, rl Q2n in_), (2, ri first), (3, ri rows), (4, rC a01 n_), (8, rF 0), (11, ri s345.1), (12, ri ((gt in_ s345.1 dI4).1)), (49, ri (in_.length : Int)), (50, ri s345.1), (107, rb y352)], [(Q2n.leaves s345.2), []], [], 116⟩ q))
  unfold a5v
  refine (Q2d (b8h n_ in_ first rows s345 _)).trans ?_
  refine (cond_s (b := (n_.1 == 3)) ).trans (Q2f ?_ ?_)
  · refine (Q0i).trans ?_
    refine (Q0a (st' := ⟨[(1, rl Q2n in_), (2, ri first), (3, ri rows), (4, rC a01 n_), (8, rF 0), (11, ri s345.1), (12, ri ((gt in_ s345.1 dI4).1)), (49, ri (in_.length : Int)), (50, ri s345.1), (107, rb (n_.1 == 3))], [(Q2n.leaves s345.2), []], [], 116⟩)).trans ?_
    kernel_rfl
  · refine (c8b n_ in_ first rows s345 _).trans ?_
    refine (Q0a (st' := (d9v n_ in_ first rows s345))).trans ?_
    kernel_rfl
def b0p : Option (Int × Int × Int × Int) := (bif (s345.1 == 0) then (some ((0 : Int), (gt in_ s345.1 dI4).1, s345.2.2.2.1, s345.2.2.2.2)) else (bif (s345.1 == 1) then (some (s345.2.1, s345.2.2.1, (0 : Int), (gt in_ s345.1 dI4).1)) else none))
abbrev d9w (y353 : (Int × Int × Int × Int)) : St := ⟨[(1, rl Q2n in_), (2, ri first), (3, ri rows), (4, rC a01 n_), (8, rF 0), (49, ri (in_.length : Int)), (50, ri s345.1)], [(Q2n.leaves y353), []], [], 116⟩
theorem c8c : R35 C35.r.r.r.l.r.b.b.r.r.l.b.r.r.r.b.r.e.r.e.r.t (d4n n_ in_ first rows s345) q = Option.bind (b0p in_ s345) (fun y353 : (Int × Int × Int × Int) => q .normal (d9w n_ in_ first rows s345 y353)) := .trans (by kernel_rfl) (Q2b Q0b (Q2b Q0b Q0n))
def b0m : Option (Int × Int × Int × Int) := (bif (s345.1 == 0) then (some (first, (IntKind.wrap .i64 (first + rows)), s345.2.2.2.1, s345.2.2.2.2)) else (bif (s345.1 == 1) then (some (s345.2.1, s345.2.2.1, first, (IntKind.wrap .i64 (first + rows)))) else none))
abbrev d9x (y354 : (Int × Int × Int × Int)) : St := ⟨[(1, rl Q2n in_), (2, ri first), (3, ri rows), (4, rC a01 n_), (8, rF 0), (49, ri (in_.length : Int)), (50, ri s345.1)], [(Q2n.leaves y354), []], [], 116⟩
theorem c87 : R35 C35.r.r.r.l.r.b.b.r.r.l.b.r.r.r.b.r.e.r.e.r.e (d4n n_ in_ first rows s345) q = Option.bind (b0m first rows s345) (fun y354 : (Int × Int × Int × Int) => q .normal (d9x n_ in_ first rows s345 y354)) := .trans (by kernel_rfl) (Q2b Q0b (Q2b Q0b Q0n))
def b28 : Option (Int × Int × Int × Int) := (Option.bind (b2a in_ s345) (fun y346 : Unit => (bif (a31 n_) then (Option.bind (b0n n_ in_ first rows s345) (fun y349 : (Int × Int × Int × Int) => (some y349))) else (bif (n_.1 == 9) then (Option.bind (b0o in_ first rows s345) (fun y351 : (Int × Int × Int × Int) => (some y351))) else (bif (a32 n_) then (Option.bind (b0p in_ s345) (fun y353 : (Int × Int × Int × Int) => (some y353))) else (Option.bind (b0m first rows s345) (fun y354 : (Int × Int × Int × Int) => (some y354))))))))
abbrev d9y : St := ⟨[(1, rl Q2n in_), (2, ri first), (3, ri rows), (4, rC a01 n_), (8, rF 0), (49, ri (in_.length : Int)), (50, ri s345.1)], [(Q2n.leaves y355), []], [], 116⟩
theorem d2a : R35 C35.r.r.r.l.r.b.b.r.r.l (S35_3 n_ in_ first rows s345) (Q35 C35.r.r.r.l.r.b.b.r.r.r q) = Option.bind (b28 n_ in_ first rows s345) (fun y355 : (Int × Int × Int × Int) => R35 C35.r.r.r.l.r.b.b.r.r.r (d9y n_ in_ first rows s345 y355) q) := by
  refine .trans ?_ (Q0d fun y346 => (Q2b (Q0d fun y349 => Q0b) (Q2b (Q0d fun y351 => Q0b) (Q2b (Q0d fun y353 => Q0b) (Q0d fun y354 => Q0b)))))
  refine (Q0j (id := 2)).trans ?_
  refine (pre2 (d2e n_ in_ first rows s345 _)).trans (Q0e fun y346 => ?_)
  refine (Q2d (c84 n_ in_ first rows s345 _)).trans ?_
  refine (Q0j (id := 3)).trans ?_
  refine .trans Q0c ?_
  refine (c85 n_ in_ first rows s345 _).trans ?_
  refine (cond_s (b := (a31 n_)) ).trans (Q2f ?_ ?_)
  · refine (c89 n_ in_ first rows s345 _).trans (Q0e fun y349 => ?_)
    refine Q0f.trans ?_
    refine Q0f.trans ?_
    refine (Q0a (st' := (d9s n_ in_ first rows s345 y349))).trans ?_
    kernel_rfl
  · refine (Q2d (b8d n_ in_ first rows s345 _)).trans ?_
    refine (Q0m (b := (n_.1 == 9)) (st' := (S35_5 n_ in_ first rows s345)) ).trans (Q2f ?_ ?_)
    · refine (c8a n_ in_ first rows s345 _).trans (Q0e fun y351 => ?_)
      refine Q0f.trans ?_
      refine Q0f.trans ?_
      refine (Q0a (st' := (d9t n_ in_ first rows s345 y351))).trans ?_
      kernel_rfl
    · refine .trans Q0c ?_
      refine (c86 n_ in_ first rows s345 _).trans ?_
      refine (cond_s (b := (a32 n_)) ).trans (Q2f ?_ ?_)
      · refine (c8c n_ in_ first rows s345 _).trans (Q0e fun y353 => ?_)
        refine Q0f.trans ?_
        refine Q0f.trans ?_
        refine (Q0a (st' := (d9w n_ in_ first rows s345 y353))).trans ?_
        kernel_rfl
      · refine (c87 n_ in_ first rows s345 _).trans (Q0e fun y354 => ?_)
        refine Q0f.trans ?_
        refine Q0f.trans ?_
        refine (Q0a (st' := (d9x n_ in_ first rows s345 y354))).trans ?_
        kernel_rfl
theorem c8d : R35 C35.r.r.r.l.r.b.b.r.r.r (d9y n_ in_ first rows s345 y355) q = q .normal ⟨[(1, rl Q2n in_), (2, ri first), (3, ri rows), (4, rC a01 n_), (8, rF 0), (49, ri (in_.length : Int)), (50, ri (IntKind.wrap .i64 (s345.1 + 1)))], [(Q2n.leaves y355), []], [], 116⟩ := by kernel_rfl
def a6m : Option ((Int × Int × Int × Int × Int) ⊕ (Int × Int × Int × Int × Int)) := (bif (decide (s345.1 < (in_.length : Int))) then (Option.bind (b28 n_ in_ first rows s345) (fun y355 : (Int × Int × Int × Int) => (some (Sum.inl ((IntKind.wrap .i64 (s345.1 + 1)), y355.1, y355.2.1, y355.2.2.1, y355.2.2.2))))) else (some (Sum.inr s345)))
abbrev d4o : St := ⟨[(1, rl Q2n in_), (2, ri first), (3, ri rows), (4, rC a01 n_), (8, rF 0), (49, ri (in_.length : Int)), (50, ri y356.1)], [(Q2n.leaves y356.2), []], [], 116⟩
theorem c5l : R35 C35.r.r.r.l.r.b.b (S35_3 n_ in_ first rows s345) (Q0w 2 q) = Option.bind (a6m n_ in_ first rows s345) (Q1z (fun y : (Int × Int × Int × Int × Int) => q .normal ⟨[(1, rl Q2n in_), (2, ri first), (3, ri rows), (4, rC a01 n_), (8, rF 0), (49, ri (in_.length : Int)), (50, ri y.1)], [(Q2n.leaves y.2), []], [], 116⟩) (fun y356 : (Int × Int × Int × Int × Int) => q (.exit 1) (d4o n_ in_ first rows y356))) := by
  refine .trans ?_ (Q2b (Q0d fun y355 => e2_0) e2_1)
  refine (Q2d (c5j n_ in_ first rows s345 _)).trans ?_
  refine .trans Q0c ?_
  refine (Q0m (b := (decide (s345.1 < (in_.length : Int)))) (st' := (S35_3 n_ in_ first rows s345)) ).trans (Q2f ?_ ?_)
  · refine (Q0i).trans ?_
    refine (Q0a (st' := (S35_3 n_ in_ first rows s345))).trans ?_
    refine .trans Q0c ?_
    refine (d2a n_ in_ first rows s345 _).trans (Q0e fun y355 => ?_)
    refine (c8d n_ in_ first rows s345 y355 _).trans ?_
    kernel_rfl
  · refine ((Q1f (j := 1))).trans ?_
    refine Q0v.trans ?_
    kernel_rfl
theorem d2b : R35 C35.r.r.r.l.r.b (S35_2 n_ in_ first rows) q = Option.bind (iterN (a6m n_ in_ first rows) LL ((0 : Int), (0 : Int), (0 : Int), (0 : Int), (0 : Int))) (fun y356 : (Int × Int × Int × Int × Int) => q (.exit 1) (d4o n_ in_ first rows y356)) :=
  Eq.trans (by kernel_rfl) (Q1a (S := fun s345 : (Int × Int × Int × Int × Int) => (S35_3 n_ in_ first rows s345)) (Y1 := fun y356 : (Int × Int × Int × Int × Int) => ((.exit 1), (d4o n_ in_ first rows y356))) (fun s q => c5l n_ in_ first rows s q) (fun z => rfl) LL ((0 : Int), (0 : Int), (0 : Int), (0 : Int), (0 : Int)))
theorem c5k : P35 1 C35.r.r.r.r ⟨[(8, rF 0)], [(Q2n.leaves y356.2), []], [], 116⟩ k = k ⟨[(8, rF 0), (9, ri 0)], [(Q2n.leaves y356.2), []], [], 116⟩ := by kernel_rfl
def a9y : Option (I4 × Int) := (Option.bind (a1z n_ in_) (fun y269 : (I4 × Int) => (bif (y269.2 != 0) then (some (((0 : Int), (0 : Int), (0 : Int), (0 : Int)), y269.2)) else (bif (a3y first rows y269) then (some (((0 : Int), (0 : Int), (0 : Int), (0 : Int)), (1 : Int))) else (Option.bind (iterN (a6m n_ in_ first rows) LL ((0 : Int), (0 : Int), (0 : Int), (0 : Int), (0 : Int))) (fun y356 : (Int × Int × Int × Int × Int) => (some (y356.2, (0 : Int)))))))))
theorem d29 : Q2j E cp35 noE 13 [rA a01 n_, rl Q2n in_, ri first, ri rows] = Option.bind (a9y n_ in_ first rows) (fun y : (I4 × Int) => some (.tup [rA Q2n y.1, ri y.2] : R)) := by
  refine .trans ?_ (Q0d fun y269 => (Q2b Q0b (Q2b Q0b (Q0d fun y356 => Q0b))))
  refine (Q0l (nt := 116) (regs := [(0, rA a01 n_), (1, rl Q2n in_), (2, ri first), (3, ri rows)])).trans ?_
  refine (pre2 (d2c n_ in_ first rows _)).trans (Q0e fun y269 => ?_)
  refine .trans Q0c ?_
  refine (Q0j (id := 0)).trans ?_
  refine (Q2d (b8c n_ in_ first rows y269 _)).trans ?_
  refine (Q0m (b := (y269.2 != 0)) (st' := (S35_0 n_ in_ first rows y269)) ).trans (Q2f ?_ ?_)
  · refine (Q2d (d28 n_ in_ first rows y269 _)).trans ?_
    refine (Q0h).trans ?_
    refine Q0t.trans ?_
    refine Q0k.trans ?_
    kernel_rfl
  · refine (Q2d (d2d n_ in_ first rows y269 _)).trans ?_
    refine (Q0m (b := (a3y first rows y269)) (st' := (S35_1 n_ in_ first rows)) ).trans (Q2f ?_ ?_)
    · refine (Q2d (c5i n_ in_ first rows _)).trans ?_
      refine (Q0h).trans ?_
      refine Q0t.trans ?_
      refine Q0k.trans ?_
      kernel_rfl
    · refine (Q0i).trans ?_
      refine Q0f.trans ?_
      refine (Q0a (st' := (S35_1 n_ in_ first rows))).trans ?_
      refine .trans Q0c ?_
      refine (Q2d (d27 n_ in_ first rows _)).trans ?_
      refine (Q0j (id := 1)).trans ?_
      refine (d2b n_ in_ first rows _).trans (Q0e fun y356 => ?_)
      refine Q0u.trans ?_
      refine (Q0a (st' := ⟨[(8, rF 0)], [(Q2n.leaves y356.2), []], [], 116⟩)).trans ?_
      refine (Q2d (c5k y356 _)).trans ?_
      refine (Q0h).trans ?_
      kernel_rfl
noncomputable def cp36 : Q2g := Q2i cp35 13 [(.agg a01), (pL Q2n), pI, pI] (.tup [(.agg Q2n), pI]) (fun y : (I4 × Int) => (y.1, y.2, ())) (fun x => a9y x.1 x.2.1 x.2.2.1 x.2.2.2.1)
theorem e38 : Q0p E cp36 := conS eok e37 Q0z fun x => Eq.mp (by kernel_rfl) (d29 x.1 x.2.1 x.2.2.1 x.2.2.2.1)
end
section
variable {α β : Type} (v_ : I4) (w_ : d5m) (need : I2) (k : St → Option α)
noncomputable abbrev C36 := Q0r E.P 47
noncomputable abbrev P36 := @preK α E 47 cp36 noE
abbrev S36_0 : St := ⟨[(3, rC Q2n v_), (4, rC a3g w_), (5, rC tsI2 need), (7, ri v_.1)], [], [], 68⟩
theorem d72 : P36 2 C36 ⟨[(0, rA Q2n v_), (1, rA a3g w_), (2, rA tsI2 need)], [], [], 68⟩ k = k (S36_0 v_ w_ need) := by kernel_rfl
def b4k : Option Bool := (bif (decide (w_.1 < 0)) then (some true) else (bif (decide (w_.2.1 < 0)) then (some true) else (bif (decide (w_.1 > v_.1)) then (some true) else (bif (decide (w_.2.1 > (IntKind.wrap .i64 (v_.1 - w_.1)))) then (some true) else (Option.bind (a8z (v_.1, v_.2.1, v_.2.2.1)) (fun y362 : Int => (some ((w_.2.2.length : Int) != (IntKind.wrap .i64 (w_.2.1 * y362))))))))))
theorem d75 : P36 1 C36.r.r.l (S36_0 v_ w_ need) k = Option.bind (b4k v_ w_) (fun y363 : Bool => k ⟨[(4, rC a3g w_), (5, rC tsI2 need), (45, rb y363)], [], [], 68⟩) := .trans (by kernel_rfl) (Q2b Q0b (Q2b Q0b (Q2b Q0b (Q2b Q0b (Q0d fun y362 => Q0b)))))
abbrev S36_1 : St := ⟨[(4, rC a3g w_), (5, rC tsI2 need)], [], [], 68⟩
theorem d73 : P36 1 C36.r.r.l.r.t (S36_1 w_ need) k = k ⟨[(6, rb false)], [], [], 68⟩ := by kernel_rfl
def b4l (K : Bool → β) : β := (bif (need.1 == need.2) then (K true) else (bif (decide (w_.1 ≤ need.1)) then (K (decide (need.2 ≤ (IntKind.wrap .i64 (w_.1 + w_.2.1))))) else (K false)))
def a8e : Bool := b4l w_ need (fun y => y)
theorem c8l (K : Bool → β) : b4l w_ need K = K (a8e w_ need) := (Q2h K rfl (Q2h K rfl rfl))
theorem d76 : P36 1 C36.r.r.r (S36_1 w_ need) k = k ⟨[(6, rb (a8e w_ need))], [], [], 68⟩ := Eq.trans (by kernel_rfl) (c8l w_ need (fun y364 : Bool => k ⟨[(6, rb y364)], [], [], 68⟩))
def a6b : Option Bool := (Option.bind (b4k v_ w_) (fun y363 : Bool => (bif y363 then (some false) else (some (a8e w_ need)))))
theorem d74 : Q2j E cp36 noE 47 [rA Q2n v_, rA a3g w_, rA tsI2 need] = Option.bind (a6b v_ w_ need) (fun y : Bool => some (rb y : R)) := by
  refine .trans ?_ (Q0d fun y363 => (Q2b Q0b Q0b))
  refine (Q0l (nt := 68) (regs := [(0, rA Q2n v_), (1, rA a3g w_), (2, rA tsI2 need)])).trans ?_
  refine (pre2 (d72 v_ w_ need _)).trans ?_
  refine .trans Q0c ?_
  refine (Q2d (d75 v_ w_ need _)).trans (Q0e fun y363 => ?_)
  refine (Q0m (b := y363) (st' := (S36_1 w_ need)) ).trans (Q2f ?_ ?_)
  · refine (Q2d (d73 w_ need _)).trans ?_
    refine (Q0h).trans ?_
    refine Q0k.trans ?_
    kernel_rfl
  · refine (Q0i).trans ?_
    refine (Q0a (st' := (S36_1 w_ need))).trans ?_
    refine (Q2d (d76 w_ need _)).trans ?_
    refine (Q0h).trans ?_
    kernel_rfl
noncomputable def cp37 : Q2g := Q2i cp36 47 [(.agg Q2n), (.agg a3g), (.agg tsI2)] (.one pB) (fun y : Bool => y) (fun x => a6b x.1 x.2.1 x.2.2.1)
theorem e39 : Q0p E cp37 := conS eok e38 Q0z fun x => Eq.mp (by kernel_rfl) (d74 x.1 x.2.1 x.2.2.1)
end
section
variable {α β : Type} (n_ : Node) (p_ : pane) (k : St → Option α)
noncomputable abbrev C37 := Q0r E.P 69
noncomputable abbrev P37 := @preK α E 69 cp37 noE
theorem d70 : P37 2 C37 ⟨[(0, rA a01 n_), (1, rA a04 p_)], [], [], 6⟩ k = k ⟨[(4, .one (.fn 81 [.cell (a01.leaves n_), .cell (a04.leaves p_)]))], [], [], 6⟩ := by kernel_rfl
def b2w (K : U14 → β) : β := (K ((n_.1, n_.2.1, n_.2.2.1, n_.2.2.2.1, n_.2.2.2.2.1, n_.2.2.2.2.2.1, n_.2.2.2.2.2.2.1, n_.2.2.2.2.2.2.2.1, n_.2.2.2.2.2.2.2.2.1, n_.2.2.2.2.2.2.2.2.2.1, n_.2.2.2.2.2.2.2.2.2.2.1, n_.2.2.2.2.2.2.2.2.2.2.2.1, n_.2.2.2.2.2.2.2.2.2.2.2.2.1, n_.2.2.2.2.2.2.2.2.2.2.2.2.2, ()), (p_.1, p_.2.1, p_.2.2.1, p_.2.2.2.1, p_.2.2.2.2.1, p_.2.2.2.2.2.1, p_.2.2.2.2.2.2, ()), ()))
def a0f : U14 := b2w n_ p_ (fun y => y)
theorem d9a (K : U14 → β) : b2w n_ p_ K = K (a0f n_ p_) := rfl
theorem d71 : Q2j E cp37 noE 69 [rA a01 n_, rA a04 p_] = (fun y : U14 => some (.one (.fn 81 [.cell [di y.1.1, dl (.one (.int .i64)) y.1.2.1, di y.1.2.2.1, di y.1.2.2.2.1, di y.1.2.2.2.2.1, di y.1.2.2.2.2.2.1, di y.1.2.2.2.2.2.2.1, di y.1.2.2.2.2.2.2.2.1, di y.1.2.2.2.2.2.2.2.2.1, di y.1.2.2.2.2.2.2.2.2.2.1, di y.1.2.2.2.2.2.2.2.2.2.2.1, di y.1.2.2.2.2.2.2.2.2.2.2.2.1, dl (.one (.int .i8)) y.1.2.2.2.2.2.2.2.2.2.2.2.2.1, dl (.one (.int .i32)) y.1.2.2.2.2.2.2.2.2.2.2.2.2.2.1], .cell [di y.2.1.1, di y.2.1.2.1, di y.2.1.2.2.1, di y.2.1.2.2.2.1, di y.2.1.2.2.2.2.1, di y.2.1.2.2.2.2.2.1, dl (.one (.int .i8)) y.2.1.2.2.2.2.2.2.1]]) : R)) (a0f n_ p_) := by
  refine Eq.trans ?_ (d9a n_ p_ (fun y : U14 => some (.one (.fn 81 [.cell [di y.1.1, dl (.one (.int .i64)) y.1.2.1, di y.1.2.2.1, di y.1.2.2.2.1, di y.1.2.2.2.2.1, di y.1.2.2.2.2.2.1, di y.1.2.2.2.2.2.2.1, di y.1.2.2.2.2.2.2.2.1, di y.1.2.2.2.2.2.2.2.2.1, di y.1.2.2.2.2.2.2.2.2.2.1, di y.1.2.2.2.2.2.2.2.2.2.2.1, di y.1.2.2.2.2.2.2.2.2.2.2.2.1, dl (.one (.int .i8)) y.1.2.2.2.2.2.2.2.2.2.2.2.2.1, dl (.one (.int .i32)) y.1.2.2.2.2.2.2.2.2.2.2.2.2.2.1], .cell [di y.2.1.1, di y.2.1.2.1, di y.2.1.2.2.1, di y.2.1.2.2.2.1, di y.2.1.2.2.2.2.1, di y.2.1.2.2.2.2.2.1, dl (.one (.int .i8)) y.2.1.2.2.2.2.2.2.1]]) : R)))
  refine (Q0l (nt := 6) (regs := [(0, rA a01 n_), (1, rA a04 p_)])).trans ?_
  unfold b2w
  refine (pre2 (d70 n_ p_ _)).trans ?_
  refine (Q0h).trans ?_
  kernel_rfl
noncomputable def cp38 : Q2g := Q2i cp37 69 [(.agg a01), (.agg a04)] (.one (.one Z7)) (fun y : U14 => y) (fun x => some (a0f x.1 x.2.1))
theorem e3a : Q0p E cp38 := conS eok e39 Q0z fun x => Eq.mp (by kernel_rfl) (d71 x.1 x.2.1)
end
section
variable {α β : Type} (n_ : Node) (p_ : pane) (k : St → Option α)
noncomputable abbrev C38 := Q0r E.P 70
noncomputable abbrev P38 := @preK α E 70 cp38 noE
theorem d77 : P38 2 C38 ⟨[(0, rA a01 n_), (1, rA a04 p_)], [], [], 6⟩ k = k ⟨[(4, .one (.fn 85 [.cell (a01.leaves n_), .cell (a04.leaves p_)]))], [], [], 6⟩ := by kernel_rfl
def b2y (K : U14 → β) : β := (K ((n_.1, n_.2.1, n_.2.2.1, n_.2.2.2.1, n_.2.2.2.2.1, n_.2.2.2.2.2.1, n_.2.2.2.2.2.2.1, n_.2.2.2.2.2.2.2.1, n_.2.2.2.2.2.2.2.2.1, n_.2.2.2.2.2.2.2.2.2.1, n_.2.2.2.2.2.2.2.2.2.2.1, n_.2.2.2.2.2.2.2.2.2.2.2.1, n_.2.2.2.2.2.2.2.2.2.2.2.2.1, n_.2.2.2.2.2.2.2.2.2.2.2.2.2, ()), (p_.1, p_.2.1, p_.2.2.1, p_.2.2.2.1, p_.2.2.2.2.1, p_.2.2.2.2.2.1, p_.2.2.2.2.2.2, ()), ()))
def a0g : U14 := b2y n_ p_ (fun y => y)
theorem d9b (K : U14 → β) : b2y n_ p_ K = K (a0g n_ p_) := rfl
theorem d78 : Q2j E cp38 noE 70 [rA a01 n_, rA a04 p_] = (fun y : U14 => some (.one (.fn 85 [.cell [di y.1.1, dl (.one (.int .i64)) y.1.2.1, di y.1.2.2.1, di y.1.2.2.2.1, di y.1.2.2.2.2.1, di y.1.2.2.2.2.2.1, di y.1.2.2.2.2.2.2.1, di y.1.2.2.2.2.2.2.2.1, di y.1.2.2.2.2.2.2.2.2.1, di y.1.2.2.2.2.2.2.2.2.2.1, di y.1.2.2.2.2.2.2.2.2.2.2.1, di y.1.2.2.2.2.2.2.2.2.2.2.2.1, dl (.one (.int .i8)) y.1.2.2.2.2.2.2.2.2.2.2.2.2.1, dl (.one (.int .i32)) y.1.2.2.2.2.2.2.2.2.2.2.2.2.2.1], .cell [di y.2.1.1, di y.2.1.2.1, di y.2.1.2.2.1, di y.2.1.2.2.2.1, di y.2.1.2.2.2.2.1, di y.2.1.2.2.2.2.2.1, dl (.one (.int .i8)) y.2.1.2.2.2.2.2.2.1]]) : R)) (a0g n_ p_) := by
  refine Eq.trans ?_ (d9b n_ p_ (fun y : U14 => some (.one (.fn 85 [.cell [di y.1.1, dl (.one (.int .i64)) y.1.2.1, di y.1.2.2.1, di y.1.2.2.2.1, di y.1.2.2.2.2.1, di y.1.2.2.2.2.2.1, di y.1.2.2.2.2.2.2.1, di y.1.2.2.2.2.2.2.2.1, di y.1.2.2.2.2.2.2.2.2.1, di y.1.2.2.2.2.2.2.2.2.2.1, di y.1.2.2.2.2.2.2.2.2.2.2.1, di y.1.2.2.2.2.2.2.2.2.2.2.2.1, dl (.one (.int .i8)) y.1.2.2.2.2.2.2.2.2.2.2.2.2.1, dl (.one (.int .i32)) y.1.2.2.2.2.2.2.2.2.2.2.2.2.2.1], .cell [di y.2.1.1, di y.2.1.2.1, di y.2.1.2.2.1, di y.2.1.2.2.2.1, di y.2.1.2.2.2.2.1, di y.2.1.2.2.2.2.2.1, dl (.one (.int .i8)) y.2.1.2.2.2.2.2.2.1]]) : R)))
  refine (Q0l (nt := 6) (regs := [(0, rA a01 n_), (1, rA a04 p_)])).trans ?_
  unfold b2y
  refine (pre2 (d77 n_ p_ _)).trans ?_
  refine (Q0h).trans ?_
  kernel_rfl
noncomputable def cp39 : Q2g := Q2i cp38 70 [(.agg a01), (.agg a04)] (.one (.one Z6)) (fun y : U14 => y) (fun x => some (a0g x.1 x.2.1))
theorem e3b : Q0p E cp39 := conS eok e3a Q0z fun x => Eq.mp (by kernel_rfl) (d78 x.1 x.2.1)
end
section
variable {α β : Type} (n_ : Node) (p_ : pane) (k : St → Option α)
noncomputable abbrev C39 := Q0r E.P 71
noncomputable abbrev P39 := @preK α E 71 cp39 noE
theorem d7l : P39 2 C39 ⟨[(0, rA a01 n_), (1, rA a04 p_)], [], [], 6⟩ k = k ⟨[(4, .one (.fn 86 [.cell (a01.leaves n_), .cell (a04.leaves p_)]))], [], [], 6⟩ := by kernel_rfl
def b39 (K : U14 → β) : β := (K ((n_.1, n_.2.1, n_.2.2.1, n_.2.2.2.1, n_.2.2.2.2.1, n_.2.2.2.2.2.1, n_.2.2.2.2.2.2.1, n_.2.2.2.2.2.2.2.1, n_.2.2.2.2.2.2.2.2.1, n_.2.2.2.2.2.2.2.2.2.1, n_.2.2.2.2.2.2.2.2.2.2.1, n_.2.2.2.2.2.2.2.2.2.2.2.1, n_.2.2.2.2.2.2.2.2.2.2.2.2.1, n_.2.2.2.2.2.2.2.2.2.2.2.2.2, ()), (p_.1, p_.2.1, p_.2.2.1, p_.2.2.2.1, p_.2.2.2.2.1, p_.2.2.2.2.2.1, p_.2.2.2.2.2.2, ()), ()))
def a0h : U14 := b39 n_ p_ (fun y => y)
theorem d9e (K : U14 → β) : b39 n_ p_ K = K (a0h n_ p_) := rfl
theorem d7m : Q2j E cp39 noE 71 [rA a01 n_, rA a04 p_] = (fun y : U14 => some (.one (.fn 86 [.cell [di y.1.1, dl (.one (.int .i64)) y.1.2.1, di y.1.2.2.1, di y.1.2.2.2.1, di y.1.2.2.2.2.1, di y.1.2.2.2.2.2.1, di y.1.2.2.2.2.2.2.1, di y.1.2.2.2.2.2.2.2.1, di y.1.2.2.2.2.2.2.2.2.1, di y.1.2.2.2.2.2.2.2.2.2.1, di y.1.2.2.2.2.2.2.2.2.2.2.1, di y.1.2.2.2.2.2.2.2.2.2.2.2.1, dl (.one (.int .i8)) y.1.2.2.2.2.2.2.2.2.2.2.2.2.1, dl (.one (.int .i32)) y.1.2.2.2.2.2.2.2.2.2.2.2.2.2.1], .cell [di y.2.1.1, di y.2.1.2.1, di y.2.1.2.2.1, di y.2.1.2.2.2.1, di y.2.1.2.2.2.2.1, di y.2.1.2.2.2.2.2.1, dl (.one (.int .i8)) y.2.1.2.2.2.2.2.2.1]]) : R)) (a0h n_ p_) := by
  refine Eq.trans ?_ (d9e n_ p_ (fun y : U14 => some (.one (.fn 86 [.cell [di y.1.1, dl (.one (.int .i64)) y.1.2.1, di y.1.2.2.1, di y.1.2.2.2.1, di y.1.2.2.2.2.1, di y.1.2.2.2.2.2.1, di y.1.2.2.2.2.2.2.1, di y.1.2.2.2.2.2.2.2.1, di y.1.2.2.2.2.2.2.2.2.1, di y.1.2.2.2.2.2.2.2.2.2.1, di y.1.2.2.2.2.2.2.2.2.2.2.1, di y.1.2.2.2.2.2.2.2.2.2.2.2.1, dl (.one (.int .i8)) y.1.2.2.2.2.2.2.2.2.2.2.2.2.1, dl (.one (.int .i32)) y.1.2.2.2.2.2.2.2.2.2.2.2.2.2.1], .cell [di y.2.1.1, di y.2.1.2.1, di y.2.1.2.2.1, di y.2.1.2.2.2.1, di y.2.1.2.2.2.2.1, di y.2.1.2.2.2.2.2.1, dl (.one (.int .i8)) y.2.1.2.2.2.2.2.2.1]]) : R)))
  refine (Q0l (nt := 6) (regs := [(0, rA a01 n_), (1, rA a04 p_)])).trans ?_
  unfold b39
  refine (pre2 (d7l n_ p_ _)).trans ?_
  refine (Q0h).trans ?_
  kernel_rfl
noncomputable def cp40 : Q2g := Q2i cp39 71 [(.agg a01), (.agg a04)] (.one (.one Z5)) (fun y : U14 => y) (fun x => some (a0h x.1 x.2.1))
theorem e3c : Q0p E cp40 := conS eok e3b Q0z fun x => Eq.mp (by kernel_rfl) (d7m x.1 x.2.1)
end
section
variable {α β : Type} (n_ : Node) (p_ : pane) (q_ : pane) (k : St → Option α)
noncomputable abbrev C40 := Q0r E.P 72
noncomputable abbrev P40 := @preK α E 72 cp40 noE
theorem d7j : P40 2 C40 ⟨[(0, rA a01 n_), (1, rA a04 p_), (2, rA a04 q_)], [], [], 8⟩ k = k ⟨[(6, .one (.fn 89 [.cell (a04.leaves p_), .cell (a04.leaves q_), .cell (a01.leaves n_)]))], [], [], 8⟩ := by kernel_rfl
def b37 (K : U18 → β) : β := (K ((p_.1, p_.2.1, p_.2.2.1, p_.2.2.2.1, p_.2.2.2.2.1, p_.2.2.2.2.2.1, p_.2.2.2.2.2.2, ()), (q_.1, q_.2.1, q_.2.2.1, q_.2.2.2.1, q_.2.2.2.2.1, q_.2.2.2.2.2.1, q_.2.2.2.2.2.2, ()), (n_.1, n_.2.1, n_.2.2.1, n_.2.2.2.1, n_.2.2.2.2.1, n_.2.2.2.2.2.1, n_.2.2.2.2.2.2.1, n_.2.2.2.2.2.2.2.1, n_.2.2.2.2.2.2.2.2.1, n_.2.2.2.2.2.2.2.2.2.1, n_.2.2.2.2.2.2.2.2.2.2.1, n_.2.2.2.2.2.2.2.2.2.2.2.1, n_.2.2.2.2.2.2.2.2.2.2.2.2.1, n_.2.2.2.2.2.2.2.2.2.2.2.2.2, ()), ()))
def a0d : U18 := b37 n_ p_ q_ (fun y => y)
theorem d9d (K : U18 → β) : b37 n_ p_ q_ K = K (a0d n_ p_ q_) := rfl
theorem d7k : Q2j E cp40 noE 72 [rA a01 n_, rA a04 p_, rA a04 q_] = (fun y : U18 => some (.one (.fn 89 [.cell [di y.1.1, di y.1.2.1, di y.1.2.2.1, di y.1.2.2.2.1, di y.1.2.2.2.2.1, di y.1.2.2.2.2.2.1, dl (.one (.int .i8)) y.1.2.2.2.2.2.2.1], .cell [di y.2.1.1, di y.2.1.2.1, di y.2.1.2.2.1, di y.2.1.2.2.2.1, di y.2.1.2.2.2.2.1, di y.2.1.2.2.2.2.2.1, dl (.one (.int .i8)) y.2.1.2.2.2.2.2.2.1], .cell [di y.2.2.1.1, dl (.one (.int .i64)) y.2.2.1.2.1, di y.2.2.1.2.2.1, di y.2.2.1.2.2.2.1, di y.2.2.1.2.2.2.2.1, di y.2.2.1.2.2.2.2.2.1, di y.2.2.1.2.2.2.2.2.2.1, di y.2.2.1.2.2.2.2.2.2.2.1, di y.2.2.1.2.2.2.2.2.2.2.2.1, di y.2.2.1.2.2.2.2.2.2.2.2.2.1, di y.2.2.1.2.2.2.2.2.2.2.2.2.2.1, di y.2.2.1.2.2.2.2.2.2.2.2.2.2.2.1, dl (.one (.int .i8)) y.2.2.1.2.2.2.2.2.2.2.2.2.2.2.2.1, dl (.one (.int .i32)) y.2.2.1.2.2.2.2.2.2.2.2.2.2.2.2.2.1]]) : R)) (a0d n_ p_ q_) := by
  refine Eq.trans ?_ (d9d n_ p_ q_ (fun y : U18 => some (.one (.fn 89 [.cell [di y.1.1, di y.1.2.1, di y.1.2.2.1, di y.1.2.2.2.1, di y.1.2.2.2.2.1, di y.1.2.2.2.2.2.1, dl (.one (.int .i8)) y.1.2.2.2.2.2.2.1], .cell [di y.2.1.1, di y.2.1.2.1, di y.2.1.2.2.1, di y.2.1.2.2.2.1, di y.2.1.2.2.2.2.1, di y.2.1.2.2.2.2.2.1, dl (.one (.int .i8)) y.2.1.2.2.2.2.2.2.1], .cell [di y.2.2.1.1, dl (.one (.int .i64)) y.2.2.1.2.1, di y.2.2.1.2.2.1, di y.2.2.1.2.2.2.1, di y.2.2.1.2.2.2.2.1, di y.2.2.1.2.2.2.2.2.1, di y.2.2.1.2.2.2.2.2.2.1, di y.2.2.1.2.2.2.2.2.2.2.1, di y.2.2.1.2.2.2.2.2.2.2.2.1, di y.2.2.1.2.2.2.2.2.2.2.2.2.1, di y.2.2.1.2.2.2.2.2.2.2.2.2.2.1, di y.2.2.1.2.2.2.2.2.2.2.2.2.2.2.1, dl (.one (.int .i8)) y.2.2.1.2.2.2.2.2.2.2.2.2.2.2.2.1, dl (.one (.int .i32)) y.2.2.1.2.2.2.2.2.2.2.2.2.2.2.2.2.1]]) : R)))
  refine (Q0l (nt := 8) (regs := [(0, rA a01 n_), (1, rA a04 p_), (2, rA a04 q_)])).trans ?_
  unfold b37
  refine (pre2 (d7j n_ p_ q_ _)).trans ?_
  refine (Q0h).trans ?_
  kernel_rfl
noncomputable def cp41 : Q2g := Q2i cp40 72 [(.agg a01), (.agg a04), (.agg a04)] (.one (.one Z8)) (fun y : U18 => y) (fun x => some (a0d x.1 x.2.1 x.2.2.1))
theorem e3d : Q0p E cp41 := conS eok e3c Q0z fun x => Eq.mp (by kernel_rfl) (d7k x.1 x.2.1 x.2.2.1)
end
section
variable {α β : Type} (n_ : Node) (v_ : I4) (panes : A9) (k : St → Option α) (q : Kont α)
noncomputable abbrev C41 := Q0r E.P 48
noncomputable abbrev P41 := @preK α E 48 cp41 noE
noncomputable abbrev R41 := @Q0o α E 48 cp41 noE
noncomputable abbrev Q41 := @seqC α E 48 cp41 noE
abbrev S41_0 : St := ⟨[(3, rC a01 n_), (4, rC Q2n v_), (5, rC tsA9 panes), (7, rF 0)], [[di panes.1, di panes.2.1, di panes.2.2.1, di panes.2.2.2.1, di panes.2.2.2.2.1, di panes.2.2.2.2.2.1, dl (.one (.int .i8)) panes.2.2.2.2.2.2.1]], [], 50⟩
theorem d79 : P41 2 C41 ⟨[(0, rA a01 n_), (1, rA Q2n v_), (2, rA tsA9 panes)], [], [], 50⟩ k = k (S41_0 n_ v_ panes) := by kernel_rfl
abbrev S41_1 : St := ⟨[(3, rC a01 n_), (4, rC Q2n v_), (5, rC tsA9 panes), (7, rF 0), (11, ri n_.1)], [[di panes.1, di panes.2.1, di panes.2.2.1, di panes.2.2.2.1, di panes.2.2.2.2.1, di panes.2.2.2.2.2.1, dl (.one (.int .i8)) panes.2.2.2.2.2.2.1]], [], 50⟩
theorem d7a : P41 1 C41.r.r.l (S41_0 n_ v_ panes) k = k (S41_1 n_ v_ panes) := by kernel_rfl
abbrev S41_2 : St := ⟨[(3, rC a01 n_), (4, rC Q2n v_), (5, rC tsA9 panes), (7, rF 0), (11, ri n_.1), (12, rb (n_.1 == 1))], [[di panes.1, di panes.2.1, di panes.2.2.1, di panes.2.2.2.1, di panes.2.2.2.2.1, di panes.2.2.2.2.2.1, dl (.one (.int .i8)) panes.2.2.2.2.2.2.1]], [], 50⟩
theorem b9w : P41 1 C41.r.r.l.r.b.l (S41_1 n_ v_ panes) k = k (S41_2 n_ v_ panes) := by kernel_rfl
abbrev S41_3 : St := ⟨[(3, rC a01 n_), (4, rC Q2n v_), (5, rC tsA9 panes), (7, rF 0), (11, ri n_.1), (12, rb (n_.1 == 2))], [[di panes.1, di panes.2.1, di panes.2.2.1, di panes.2.2.2.1, di panes.2.2.2.2.1, di panes.2.2.2.2.2.1, dl (.one (.int .i8)) panes.2.2.2.2.2.2.1]], [], 50⟩
theorem d7f : R41 C41.r.r.l.r.b.l.r.e (S41_2 n_ v_ panes) q = q .normal (S41_3 n_ v_ panes) := by kernel_rfl
def a8f (K : Bool → β) : β := (bif (n_.1 == 1) then (K (n_.1 == 1)) else (K (n_.1 == 2)))
def a4f : Bool := a8f n_ (fun y => y)
theorem c9b (K : Bool → β) : a8f n_ K = K (a4f n_) := (Q2h K rfl rfl)
abbrev S41_4 : St := ⟨[(3, rC a01 n_), (4, rC Q2n v_), (5, rC tsA9 panes), (7, rF 0), (11, ri n_.1), (12, rb (a4f n_))], [[di panes.1, di panes.2.1, di panes.2.2.1, di panes.2.2.2.1, di panes.2.2.2.2.1, di panes.2.2.2.2.2.1, dl (.one (.int .i8)) panes.2.2.2.2.2.2.1]], [], 50⟩
theorem d7d : R41 C41.r.r.l.r.b.l (S41_1 n_ v_ panes) (Q41 C41.r.r.l.r.b.r q) = R41 C41.r.r.l.r.b.r (S41_4 n_ v_ panes) q := by
  refine Eq.trans ?_ (c9b n_ (fun y489 : Bool => R41 C41.r.r.l.r.b.r ⟨[(3, rC a01 n_), (4, rC Q2n v_), (5, rC tsA9 panes), (7, rF 0), (11, ri n_.1), (12, rb y489)], [[di panes.1, di panes.2.1, di panes.2.2.1, di panes.2.2.2.1, di panes.2.2.2.2.1, di panes.2.2.2.2.2.1, dl (.one (.int .i8)) panes.2.2.2.2.2.2.1]], [], 50⟩ q))
  unfold a8f
  refine (Q2d (b9w n_ v_ panes _)).trans ?_
  refine (cond_s (b := (n_.1 == 1)) ).trans (Q2f ?_ ?_)
  · refine (Q0i).trans ?_
    refine (Q0a (st' := (S41_2 n_ v_ panes))).trans ?_
    kernel_rfl
  · refine (d7f n_ v_ panes _).trans ?_
    refine (Q0a (st' := (S41_3 n_ v_ panes))).trans ?_
    kernel_rfl
def b4m (K : U14 → β) : β := (K ((((a0f n_ (panes.1, panes.2.1, panes.2.2.1, panes.2.2.2.1, panes.2.2.2.2.1, panes.2.2.2.2.2.1, panes.2.2.2.2.2.2.1)).1).1, ((a0f n_ (panes.1, panes.2.1, panes.2.2.1, panes.2.2.2.1, panes.2.2.2.2.1, panes.2.2.2.2.2.1, panes.2.2.2.2.2.2.1)).1).2.1, ((a0f n_ (panes.1, panes.2.1, panes.2.2.1, panes.2.2.2.1, panes.2.2.2.2.1, panes.2.2.2.2.2.1, panes.2.2.2.2.2.2.1)).1).2.2.1, ((a0f n_ (panes.1, panes.2.1, panes.2.2.1, panes.2.2.2.1, panes.2.2.2.2.1, panes.2.2.2.2.2.1, panes.2.2.2.2.2.2.1)).1).2.2.2.1, ((a0f n_ (panes.1, panes.2.1, panes.2.2.1, panes.2.2.2.1, panes.2.2.2.2.1, panes.2.2.2.2.2.1, panes.2.2.2.2.2.2.1)).1).2.2.2.2.1, ((a0f n_ (panes.1, panes.2.1, panes.2.2.1, panes.2.2.2.1, panes.2.2.2.2.1, panes.2.2.2.2.2.1, panes.2.2.2.2.2.2.1)).1).2.2.2.2.2.1, ((a0f n_ (panes.1, panes.2.1, panes.2.2.1, panes.2.2.2.1, panes.2.2.2.2.1, panes.2.2.2.2.2.1, panes.2.2.2.2.2.2.1)).1).2.2.2.2.2.2.1, ((a0f n_ (panes.1, panes.2.1, panes.2.2.1, panes.2.2.2.1, panes.2.2.2.2.1, panes.2.2.2.2.2.1, panes.2.2.2.2.2.2.1)).1).2.2.2.2.2.2.2.1, ((a0f n_ (panes.1, panes.2.1, panes.2.2.1, panes.2.2.2.1, panes.2.2.2.2.1, panes.2.2.2.2.2.1, panes.2.2.2.2.2.2.1)).1).2.2.2.2.2.2.2.2.1, ((a0f n_ (panes.1, panes.2.1, panes.2.2.1, panes.2.2.2.1, panes.2.2.2.2.1, panes.2.2.2.2.2.1, panes.2.2.2.2.2.2.1)).1).2.2.2.2.2.2.2.2.2.1, ((a0f n_ (panes.1, panes.2.1, panes.2.2.1, panes.2.2.2.1, panes.2.2.2.2.1, panes.2.2.2.2.2.1, panes.2.2.2.2.2.2.1)).1).2.2.2.2.2.2.2.2.2.2.1, ((a0f n_ (panes.1, panes.2.1, panes.2.2.1, panes.2.2.2.1, panes.2.2.2.2.1, panes.2.2.2.2.2.1, panes.2.2.2.2.2.2.1)).1).2.2.2.2.2.2.2.2.2.2.2.1, ((a0f n_ (panes.1, panes.2.1, panes.2.2.1, panes.2.2.2.1, panes.2.2.2.2.1, panes.2.2.2.2.2.1, panes.2.2.2.2.2.2.1)).1).2.2.2.2.2.2.2.2.2.2.2.2.1, ((a0f n_ (panes.1, panes.2.1, panes.2.2.1, panes.2.2.2.1, panes.2.2.2.2.1, panes.2.2.2.2.2.1, panes.2.2.2.2.2.2.1)).1).2.2.2.2.2.2.2.2.2.2.2.2.2.1, ()), (((a0f n_ (panes.1, panes.2.1, panes.2.2.1, panes.2.2.2.1, panes.2.2.2.2.1, panes.2.2.2.2.2.1, panes.2.2.2.2.2.2.1)).2.1).1, ((a0f n_ (panes.1, panes.2.1, panes.2.2.1, panes.2.2.2.1, panes.2.2.2.2.1, panes.2.2.2.2.2.1, panes.2.2.2.2.2.2.1)).2.1).2.1, ((a0f n_ (panes.1, panes.2.1, panes.2.2.1, panes.2.2.2.1, panes.2.2.2.2.1, panes.2.2.2.2.2.1, panes.2.2.2.2.2.2.1)).2.1).2.2.1, ((a0f n_ (panes.1, panes.2.1, panes.2.2.1, panes.2.2.2.1, panes.2.2.2.2.1, panes.2.2.2.2.2.1, panes.2.2.2.2.2.2.1)).2.1).2.2.2.1, ((a0f n_ (panes.1, panes.2.1, panes.2.2.1, panes.2.2.2.1, panes.2.2.2.2.1, panes.2.2.2.2.2.1, panes.2.2.2.2.2.2.1)).2.1).2.2.2.2.1, ((a0f n_ (panes.1, panes.2.1, panes.2.2.1, panes.2.2.2.1, panes.2.2.2.2.1, panes.2.2.2.2.2.1, panes.2.2.2.2.2.2.1)).2.1).2.2.2.2.2.1, ((a0f n_ (panes.1, panes.2.1, panes.2.2.1, panes.2.2.2.1, panes.2.2.2.2.1, panes.2.2.2.2.2.1, panes.2.2.2.2.2.2.1)).2.1).2.2.2.2.2.2.1, ()), ()))
def a06 : U14 := b4m n_ panes (fun y => y)
theorem c9d (K : U14 → β) : b4m n_ panes K = K (a06 n_ panes) := rfl
theorem d7g : P41 1 C41.r.r.l.r.b.r.t (S41_4 n_ v_ panes) k = k ⟨[(6, .one (.fn 81 [.cell [di (((a06 n_ panes).1).1), dl (.one (.int .i64)) (((a06 n_ panes).1).2.1), di (((a06 n_ panes).1).2.2.1), di (((a06 n_ panes).1).2.2.2.1), di (((a06 n_ panes).1).2.2.2.2.1), di (((a06 n_ panes).1).2.2.2.2.2.1), di (((a06 n_ panes).1).2.2.2.2.2.2.1), di (((a06 n_ panes).1).2.2.2.2.2.2.2.1), di (((a06 n_ panes).1).2.2.2.2.2.2.2.2.1), di (((a06 n_ panes).1).2.2.2.2.2.2.2.2.2.1), di (((a06 n_ panes).1).2.2.2.2.2.2.2.2.2.2.1), di (((a06 n_ panes).1).2.2.2.2.2.2.2.2.2.2.2.1), dl (.one (.int .i8)) (((a06 n_ panes).1).2.2.2.2.2.2.2.2.2.2.2.2.1), dl (.one (.int .i32)) (((a06 n_ panes).1).2.2.2.2.2.2.2.2.2.2.2.2.2.1)], .cell [di (((a06 n_ panes).2.1).1), di (((a06 n_ panes).2.1).2.1), di (((a06 n_ panes).2.1).2.2.1), di (((a06 n_ panes).2.1).2.2.2.1), di (((a06 n_ panes).2.1).2.2.2.2.1), di (((a06 n_ panes).2.1).2.2.2.2.2.1), dl (.one (.int .i8)) (((a06 n_ panes).2.1).2.2.2.2.2.2.1)]]))], [[di panes.1, di panes.2.1, di panes.2.2.1, di panes.2.2.2.1, di panes.2.2.2.2.1, di panes.2.2.2.2.2.1, dl (.one (.int .i8)) panes.2.2.2.2.2.2.1]], [], 50⟩ := Eq.trans (by kernel_rfl) (c9d n_ panes (fun y490 : U14 => k ⟨[(6, .one (.fn 81 [.cell [di y490.1.1, dl (.one (.int .i64)) y490.1.2.1, di y490.1.2.2.1, di y490.1.2.2.2.1, di y490.1.2.2.2.2.1, di y490.1.2.2.2.2.2.1, di y490.1.2.2.2.2.2.2.1, di y490.1.2.2.2.2.2.2.2.1, di y490.1.2.2.2.2.2.2.2.2.1, di y490.1.2.2.2.2.2.2.2.2.2.1, di y490.1.2.2.2.2.2.2.2.2.2.2.1, di y490.1.2.2.2.2.2.2.2.2.2.2.2.1, dl (.one (.int .i8)) y490.1.2.2.2.2.2.2.2.2.2.2.2.2.1, dl (.one (.int .i32)) y490.1.2.2.2.2.2.2.2.2.2.2.2.2.2.1], .cell [di y490.2.1.1, di y490.2.1.2.1, di y490.2.1.2.2.1, di y490.2.1.2.2.2.1, di y490.2.1.2.2.2.2.1, di y490.2.1.2.2.2.2.2.1, dl (.one (.int .i8)) y490.2.1.2.2.2.2.2.2.1]]))], [[di panes.1, di panes.2.1, di panes.2.2.1, di panes.2.2.2.1, di panes.2.2.2.2.1, di panes.2.2.2.2.2.1, dl (.one (.int .i8)) panes.2.2.2.2.2.2.1]], [], 50⟩))
theorem b9r : P41 1 C41.r.r.l.r.b.r.e (S41_4 n_ v_ panes) k = k ⟨[(3, rC a01 n_), (4, rC Q2n v_), (5, rC tsA9 panes), (7, rF 0), (11, ri n_.1), (18, rb (n_.1 == 3))], [[di panes.1, di panes.2.1, di panes.2.2.1, di panes.2.2.2.1, di panes.2.2.2.2.1, di panes.2.2.2.2.2.1, dl (.one (.int .i8)) panes.2.2.2.2.2.2.1]], [], 50⟩ := by kernel_rfl
def b4n (K : U14 → β) : β := (K ((((a0g n_ (panes.1, panes.2.1, panes.2.2.1, panes.2.2.2.1, panes.2.2.2.2.1, panes.2.2.2.2.2.1, panes.2.2.2.2.2.2.1)).1).1, ((a0g n_ (panes.1, panes.2.1, panes.2.2.1, panes.2.2.2.1, panes.2.2.2.2.1, panes.2.2.2.2.2.1, panes.2.2.2.2.2.2.1)).1).2.1, ((a0g n_ (panes.1, panes.2.1, panes.2.2.1, panes.2.2.2.1, panes.2.2.2.2.1, panes.2.2.2.2.2.1, panes.2.2.2.2.2.2.1)).1).2.2.1, ((a0g n_ (panes.1, panes.2.1, panes.2.2.1, panes.2.2.2.1, panes.2.2.2.2.1, panes.2.2.2.2.2.1, panes.2.2.2.2.2.2.1)).1).2.2.2.1, ((a0g n_ (panes.1, panes.2.1, panes.2.2.1, panes.2.2.2.1, panes.2.2.2.2.1, panes.2.2.2.2.2.1, panes.2.2.2.2.2.2.1)).1).2.2.2.2.1, ((a0g n_ (panes.1, panes.2.1, panes.2.2.1, panes.2.2.2.1, panes.2.2.2.2.1, panes.2.2.2.2.2.1, panes.2.2.2.2.2.2.1)).1).2.2.2.2.2.1, ((a0g n_ (panes.1, panes.2.1, panes.2.2.1, panes.2.2.2.1, panes.2.2.2.2.1, panes.2.2.2.2.2.1, panes.2.2.2.2.2.2.1)).1).2.2.2.2.2.2.1, ((a0g n_ (panes.1, panes.2.1, panes.2.2.1, panes.2.2.2.1, panes.2.2.2.2.1, panes.2.2.2.2.2.1, panes.2.2.2.2.2.2.1)).1).2.2.2.2.2.2.2.1, ((a0g n_ (panes.1, panes.2.1, panes.2.2.1, panes.2.2.2.1, panes.2.2.2.2.1, panes.2.2.2.2.2.1, panes.2.2.2.2.2.2.1)).1).2.2.2.2.2.2.2.2.1, ((a0g n_ (panes.1, panes.2.1, panes.2.2.1, panes.2.2.2.1, panes.2.2.2.2.1, panes.2.2.2.2.2.1, panes.2.2.2.2.2.2.1)).1).2.2.2.2.2.2.2.2.2.1, ((a0g n_ (panes.1, panes.2.1, panes.2.2.1, panes.2.2.2.1, panes.2.2.2.2.1, panes.2.2.2.2.2.1, panes.2.2.2.2.2.2.1)).1).2.2.2.2.2.2.2.2.2.2.1, ((a0g n_ (panes.1, panes.2.1, panes.2.2.1, panes.2.2.2.1, panes.2.2.2.2.1, panes.2.2.2.2.2.1, panes.2.2.2.2.2.2.1)).1).2.2.2.2.2.2.2.2.2.2.2.1, ((a0g n_ (panes.1, panes.2.1, panes.2.2.1, panes.2.2.2.1, panes.2.2.2.2.1, panes.2.2.2.2.2.1, panes.2.2.2.2.2.2.1)).1).2.2.2.2.2.2.2.2.2.2.2.2.1, ((a0g n_ (panes.1, panes.2.1, panes.2.2.1, panes.2.2.2.1, panes.2.2.2.2.1, panes.2.2.2.2.2.1, panes.2.2.2.2.2.2.1)).1).2.2.2.2.2.2.2.2.2.2.2.2.2.1, ()), (((a0g n_ (panes.1, panes.2.1, panes.2.2.1, panes.2.2.2.1, panes.2.2.2.2.1, panes.2.2.2.2.2.1, panes.2.2.2.2.2.2.1)).2.1).1, ((a0g n_ (panes.1, panes.2.1, panes.2.2.1, panes.2.2.2.1, panes.2.2.2.2.1, panes.2.2.2.2.2.1, panes.2.2.2.2.2.2.1)).2.1).2.1, ((a0g n_ (panes.1, panes.2.1, panes.2.2.1, panes.2.2.2.1, panes.2.2.2.2.1, panes.2.2.2.2.2.1, panes.2.2.2.2.2.2.1)).2.1).2.2.1, ((a0g n_ (panes.1, panes.2.1, panes.2.2.1, panes.2.2.2.1, panes.2.2.2.2.1, panes.2.2.2.2.2.1, panes.2.2.2.2.2.2.1)).2.1).2.2.2.1, ((a0g n_ (panes.1, panes.2.1, panes.2.2.1, panes.2.2.2.1, panes.2.2.2.2.1, panes.2.2.2.2.2.1, panes.2.2.2.2.2.2.1)).2.1).2.2.2.2.1, ((a0g n_ (panes.1, panes.2.1, panes.2.2.1, panes.2.2.2.1, panes.2.2.2.2.1, panes.2.2.2.2.2.1, panes.2.2.2.2.2.2.1)).2.1).2.2.2.2.2.1, ((a0g n_ (panes.1, panes.2.1, panes.2.2.1, panes.2.2.2.1, panes.2.2.2.2.1, panes.2.2.2.2.2.1, panes.2.2.2.2.2.2.1)).2.1).2.2.2.2.2.2.1, ()), ()))
def a07 : U14 := b4n n_ panes (fun y => y)
theorem c9e (K : U14 → β) : b4n n_ panes K = K (a07 n_ panes) := rfl
theorem d7h : P41 1 C41.r.r.l.r.b.r.e.r.t (S41_1 n_ v_ panes) k = k ⟨[(6, .one (.fn 85 [.cell [di (((a07 n_ panes).1).1), dl (.one (.int .i64)) (((a07 n_ panes).1).2.1), di (((a07 n_ panes).1).2.2.1), di (((a07 n_ panes).1).2.2.2.1), di (((a07 n_ panes).1).2.2.2.2.1), di (((a07 n_ panes).1).2.2.2.2.2.1), di (((a07 n_ panes).1).2.2.2.2.2.2.1), di (((a07 n_ panes).1).2.2.2.2.2.2.2.1), di (((a07 n_ panes).1).2.2.2.2.2.2.2.2.1), di (((a07 n_ panes).1).2.2.2.2.2.2.2.2.2.1), di (((a07 n_ panes).1).2.2.2.2.2.2.2.2.2.2.1), di (((a07 n_ panes).1).2.2.2.2.2.2.2.2.2.2.2.1), dl (.one (.int .i8)) (((a07 n_ panes).1).2.2.2.2.2.2.2.2.2.2.2.2.1), dl (.one (.int .i32)) (((a07 n_ panes).1).2.2.2.2.2.2.2.2.2.2.2.2.2.1)], .cell [di (((a07 n_ panes).2.1).1), di (((a07 n_ panes).2.1).2.1), di (((a07 n_ panes).2.1).2.2.1), di (((a07 n_ panes).2.1).2.2.2.1), di (((a07 n_ panes).2.1).2.2.2.2.1), di (((a07 n_ panes).2.1).2.2.2.2.2.1), dl (.one (.int .i8)) (((a07 n_ panes).2.1).2.2.2.2.2.2.1)]]))], [[di panes.1, di panes.2.1, di panes.2.2.1, di panes.2.2.2.1, di panes.2.2.2.2.1, di panes.2.2.2.2.2.1, dl (.one (.int .i8)) panes.2.2.2.2.2.2.1]], [], 50⟩ := Eq.trans (by kernel_rfl) (c9e n_ panes (fun y491 : U14 => k ⟨[(6, .one (.fn 85 [.cell [di y491.1.1, dl (.one (.int .i64)) y491.1.2.1, di y491.1.2.2.1, di y491.1.2.2.2.1, di y491.1.2.2.2.2.1, di y491.1.2.2.2.2.2.1, di y491.1.2.2.2.2.2.2.1, di y491.1.2.2.2.2.2.2.2.1, di y491.1.2.2.2.2.2.2.2.2.1, di y491.1.2.2.2.2.2.2.2.2.2.1, di y491.1.2.2.2.2.2.2.2.2.2.2.1, di y491.1.2.2.2.2.2.2.2.2.2.2.2.1, dl (.one (.int .i8)) y491.1.2.2.2.2.2.2.2.2.2.2.2.2.1, dl (.one (.int .i32)) y491.1.2.2.2.2.2.2.2.2.2.2.2.2.2.1], .cell [di y491.2.1.1, di y491.2.1.2.1, di y491.2.1.2.2.1, di y491.2.1.2.2.2.1, di y491.2.1.2.2.2.2.1, di y491.2.1.2.2.2.2.2.1, dl (.one (.int .i8)) y491.2.1.2.2.2.2.2.2.1]]))], [[di panes.1, di panes.2.1, di panes.2.2.1, di panes.2.2.2.1, di panes.2.2.2.2.1, di panes.2.2.2.2.2.1, dl (.one (.int .i8)) panes.2.2.2.2.2.2.1]], [], 50⟩))
abbrev S41_5 : St := ⟨[(3, rC a01 n_), (4, rC Q2n v_), (5, rC tsA9 panes), (7, rF 0), (11, ri n_.1), (23, rb (n_.1 == 4))], [[di panes.1, di panes.2.1, di panes.2.2.1, di panes.2.2.2.1, di panes.2.2.2.2.1, di panes.2.2.2.2.2.1, dl (.one (.int .i8)) panes.2.2.2.2.2.2.1]], [], 50⟩
theorem b9x : P41 1 C41.r.r.l.r.b.r.e.r.e.l (S41_1 n_ v_ panes) k = k (S41_5 n_ v_ panes) := by kernel_rfl
abbrev S41_6 : St := ⟨[(3, rC a01 n_), (4, rC Q2n v_), (5, rC tsA9 panes), (7, rF 0), (11, ri n_.1), (23, rb (n_.1 == 5))], [[di panes.1, di panes.2.1, di panes.2.2.1, di panes.2.2.2.1, di panes.2.2.2.2.1, di panes.2.2.2.2.2.1, dl (.one (.int .i8)) panes.2.2.2.2.2.2.1]], [], 50⟩
theorem d7i : R41 C41.r.r.l.r.b.r.e.r.e.l.r.e (S41_5 n_ v_ panes) q = q .normal (S41_6 n_ v_ panes) := by kernel_rfl
def a8g (K : Bool → β) : β := (bif (n_.1 == 4) then (K (n_.1 == 4)) else (K (n_.1 == 5)))
def a4g : Bool := a8g n_ (fun y => y)
theorem c9c (K : Bool → β) : a8g n_ K = K (a4g n_) := (Q2h K rfl rfl)
abbrev S41_7 : St := ⟨[(3, rC a01 n_), (4, rC Q2n v_), (5, rC tsA9 panes), (7, rF 0), (11, ri n_.1), (23, rb (a4g n_))], [[di panes.1, di panes.2.1, di panes.2.2.1, di panes.2.2.2.1, di panes.2.2.2.2.1, di panes.2.2.2.2.2.1, dl (.one (.int .i8)) panes.2.2.2.2.2.2.1]], [], 50⟩
theorem d7e : R41 C41.r.r.l.r.b.r.e.r.e.l (S41_1 n_ v_ panes) (Q41 C41.r.r.l.r.b.r.e.r.e.r q) = R41 C41.r.r.l.r.b.r.e.r.e.r (S41_7 n_ v_ panes) q := by
  refine Eq.trans ?_ (c9c n_ (fun y492 : Bool => R41 C41.r.r.l.r.b.r.e.r.e.r ⟨[(3, rC a01 n_), (4, rC Q2n v_), (5, rC tsA9 panes), (7, rF 0), (11, ri n_.1), (23, rb y492)], [[di panes.1, di panes.2.1, di panes.2.2.1, di panes.2.2.2.1, di panes.2.2.2.2.1, di panes.2.2.2.2.2.1, dl (.one (.int .i8)) panes.2.2.2.2.2.2.1]], [], 50⟩ q))
  unfold a8g
  refine (Q2d (b9x n_ v_ panes _)).trans ?_
  refine (cond_s (b := (n_.1 == 4)) ).trans (Q2f ?_ ?_)
  · refine (Q0i).trans ?_
    refine (Q0a (st' := (S41_5 n_ v_ panes))).trans ?_
    kernel_rfl
  · refine (d7i n_ v_ panes _).trans ?_
    refine (Q0a (st' := (S41_6 n_ v_ panes))).trans ?_
    kernel_rfl
def b2b (K : U14 → β) : β := (K ((((a0h n_ (panes.1, panes.2.1, panes.2.2.1, panes.2.2.2.1, panes.2.2.2.2.1, panes.2.2.2.2.2.1, panes.2.2.2.2.2.2.1)).1).1, ((a0h n_ (panes.1, panes.2.1, panes.2.2.1, panes.2.2.2.1, panes.2.2.2.2.1, panes.2.2.2.2.2.1, panes.2.2.2.2.2.2.1)).1).2.1, ((a0h n_ (panes.1, panes.2.1, panes.2.2.1, panes.2.2.2.1, panes.2.2.2.2.1, panes.2.2.2.2.2.1, panes.2.2.2.2.2.2.1)).1).2.2.1, ((a0h n_ (panes.1, panes.2.1, panes.2.2.1, panes.2.2.2.1, panes.2.2.2.2.1, panes.2.2.2.2.2.1, panes.2.2.2.2.2.2.1)).1).2.2.2.1, ((a0h n_ (panes.1, panes.2.1, panes.2.2.1, panes.2.2.2.1, panes.2.2.2.2.1, panes.2.2.2.2.2.1, panes.2.2.2.2.2.2.1)).1).2.2.2.2.1, ((a0h n_ (panes.1, panes.2.1, panes.2.2.1, panes.2.2.2.1, panes.2.2.2.2.1, panes.2.2.2.2.2.1, panes.2.2.2.2.2.2.1)).1).2.2.2.2.2.1, ((a0h n_ (panes.1, panes.2.1, panes.2.2.1, panes.2.2.2.1, panes.2.2.2.2.1, panes.2.2.2.2.2.1, panes.2.2.2.2.2.2.1)).1).2.2.2.2.2.2.1, ((a0h n_ (panes.1, panes.2.1, panes.2.2.1, panes.2.2.2.1, panes.2.2.2.2.1, panes.2.2.2.2.2.1, panes.2.2.2.2.2.2.1)).1).2.2.2.2.2.2.2.1, ((a0h n_ (panes.1, panes.2.1, panes.2.2.1, panes.2.2.2.1, panes.2.2.2.2.1, panes.2.2.2.2.2.1, panes.2.2.2.2.2.2.1)).1).2.2.2.2.2.2.2.2.1, ((a0h n_ (panes.1, panes.2.1, panes.2.2.1, panes.2.2.2.1, panes.2.2.2.2.1, panes.2.2.2.2.2.1, panes.2.2.2.2.2.2.1)).1).2.2.2.2.2.2.2.2.2.1, ((a0h n_ (panes.1, panes.2.1, panes.2.2.1, panes.2.2.2.1, panes.2.2.2.2.1, panes.2.2.2.2.2.1, panes.2.2.2.2.2.2.1)).1).2.2.2.2.2.2.2.2.2.2.1, ((a0h n_ (panes.1, panes.2.1, panes.2.2.1, panes.2.2.2.1, panes.2.2.2.2.1, panes.2.2.2.2.2.1, panes.2.2.2.2.2.2.1)).1).2.2.2.2.2.2.2.2.2.2.2.1, ((a0h n_ (panes.1, panes.2.1, panes.2.2.1, panes.2.2.2.1, panes.2.2.2.2.1, panes.2.2.2.2.2.1, panes.2.2.2.2.2.2.1)).1).2.2.2.2.2.2.2.2.2.2.2.2.1, ((a0h n_ (panes.1, panes.2.1, panes.2.2.1, panes.2.2.2.1, panes.2.2.2.2.1, panes.2.2.2.2.2.1, panes.2.2.2.2.2.2.1)).1).2.2.2.2.2.2.2.2.2.2.2.2.2.1, ()), (((a0h n_ (panes.1, panes.2.1, panes.2.2.1, panes.2.2.2.1, panes.2.2.2.2.1, panes.2.2.2.2.2.1, panes.2.2.2.2.2.2.1)).2.1).1, ((a0h n_ (panes.1, panes.2.1, panes.2.2.1, panes.2.2.2.1, panes.2.2.2.2.1, panes.2.2.2.2.2.1, panes.2.2.2.2.2.2.1)).2.1).2.1, ((a0h n_ (panes.1, panes.2.1, panes.2.2.1, panes.2.2.2.1, panes.2.2.2.2.1, panes.2.2.2.2.2.1, panes.2.2.2.2.2.2.1)).2.1).2.2.1, ((a0h n_ (panes.1, panes.2.1, panes.2.2.1, panes.2.2.2.1, panes.2.2.2.2.1, panes.2.2.2.2.2.1, panes.2.2.2.2.2.2.1)).2.1).2.2.2.1, ((a0h n_ (panes.1, panes.2.1, panes.2.2.1, panes.2.2.2.1, panes.2.2.2.2.1, panes.2.2.2.2.2.1, panes.2.2.2.2.2.2.1)).2.1).2.2.2.2.1, ((a0h n_ (panes.1, panes.2.1, panes.2.2.1, panes.2.2.2.1, panes.2.2.2.2.1, panes.2.2.2.2.2.1, panes.2.2.2.2.2.2.1)).2.1).2.2.2.2.2.1, ((a0h n_ (panes.1, panes.2.1, panes.2.2.1, panes.2.2.2.1, panes.2.2.2.2.1, panes.2.2.2.2.2.1, panes.2.2.2.2.2.2.1)).2.1).2.2.2.2.2.2.1, ()), ()))
def a05 : U14 := b2b n_ panes (fun y => y)
theorem c5o (K : U14 → β) : b2b n_ panes K = K (a05 n_ panes) := rfl
theorem d2m : P41 1 C41.r.r.l.r.b.r.e.r.e.r.t (S41_7 n_ v_ panes) k = k ⟨[(6, .one (.fn 86 [.cell [di (((a05 n_ panes).1).1), dl (.one (.int .i64)) (((a05 n_ panes).1).2.1), di (((a05 n_ panes).1).2.2.1), di (((a05 n_ panes).1).2.2.2.1), di (((a05 n_ panes).1).2.2.2.2.1), di (((a05 n_ panes).1).2.2.2.2.2.1), di (((a05 n_ panes).1).2.2.2.2.2.2.1), di (((a05 n_ panes).1).2.2.2.2.2.2.2.1), di (((a05 n_ panes).1).2.2.2.2.2.2.2.2.1), di (((a05 n_ panes).1).2.2.2.2.2.2.2.2.2.1), di (((a05 n_ panes).1).2.2.2.2.2.2.2.2.2.2.1), di (((a05 n_ panes).1).2.2.2.2.2.2.2.2.2.2.2.1), dl (.one (.int .i8)) (((a05 n_ panes).1).2.2.2.2.2.2.2.2.2.2.2.2.1), dl (.one (.int .i32)) (((a05 n_ panes).1).2.2.2.2.2.2.2.2.2.2.2.2.2.1)], .cell [di (((a05 n_ panes).2.1).1), di (((a05 n_ panes).2.1).2.1), di (((a05 n_ panes).2.1).2.2.1), di (((a05 n_ panes).2.1).2.2.2.1), di (((a05 n_ panes).2.1).2.2.2.2.1), di (((a05 n_ panes).2.1).2.2.2.2.2.1), dl (.one (.int .i8)) (((a05 n_ panes).2.1).2.2.2.2.2.2.1)]]))], [[di panes.1, di panes.2.1, di panes.2.2.1, di panes.2.2.2.1, di panes.2.2.2.2.1, di panes.2.2.2.2.2.1, dl (.one (.int .i8)) panes.2.2.2.2.2.2.1]], [], 50⟩ := Eq.trans (by kernel_rfl) (c5o n_ panes (fun y493 : U14 => k ⟨[(6, .one (.fn 86 [.cell [di y493.1.1, dl (.one (.int .i64)) y493.1.2.1, di y493.1.2.2.1, di y493.1.2.2.2.1, di y493.1.2.2.2.2.1, di y493.1.2.2.2.2.2.1, di y493.1.2.2.2.2.2.2.1, di y493.1.2.2.2.2.2.2.2.1, di y493.1.2.2.2.2.2.2.2.2.1, di y493.1.2.2.2.2.2.2.2.2.2.1, di y493.1.2.2.2.2.2.2.2.2.2.2.1, di y493.1.2.2.2.2.2.2.2.2.2.2.2.1, dl (.one (.int .i8)) y493.1.2.2.2.2.2.2.2.2.2.2.2.2.1, dl (.one (.int .i32)) y493.1.2.2.2.2.2.2.2.2.2.2.2.2.2.1], .cell [di y493.2.1.1, di y493.2.1.2.1, di y493.2.1.2.2.1, di y493.2.1.2.2.2.1, di y493.2.1.2.2.2.2.1, di y493.2.1.2.2.2.2.2.1, dl (.one (.int .i8)) y493.2.1.2.2.2.2.2.2.1]]))], [[di panes.1, di panes.2.1, di panes.2.2.1, di panes.2.2.2.1, di panes.2.2.2.2.1, di panes.2.2.2.2.2.1, dl (.one (.int .i8)) panes.2.2.2.2.2.2.1]], [], 50⟩))
abbrev S41_8 : St := ⟨[(3, rC a01 n_), (4, rC Q2n v_), (5, rC tsA9 panes), (7, rF 0), (11, ri n_.1), (29, rb (n_.1 == 6))], [[di panes.1, di panes.2.1, di panes.2.2.1, di panes.2.2.2.1, di panes.2.2.2.2.1, di panes.2.2.2.2.2.1, dl (.one (.int .i8)) panes.2.2.2.2.2.2.1]], [], 50⟩
theorem b9y : P41 1 C41.r.r.l.r.b.r.e.r.e.r.e.l (S41_7 n_ v_ panes) k = k (S41_8 n_ v_ panes) := by kernel_rfl
abbrev S41_9 : St := ⟨[(3, rC a01 n_), (4, rC Q2n v_), (5, rC tsA9 panes), (7, rF 0), (11, ri n_.1), (29, rb (n_.1 == 7))], [[di panes.1, di panes.2.1, di panes.2.2.1, di panes.2.2.2.1, di panes.2.2.2.2.1, di panes.2.2.2.2.2.1, dl (.one (.int .i8)) panes.2.2.2.2.2.2.1]], [], 50⟩
theorem d2n : R41 C41.r.r.l.r.b.r.e.r.e.r.e.l.r.e (S41_8 n_ v_ panes) q = q .normal (S41_9 n_ v_ panes) := by kernel_rfl
def a6n (K : Bool → β) : β := (bif (n_.1 == 6) then (K (n_.1 == 6)) else (K (n_.1 == 7)))
def a3z : Bool := a6n n_ (fun y => y)
theorem c5n (K : Bool → β) : a6n n_ K = K (a3z n_) := (Q2h K rfl rfl)
abbrev d4p : St := ⟨[(3, rC a01 n_), (4, rC Q2n v_), (5, rC tsA9 panes), (7, rF 0), (11, ri n_.1), (29, rb (a3z n_))], [[di panes.1, di panes.2.1, di panes.2.2.1, di panes.2.2.2.1, di panes.2.2.2.2.1, di panes.2.2.2.2.2.1, dl (.one (.int .i8)) panes.2.2.2.2.2.2.1]], [], 50⟩
theorem d2l : R41 C41.r.r.l.r.b.r.e.r.e.r.e.l (S41_7 n_ v_ panes) (Q41 C41.r.r.l.r.b.r.e.r.e.r.e.r q) = R41 C41.r.r.l.r.b.r.e.r.e.r.e.r (d4p n_ v_ panes) q := by
  refine Eq.trans ?_ (c5n n_ (fun y494 : Bool => R41 C41.r.r.l.r.b.r.e.r.e.r.e.r ⟨[(3, rC a01 n_), (4, rC Q2n v_), (5, rC tsA9 panes), (7, rF 0), (11, ri n_.1), (29, rb y494)], [[di panes.1, di panes.2.1, di panes.2.2.1, di panes.2.2.2.1, di panes.2.2.2.2.1, di panes.2.2.2.2.2.1, dl (.one (.int .i8)) panes.2.2.2.2.2.2.1]], [], 50⟩ q))
  unfold a6n
  refine (Q2d (b9y n_ v_ panes _)).trans ?_
  refine (cond_s (b := (n_.1 == 6)) ).trans (Q2f ?_ ?_)
  · refine (Q0i).trans ?_
    refine (Q0a (st' := (S41_8 n_ v_ panes))).trans ?_
    kernel_rfl
  · refine (d2n n_ v_ panes _).trans ?_
    refine (Q0a (st' := (S41_9 n_ v_ panes))).trans ?_
    kernel_rfl
def b2c (K : U18 → β) : β := (K ((((a0d n_ (panes.1, panes.2.1, panes.2.2.1, panes.2.2.2.1, panes.2.2.2.2.1, panes.2.2.2.2.2.1, panes.2.2.2.2.2.2.1) panes.2.2.2.2.2.2.2).1).1, ((a0d n_ (panes.1, panes.2.1, panes.2.2.1, panes.2.2.2.1, panes.2.2.2.2.1, panes.2.2.2.2.2.1, panes.2.2.2.2.2.2.1) panes.2.2.2.2.2.2.2).1).2.1, ((a0d n_ (panes.1, panes.2.1, panes.2.2.1, panes.2.2.2.1, panes.2.2.2.2.1, panes.2.2.2.2.2.1, panes.2.2.2.2.2.2.1) panes.2.2.2.2.2.2.2).1).2.2.1, ((a0d n_ (panes.1, panes.2.1, panes.2.2.1, panes.2.2.2.1, panes.2.2.2.2.1, panes.2.2.2.2.2.1, panes.2.2.2.2.2.2.1) panes.2.2.2.2.2.2.2).1).2.2.2.1, ((a0d n_ (panes.1, panes.2.1, panes.2.2.1, panes.2.2.2.1, panes.2.2.2.2.1, panes.2.2.2.2.2.1, panes.2.2.2.2.2.2.1) panes.2.2.2.2.2.2.2).1).2.2.2.2.1, ((a0d n_ (panes.1, panes.2.1, panes.2.2.1, panes.2.2.2.1, panes.2.2.2.2.1, panes.2.2.2.2.2.1, panes.2.2.2.2.2.2.1) panes.2.2.2.2.2.2.2).1).2.2.2.2.2.1, ((a0d n_ (panes.1, panes.2.1, panes.2.2.1, panes.2.2.2.1, panes.2.2.2.2.1, panes.2.2.2.2.2.1, panes.2.2.2.2.2.2.1) panes.2.2.2.2.2.2.2).1).2.2.2.2.2.2.1, ()), (((a0d n_ (panes.1, panes.2.1, panes.2.2.1, panes.2.2.2.1, panes.2.2.2.2.1, panes.2.2.2.2.2.1, panes.2.2.2.2.2.2.1) panes.2.2.2.2.2.2.2).2.1).1, ((a0d n_ (panes.1, panes.2.1, panes.2.2.1, panes.2.2.2.1, panes.2.2.2.2.1, panes.2.2.2.2.2.1, panes.2.2.2.2.2.2.1) panes.2.2.2.2.2.2.2).2.1).2.1, ((a0d n_ (panes.1, panes.2.1, panes.2.2.1, panes.2.2.2.1, panes.2.2.2.2.1, panes.2.2.2.2.2.1, panes.2.2.2.2.2.2.1) panes.2.2.2.2.2.2.2).2.1).2.2.1, ((a0d n_ (panes.1, panes.2.1, panes.2.2.1, panes.2.2.2.1, panes.2.2.2.2.1, panes.2.2.2.2.2.1, panes.2.2.2.2.2.2.1) panes.2.2.2.2.2.2.2).2.1).2.2.2.1, ((a0d n_ (panes.1, panes.2.1, panes.2.2.1, panes.2.2.2.1, panes.2.2.2.2.1, panes.2.2.2.2.2.1, panes.2.2.2.2.2.2.1) panes.2.2.2.2.2.2.2).2.1).2.2.2.2.1, ((a0d n_ (panes.1, panes.2.1, panes.2.2.1, panes.2.2.2.1, panes.2.2.2.2.1, panes.2.2.2.2.2.1, panes.2.2.2.2.2.2.1) panes.2.2.2.2.2.2.2).2.1).2.2.2.2.2.1, ((a0d n_ (panes.1, panes.2.1, panes.2.2.1, panes.2.2.2.1, panes.2.2.2.2.1, panes.2.2.2.2.2.1, panes.2.2.2.2.2.2.1) panes.2.2.2.2.2.2.2).2.1).2.2.2.2.2.2.1, ()), (((a0d n_ (panes.1, panes.2.1, panes.2.2.1, panes.2.2.2.1, panes.2.2.2.2.1, panes.2.2.2.2.2.1, panes.2.2.2.2.2.2.1) panes.2.2.2.2.2.2.2).2.2.1).1, ((a0d n_ (panes.1, panes.2.1, panes.2.2.1, panes.2.2.2.1, panes.2.2.2.2.1, panes.2.2.2.2.2.1, panes.2.2.2.2.2.2.1) panes.2.2.2.2.2.2.2).2.2.1).2.1, ((a0d n_ (panes.1, panes.2.1, panes.2.2.1, panes.2.2.2.1, panes.2.2.2.2.1, panes.2.2.2.2.2.1, panes.2.2.2.2.2.2.1) panes.2.2.2.2.2.2.2).2.2.1).2.2.1, ((a0d n_ (panes.1, panes.2.1, panes.2.2.1, panes.2.2.2.1, panes.2.2.2.2.1, panes.2.2.2.2.2.1, panes.2.2.2.2.2.2.1) panes.2.2.2.2.2.2.2).2.2.1).2.2.2.1, ((a0d n_ (panes.1, panes.2.1, panes.2.2.1, panes.2.2.2.1, panes.2.2.2.2.1, panes.2.2.2.2.2.1, panes.2.2.2.2.2.2.1) panes.2.2.2.2.2.2.2).2.2.1).2.2.2.2.1, ((a0d n_ (panes.1, panes.2.1, panes.2.2.1, panes.2.2.2.1, panes.2.2.2.2.1, panes.2.2.2.2.2.1, panes.2.2.2.2.2.2.1) panes.2.2.2.2.2.2.2).2.2.1).2.2.2.2.2.1, ((a0d n_ (panes.1, panes.2.1, panes.2.2.1, panes.2.2.2.1, panes.2.2.2.2.1, panes.2.2.2.2.2.1, panes.2.2.2.2.2.2.1) panes.2.2.2.2.2.2.2).2.2.1).2.2.2.2.2.2.1, ((a0d n_ (panes.1, panes.2.1, panes.2.2.1, panes.2.2.2.1, panes.2.2.2.2.1, panes.2.2.2.2.2.1, panes.2.2.2.2.2.2.1) panes.2.2.2.2.2.2.2).2.2.1).2.2.2.2.2.2.2.1, ((a0d n_ (panes.1, panes.2.1, panes.2.2.1, panes.2.2.2.1, panes.2.2.2.2.1, panes.2.2.2.2.2.1, panes.2.2.2.2.2.2.1) panes.2.2.2.2.2.2.2).2.2.1).2.2.2.2.2.2.2.2.1, ((a0d n_ (panes.1, panes.2.1, panes.2.2.1, panes.2.2.2.1, panes.2.2.2.2.1, panes.2.2.2.2.2.1, panes.2.2.2.2.2.2.1) panes.2.2.2.2.2.2.2).2.2.1).2.2.2.2.2.2.2.2.2.1, ((a0d n_ (panes.1, panes.2.1, panes.2.2.1, panes.2.2.2.1, panes.2.2.2.2.1, panes.2.2.2.2.2.1, panes.2.2.2.2.2.2.1) panes.2.2.2.2.2.2.2).2.2.1).2.2.2.2.2.2.2.2.2.2.1, ((a0d n_ (panes.1, panes.2.1, panes.2.2.1, panes.2.2.2.1, panes.2.2.2.2.1, panes.2.2.2.2.2.1, panes.2.2.2.2.2.2.1) panes.2.2.2.2.2.2.2).2.2.1).2.2.2.2.2.2.2.2.2.2.2.1, ((a0d n_ (panes.1, panes.2.1, panes.2.2.1, panes.2.2.2.1, panes.2.2.2.2.1, panes.2.2.2.2.2.1, panes.2.2.2.2.2.2.1) panes.2.2.2.2.2.2.2).2.2.1).2.2.2.2.2.2.2.2.2.2.2.2.1, ((a0d n_ (panes.1, panes.2.1, panes.2.2.1, panes.2.2.2.1, panes.2.2.2.2.1, panes.2.2.2.2.2.1, panes.2.2.2.2.2.2.1) panes.2.2.2.2.2.2.2).2.2.1).2.2.2.2.2.2.2.2.2.2.2.2.2.1, ()), ()))
def a02 : U18 := b2c n_ panes (fun y => y)
theorem c5p (K : U18 → β) : b2c n_ panes K = K (a02 n_ panes) := rfl
theorem d2o : P41 1 C41.r.r.l.r.b.r.e.r.e.r.e.r.t (d4p n_ v_ panes) k = k ⟨[(6, .one (.fn 89 [.cell [di (((a02 n_ panes).1).1), di (((a02 n_ panes).1).2.1), di (((a02 n_ panes).1).2.2.1), di (((a02 n_ panes).1).2.2.2.1), di (((a02 n_ panes).1).2.2.2.2.1), di (((a02 n_ panes).1).2.2.2.2.2.1), dl (.one (.int .i8)) (((a02 n_ panes).1).2.2.2.2.2.2.1)], .cell [di (((a02 n_ panes).2.1).1), di (((a02 n_ panes).2.1).2.1), di (((a02 n_ panes).2.1).2.2.1), di (((a02 n_ panes).2.1).2.2.2.1), di (((a02 n_ panes).2.1).2.2.2.2.1), di (((a02 n_ panes).2.1).2.2.2.2.2.1), dl (.one (.int .i8)) (((a02 n_ panes).2.1).2.2.2.2.2.2.1)], .cell [di (((a02 n_ panes).2.2.1).1), dl (.one (.int .i64)) (((a02 n_ panes).2.2.1).2.1), di (((a02 n_ panes).2.2.1).2.2.1), di (((a02 n_ panes).2.2.1).2.2.2.1), di (((a02 n_ panes).2.2.1).2.2.2.2.1), di (((a02 n_ panes).2.2.1).2.2.2.2.2.1), di (((a02 n_ panes).2.2.1).2.2.2.2.2.2.1), di (((a02 n_ panes).2.2.1).2.2.2.2.2.2.2.1), di (((a02 n_ panes).2.2.1).2.2.2.2.2.2.2.2.1), di (((a02 n_ panes).2.2.1).2.2.2.2.2.2.2.2.2.1), di (((a02 n_ panes).2.2.1).2.2.2.2.2.2.2.2.2.2.1), di (((a02 n_ panes).2.2.1).2.2.2.2.2.2.2.2.2.2.2.1), dl (.one (.int .i8)) (((a02 n_ panes).2.2.1).2.2.2.2.2.2.2.2.2.2.2.2.1), dl (.one (.int .i32)) (((a02 n_ panes).2.2.1).2.2.2.2.2.2.2.2.2.2.2.2.2.1)]]))], [[di panes.1, di panes.2.1, di panes.2.2.1, di panes.2.2.2.1, di panes.2.2.2.2.1, di panes.2.2.2.2.2.1, dl (.one (.int .i8)) panes.2.2.2.2.2.2.1]], [], 50⟩ := Eq.trans (by kernel_rfl) (c5p n_ panes (fun y495 : U18 => k ⟨[(6, .one (.fn 89 [.cell [di y495.1.1, di y495.1.2.1, di y495.1.2.2.1, di y495.1.2.2.2.1, di y495.1.2.2.2.2.1, di y495.1.2.2.2.2.2.1, dl (.one (.int .i8)) y495.1.2.2.2.2.2.2.1], .cell [di y495.2.1.1, di y495.2.1.2.1, di y495.2.1.2.2.1, di y495.2.1.2.2.2.1, di y495.2.1.2.2.2.2.1, di y495.2.1.2.2.2.2.2.1, dl (.one (.int .i8)) y495.2.1.2.2.2.2.2.2.1], .cell [di y495.2.2.1.1, dl (.one (.int .i64)) y495.2.2.1.2.1, di y495.2.2.1.2.2.1, di y495.2.2.1.2.2.2.1, di y495.2.2.1.2.2.2.2.1, di y495.2.2.1.2.2.2.2.2.1, di y495.2.2.1.2.2.2.2.2.2.1, di y495.2.2.1.2.2.2.2.2.2.2.1, di y495.2.2.1.2.2.2.2.2.2.2.2.1, di y495.2.2.1.2.2.2.2.2.2.2.2.2.1, di y495.2.2.1.2.2.2.2.2.2.2.2.2.2.1, di y495.2.2.1.2.2.2.2.2.2.2.2.2.2.2.1, dl (.one (.int .i8)) y495.2.2.1.2.2.2.2.2.2.2.2.2.2.2.2.1, dl (.one (.int .i32)) y495.2.2.1.2.2.2.2.2.2.2.2.2.2.2.2.2.1]]))], [[di panes.1, di panes.2.1, di panes.2.2.1, di panes.2.2.2.1, di panes.2.2.2.2.1, di panes.2.2.2.2.2.1, dl (.one (.int .i8)) panes.2.2.2.2.2.2.1]], [], 50⟩))
theorem b9s : P41 1 C41.r.r.l.r.b.r.e.r.e.r.e.r.e (d4p n_ v_ panes) k = k ⟨[(3, rC a01 n_), (4, rC Q2n v_), (5, rC tsA9 panes), (7, rF 0), (11, ri n_.1), (37, rb (n_.1 == 8))], [[di panes.1, di panes.2.1, di panes.2.2.1, di panes.2.2.2.1, di panes.2.2.2.2.1, di panes.2.2.2.2.2.1, dl (.one (.int .i8)) panes.2.2.2.2.2.2.1]], [], 50⟩ := by kernel_rfl
theorem d7b : P41 1 C41.r.r.l.r.b.r.e.r.e.r.e.r.e.r.t (S41_1 n_ v_ panes) k = k ⟨[(6, .one (.fn 73 [.ref 0 0, .cell (a01.leaves n_)]))], [[di panes.1, di panes.2.1, di panes.2.2.1, di panes.2.2.2.1, di panes.2.2.2.2.1, di panes.2.2.2.2.2.1, dl (.one (.int .i8)) panes.2.2.2.2.2.2.1]], [], 50⟩ := by kernel_rfl
theorem b9t : P41 1 C41.r.r.l.r.b.r.e.r.e.r.e.r.e.r.e (S41_1 n_ v_ panes) k = k ⟨[(3, rC a01 n_), (4, rC Q2n v_), (5, rC tsA9 panes), (7, rF 0), (11, ri n_.1), (40, rb (n_.1 == 9))], [[di panes.1, di panes.2.1, di panes.2.2.1, di panes.2.2.2.1, di panes.2.2.2.2.1, di panes.2.2.2.2.2.1, dl (.one (.int .i8)) panes.2.2.2.2.2.2.1]], [], 50⟩ := by kernel_rfl
theorem c97 : P41 1 C41.r.r.l.r.b.r.e.r.e.r.e.r.e.r.e.r.t (S41_1 n_ v_ panes) k = k ⟨[(6, .one (.fn 75 [.ref 0 0]))], [[di panes.1, di panes.2.1, di panes.2.2.1, di panes.2.2.2.1, di panes.2.2.2.2.1, di panes.2.2.2.2.2.1, dl (.one (.int .i8)) panes.2.2.2.2.2.2.1]], [], 50⟩ := by kernel_rfl
theorem b9u : P41 1 C41.r.r.l.r.b.r.e.r.e.r.e.r.e.r.e.r.e (S41_1 n_ v_ panes) k = k ⟨[(3, rC a01 n_), (4, rC Q2n v_), (5, rC tsA9 panes), (7, rF 0), (11, ri n_.1), (43, rb (n_.1 == 10))], [[di panes.1, di panes.2.1, di panes.2.2.1, di panes.2.2.2.1, di panes.2.2.2.2.1, di panes.2.2.2.2.2.1, dl (.one (.int .i8)) panes.2.2.2.2.2.2.1]], [], 50⟩ := by kernel_rfl
theorem c98 : P41 1 C41.r.r.l.r.b.r.e.r.e.r.e.r.e.r.e.r.e.r.t (S41_1 n_ v_ panes) k = k ⟨[(6, .one (.fn 76 [.ref 0 0, .cell (tsA9.leaves panes)]))], [[di panes.1, di panes.2.1, di panes.2.2.1, di panes.2.2.2.1, di panes.2.2.2.2.1, di panes.2.2.2.2.2.1, dl (.one (.int .i8)) panes.2.2.2.2.2.2.1]], [], 50⟩ := by kernel_rfl
theorem b9v : P41 1 C41.r.r.l.r.b.r.e.r.e.r.e.r.e.r.e.r.e.r.e (S41_1 n_ v_ panes) k = k ⟨[(3, rC a01 n_), (4, rC Q2n v_), (7, rF 0), (46, rb (n_.1 == 11))], [[di panes.1, di panes.2.1, di panes.2.2.1, di panes.2.2.2.1, di panes.2.2.2.2.1, di panes.2.2.2.2.2.1, dl (.one (.int .i8)) panes.2.2.2.2.2.2.1]], [], 50⟩ := by kernel_rfl
abbrev d9z : St := ⟨[(3, rC a01 n_), (4, rC Q2n v_), (7, rF 0)], [[di panes.1, di panes.2.1, di panes.2.2.1, di panes.2.2.2.1, di panes.2.2.2.2.1, di panes.2.2.2.2.2.1, dl (.one (.int .i8)) panes.2.2.2.2.2.2.1]], [], 50⟩
theorem c99 : P41 1 C41.r.r.l.r.b.r.e.r.e.r.e.r.e.r.e.r.e.r.e.r.t (d9z n_ v_ panes) k = k ⟨[(6, .one (.fn 77 [.ref 0 0, .cell (Q2n.leaves v_)]))], [[di panes.1, di panes.2.1, di panes.2.2.1, di panes.2.2.2.1, di panes.2.2.2.2.1, di panes.2.2.2.2.2.1, dl (.one (.int .i8)) panes.2.2.2.2.2.2.1]], [], 50⟩ := by kernel_rfl
abbrev e00 : St := ⟨[(3, rC a01 n_), (7, rF 0)], [[di panes.1, di panes.2.1, di panes.2.2.1, di panes.2.2.2.1, di panes.2.2.2.2.1, di panes.2.2.2.2.2.1, dl (.one (.int .i8)) panes.2.2.2.2.2.2.1]], [], 50⟩
theorem c9a : P41 1 C41.r.r.r (e00 n_ panes) k = k ⟨[(6, .one (.fn 79 [.cell (a01.leaves n_), .ref 0 0]))], [[di panes.1, di panes.2.1, di panes.2.2.1, di panes.2.2.2.1, di panes.2.2.2.2.1, di panes.2.2.2.2.2.1, dl (.one (.int .i8)) panes.2.2.2.2.2.2.1]], [], 50⟩ := by kernel_rfl
def b35 (K : U26 → β) : β := (bif (a4f n_) then (K (Sum.inr (Sum.inr (Sum.inr (Sum.inr (Sum.inr (Sum.inl ((((a06 n_ panes).1).1, ((a06 n_ panes).1).2.1, ((a06 n_ panes).1).2.2.1, ((a06 n_ panes).1).2.2.2.1, ((a06 n_ panes).1).2.2.2.2.1, ((a06 n_ panes).1).2.2.2.2.2.1, ((a06 n_ panes).1).2.2.2.2.2.2.1, ((a06 n_ panes).1).2.2.2.2.2.2.2.1, ((a06 n_ panes).1).2.2.2.2.2.2.2.2.1, ((a06 n_ panes).1).2.2.2.2.2.2.2.2.2.1, ((a06 n_ panes).1).2.2.2.2.2.2.2.2.2.2.1, ((a06 n_ panes).1).2.2.2.2.2.2.2.2.2.2.2.1, ((a06 n_ panes).1).2.2.2.2.2.2.2.2.2.2.2.2.1, ((a06 n_ panes).1).2.2.2.2.2.2.2.2.2.2.2.2.2.1, ()), (((a06 n_ panes).2.1).1, ((a06 n_ panes).2.1).2.1, ((a06 n_ panes).2.1).2.2.1, ((a06 n_ panes).2.1).2.2.2.1, ((a06 n_ panes).2.1).2.2.2.2.1, ((a06 n_ panes).2.1).2.2.2.2.2.1, ((a06 n_ panes).2.1).2.2.2.2.2.2.1, ()), ())))))))) else (bif (n_.1 == 3) then (K (Sum.inr (Sum.inr (Sum.inr (Sum.inr (Sum.inr (Sum.inr (Sum.inl ((((a07 n_ panes).1).1, ((a07 n_ panes).1).2.1, ((a07 n_ panes).1).2.2.1, ((a07 n_ panes).1).2.2.2.1, ((a07 n_ panes).1).2.2.2.2.1, ((a07 n_ panes).1).2.2.2.2.2.1, ((a07 n_ panes).1).2.2.2.2.2.2.1, ((a07 n_ panes).1).2.2.2.2.2.2.2.1, ((a07 n_ panes).1).2.2.2.2.2.2.2.2.1, ((a07 n_ panes).1).2.2.2.2.2.2.2.2.2.1, ((a07 n_ panes).1).2.2.2.2.2.2.2.2.2.2.1, ((a07 n_ panes).1).2.2.2.2.2.2.2.2.2.2.2.1, ((a07 n_ panes).1).2.2.2.2.2.2.2.2.2.2.2.2.1, ((a07 n_ panes).1).2.2.2.2.2.2.2.2.2.2.2.2.2.1, ()), (((a07 n_ panes).2.1).1, ((a07 n_ panes).2.1).2.1, ((a07 n_ panes).2.1).2.2.1, ((a07 n_ panes).2.1).2.2.2.1, ((a07 n_ panes).2.1).2.2.2.2.1, ((a07 n_ panes).2.1).2.2.2.2.2.1, ((a07 n_ panes).2.1).2.2.2.2.2.2.1, ()), ()))))))))) else (bif (a4g n_) then (K (Sum.inr (Sum.inr (Sum.inr (Sum.inr (Sum.inr (Sum.inr (Sum.inr (Sum.inl ((((a05 n_ panes).1).1, ((a05 n_ panes).1).2.1, ((a05 n_ panes).1).2.2.1, ((a05 n_ panes).1).2.2.2.1, ((a05 n_ panes).1).2.2.2.2.1, ((a05 n_ panes).1).2.2.2.2.2.1, ((a05 n_ panes).1).2.2.2.2.2.2.1, ((a05 n_ panes).1).2.2.2.2.2.2.2.1, ((a05 n_ panes).1).2.2.2.2.2.2.2.2.1, ((a05 n_ panes).1).2.2.2.2.2.2.2.2.2.1, ((a05 n_ panes).1).2.2.2.2.2.2.2.2.2.2.1, ((a05 n_ panes).1).2.2.2.2.2.2.2.2.2.2.2.1, ((a05 n_ panes).1).2.2.2.2.2.2.2.2.2.2.2.2.1, ((a05 n_ panes).1).2.2.2.2.2.2.2.2.2.2.2.2.2.1, ()), (((a05 n_ panes).2.1).1, ((a05 n_ panes).2.1).2.1, ((a05 n_ panes).2.1).2.2.1, ((a05 n_ panes).2.1).2.2.2.1, ((a05 n_ panes).2.1).2.2.2.2.1, ((a05 n_ panes).2.1).2.2.2.2.2.1, ((a05 n_ panes).2.1).2.2.2.2.2.2.1, ()), ())))))))))) else (bif (a3z n_) then (K (Sum.inr (Sum.inr (Sum.inr (Sum.inr (Sum.inr (Sum.inr (Sum.inr (Sum.inr ((((a02 n_ panes).1).1, ((a02 n_ panes).1).2.1, ((a02 n_ panes).1).2.2.1, ((a02 n_ panes).1).2.2.2.1, ((a02 n_ panes).1).2.2.2.2.1, ((a02 n_ panes).1).2.2.2.2.2.1, ((a02 n_ panes).1).2.2.2.2.2.2.1, ()), (((a02 n_ panes).2.1).1, ((a02 n_ panes).2.1).2.1, ((a02 n_ panes).2.1).2.2.1, ((a02 n_ panes).2.1).2.2.2.1, ((a02 n_ panes).2.1).2.2.2.2.1, ((a02 n_ panes).2.1).2.2.2.2.2.1, ((a02 n_ panes).2.1).2.2.2.2.2.2.1, ()), (((a02 n_ panes).2.2.1).1, ((a02 n_ panes).2.2.1).2.1, ((a02 n_ panes).2.2.1).2.2.1, ((a02 n_ panes).2.2.1).2.2.2.1, ((a02 n_ panes).2.2.1).2.2.2.2.1, ((a02 n_ panes).2.2.1).2.2.2.2.2.1, ((a02 n_ panes).2.2.1).2.2.2.2.2.2.1, ((a02 n_ panes).2.2.1).2.2.2.2.2.2.2.1, ((a02 n_ panes).2.2.1).2.2.2.2.2.2.2.2.1, ((a02 n_ panes).2.2.1).2.2.2.2.2.2.2.2.2.1, ((a02 n_ panes).2.2.1).2.2.2.2.2.2.2.2.2.2.1, ((a02 n_ panes).2.2.1).2.2.2.2.2.2.2.2.2.2.2.1, ((a02 n_ panes).2.2.1).2.2.2.2.2.2.2.2.2.2.2.2.1, ((a02 n_ panes).2.2.1).2.2.2.2.2.2.2.2.2.2.2.2.2.1, ()), ())))))))))) else (bif (n_.1 == 8) then (K (Sum.inl ((panes.1, panes.2.1, panes.2.2.1, panes.2.2.2.1, panes.2.2.2.2.1, panes.2.2.2.2.2.1, panes.2.2.2.2.2.2.1, ()), (n_.1, n_.2.1, n_.2.2.1, n_.2.2.2.1, n_.2.2.2.2.1, n_.2.2.2.2.2.1, n_.2.2.2.2.2.2.1, n_.2.2.2.2.2.2.2.1, n_.2.2.2.2.2.2.2.2.1, n_.2.2.2.2.2.2.2.2.2.1, n_.2.2.2.2.2.2.2.2.2.2.1, n_.2.2.2.2.2.2.2.2.2.2.2.1, n_.2.2.2.2.2.2.2.2.2.2.2.2.1, n_.2.2.2.2.2.2.2.2.2.2.2.2.2, ()), ()))) else (bif (n_.1 == 9) then (K (Sum.inr (Sum.inl ((panes.1, panes.2.1, panes.2.2.1, panes.2.2.2.1, panes.2.2.2.2.1, panes.2.2.2.2.2.1, panes.2.2.2.2.2.2.1, ()), ())))) else (bif (n_.1 == 10) then (K (Sum.inr (Sum.inr (Sum.inl ((panes.1, panes.2.1, panes.2.2.1, panes.2.2.2.1, panes.2.2.2.2.1, panes.2.2.2.2.2.1, panes.2.2.2.2.2.2.1, ()), (panes.1, panes.2.1, panes.2.2.1, panes.2.2.2.1, panes.2.2.2.2.1, panes.2.2.2.2.2.1, panes.2.2.2.2.2.2.1, panes.2.2.2.2.2.2.2.1, panes.2.2.2.2.2.2.2.2.1, panes.2.2.2.2.2.2.2.2.2.1, panes.2.2.2.2.2.2.2.2.2.2.1, panes.2.2.2.2.2.2.2.2.2.2.2.1, panes.2.2.2.2.2.2.2.2.2.2.2.2.1, panes.2.2.2.2.2.2.2.2.2.2.2.2.2, ()), ()))))) else (bif (n_.1 == 11) then (K (Sum.inr (Sum.inr (Sum.inr (Sum.inl ((panes.1, panes.2.1, panes.2.2.1, panes.2.2.2.1, panes.2.2.2.2.1, panes.2.2.2.2.2.1, panes.2.2.2.2.2.2.1, ()), (v_.1, v_.2.1, v_.2.2.1, v_.2.2.2, ()), ())))))) else (K (Sum.inr (Sum.inr (Sum.inr (Sum.inr (Sum.inl ((n_.1, n_.2.1, n_.2.2.1, n_.2.2.2.1, n_.2.2.2.2.1, n_.2.2.2.2.2.1, n_.2.2.2.2.2.2.1, n_.2.2.2.2.2.2.2.1, n_.2.2.2.2.2.2.2.2.1, n_.2.2.2.2.2.2.2.2.2.1, n_.2.2.2.2.2.2.2.2.2.2.1, n_.2.2.2.2.2.2.2.2.2.2.2.1, n_.2.2.2.2.2.2.2.2.2.2.2.2.1, n_.2.2.2.2.2.2.2.2.2.2.2.2.2, ()), (panes.1, panes.2.1, panes.2.2.1, panes.2.2.2.1, panes.2.2.2.2.1, panes.2.2.2.2.2.1, panes.2.2.2.2.2.2.1, ()), ())))))))))))))))
def a8y : U26 := b35 n_ v_ panes (fun y => y)
theorem d9c (K : U26 → β) : b35 n_ v_ panes K = K (a8y n_ v_ panes) := (Q2h K rfl (Q2h K rfl (Q2h K rfl (Q2h K rfl (Q2h K rfl (Q2h K rfl (Q2h K rfl (Q2h K rfl rfl))))))))
theorem d7c : Q2j E cp41 noE 48 [rA a01 n_, rA Q2n v_, rA tsA9 panes] = (fun y : U26 => some (Po.enc (.one (.one Z9)) ((fun y : U26 => y) y))) (a8y n_ v_ panes) := by
  refine Eq.trans ?_ (d9c n_ v_ panes (fun y : U26 => some (Po.enc (.one (.one Z9)) ((fun y : U26 => y) y))))
  refine (Q0l (nt := 50) (regs := [(0, rA a01 n_), (1, rA Q2n v_), (2, rA tsA9 panes)])).trans ?_
  unfold b35
  refine (pre2 (d79 n_ v_ panes _)).trans ?_
  refine .trans Q0c ?_
  refine (Q2d (d7a n_ v_ panes _)).trans ?_
  refine (Q0j (id := 0)).trans ?_
  refine .trans Q0c ?_
  refine (d7d n_ v_ panes _).trans ?_
  refine (cond_s (b := (a4f n_)) ).trans (Q2f ?_ ?_)
  · refine (Q2d (d7g n_ v_ panes _)).trans ?_
    refine (Q0h).trans ?_
    refine Q0t.trans ?_
    refine Q0k.trans ?_
    kernel_rfl
  · refine (Q2d (b9r n_ v_ panes _)).trans ?_
    refine (Q0m (b := (n_.1 == 3)) (st' := (S41_1 n_ v_ panes)) ).trans (Q2f ?_ ?_)
    · refine (Q2d (d7h n_ v_ panes _)).trans ?_
      refine (Q0h).trans ?_
      refine Q0t.trans ?_
      refine Q0k.trans ?_
      kernel_rfl
    · refine .trans Q0c ?_
      refine (d7e n_ v_ panes _).trans ?_
      refine (cond_s (b := (a4g n_)) ).trans (Q2f ?_ ?_)
      · refine (Q2d (d2m n_ v_ panes _)).trans ?_
        refine (Q0h).trans ?_
        refine Q0t.trans ?_
        refine Q0k.trans ?_
        kernel_rfl
      · refine .trans Q0c ?_
        refine (d2l n_ v_ panes _).trans ?_
        refine (cond_s (b := (a3z n_)) ).trans (Q2f ?_ ?_)
        · refine (Q2d (d2o n_ v_ panes _)).trans ?_
          refine (Q0h).trans ?_
          refine Q0t.trans ?_
          refine Q0k.trans ?_
          kernel_rfl
        · refine (Q2d (b9s n_ v_ panes _)).trans ?_
          refine (Q0m (b := (n_.1 == 8)) (st' := (S41_1 n_ v_ panes)) ).trans (Q2f ?_ ?_)
          · refine (Q2d (d7b n_ v_ panes _)).trans ?_
            refine (Q0h).trans ?_
            refine Q0t.trans ?_
            refine Q0k.trans ?_
            kernel_rfl
          · refine (Q2d (b9t n_ v_ panes _)).trans ?_
            refine (Q0m (b := (n_.1 == 9)) (st' := (S41_1 n_ v_ panes)) ).trans (Q2f ?_ ?_)
            · refine (Q2d (c97 n_ v_ panes _)).trans ?_
              refine (Q0h).trans ?_
              refine Q0t.trans ?_
              refine Q0k.trans ?_
              kernel_rfl
            · refine (Q2d (b9u n_ v_ panes _)).trans ?_
              refine (Q0m (b := (n_.1 == 10)) (st' := (S41_1 n_ v_ panes)) ).trans (Q2f ?_ ?_)
              · refine (Q2d (c98 n_ v_ panes _)).trans ?_
                refine (Q0h).trans ?_
                refine Q0t.trans ?_
                refine Q0k.trans ?_
                kernel_rfl
              · refine (Q2d (b9v n_ v_ panes _)).trans ?_
                refine (Q0m (b := (n_.1 == 11)) (st' := (d9z n_ v_ panes)) ).trans (Q2f ?_ ?_)
                · refine (Q2d (c99 n_ v_ panes _)).trans ?_
                  refine (Q0h).trans ?_
                  refine Q0t.trans ?_
                  refine Q0k.trans ?_
                  kernel_rfl
                · refine (Q0i).trans ?_
                  refine Q0f.trans ?_
                  refine (Q0a (st' := (e00 n_ panes))).trans ?_
                  refine (Q2d (c9a n_ panes _)).trans ?_
                  refine (Q0h).trans ?_
                  kernel_rfl
noncomputable def cp42 : Q2g := Q2i cp41 48 [(.agg a01), (.agg Q2n), (.agg tsA9)] (.one (.one Z9)) (fun y : U26 => y) (fun x => some (a8y x.1 x.2.1 x.2.2.1))
theorem e3e : Q0p E cp42 := conS eok e3d Q0z fun x => Eq.mp (by kernel_rfl) (d7c x.1 x.2.1 x.2.2.1)
end
section
variable {α β : Type} (p_ : pane) (y_ : Int) (x_ : Int) (c_ : Int) (k : St → Option α)
noncomputable abbrev C42 := Q0r E.P 74
noncomputable abbrev P42 := @preK α E 74 cp42 noE
abbrev S42_0 : St := ⟨[(1, ri y_), (2, ri x_), (3, ri c_), (4, rC a04 p_), (9, rF 0)], [[di p_.1, di p_.2.1, di p_.2.2.1]], [], 56⟩
theorem c5q : P42 2 C42 ⟨[(0, rA a04 p_), (1, ri y_), (2, ri x_), (3, ri c_)], [], [], 56⟩ k = k (S42_0 p_ y_ x_ c_) := by kernel_rfl
def a9f (K : Bool → β) : β := (bif (decide (y_ < 0)) then (K true) else (bif (decide (y_ ≥ p_.1)) then (K true) else (bif (decide (x_ < 0)) then (K true) else (K (decide (x_ ≥ p_.2.1))))))
def a2l : Bool := a9f p_ y_ x_ (fun y => y)
theorem c24 (K : Bool → β) : a9f p_ y_ x_ K = K (a2l p_ y_ x_) := (Q2h K rfl (Q2h K rfl (Q2h K rfl rfl)))
theorem c5t : P42 1 C42.r.r.l (S42_0 p_ y_ x_ c_) k = k ⟨[(1, ri y_), (2, ri x_), (3, ri c_), (4, rC a04 p_), (9, rF 0), (30, rb (a2l p_ y_ x_))], [[di p_.1, di p_.2.1, di p_.2.2.1]], [], 56⟩ := Eq.trans (by kernel_rfl) (c24 p_ y_ x_ (fun y511 : Bool => k ⟨[(1, ri y_), (2, ri x_), (3, ri c_), (4, rC a04 p_), (9, rF 0), (30, rb y511)], [[di p_.1, di p_.2.1, di p_.2.2.1]], [], 56⟩))
theorem c5r : P42 1 C42.r.r.l.r.t (S42_0 p_ y_ x_ c_) k = k ⟨[(8, ri 0)], [[]], [], 56⟩ := by kernel_rfl
def a9g : Option Int := (bif (decide ((0 : Int) ≤ (IntKind.wrap .i64 ((IntKind.wrap .i64 ((IntKind.wrap .i64 ((IntKind.wrap .i64 ((IntKind.wrap .i64 (y_ - p_.2.2.2.2.1)) * p_.2.1)) + x_)) * p_.2.2.1)) + c_)))) then (bif (decide ((IntKind.wrap .i64 ((IntKind.wrap .i64 ((IntKind.wrap .i64 ((IntKind.wrap .i64 ((IntKind.wrap .i64 (y_ - p_.2.2.2.2.1)) * p_.2.1)) + x_)) * p_.2.2.1)) + c_)) < (p_.2.2.2.2.2.2.length : Int))) then (some (IntKind.wrap .i64 ((IntKind.wrap .i64 (gt p_.2.2.2.2.2.2 (IntKind.wrap .i64 ((IntKind.wrap .i64 ((IntKind.wrap .i64 ((IntKind.wrap .i64 ((IntKind.wrap .i64 (y_ - p_.2.2.2.2.1)) * p_.2.1)) + x_)) * p_.2.2.1)) + c_)) (0 : Int))) - p_.2.2.2.1))) else none) else none)
theorem c5u : P42 1 C42.r.r.r (S42_0 p_ y_ x_ c_) k = Option.bind (a9g p_ y_ x_ c_) (fun y512 : Int => k ⟨[(8, ri y512)], [[]], [], 56⟩) := .trans (by kernel_rfl) (Q2b (Q2b Q0b Q0n) Q0n)
def a0j : Option Int := (bif (a2l p_ y_ x_) then (some (0 : Int)) else (Option.bind (a9g p_ y_ x_ c_) (fun y512 : Int => (some y512))))
theorem c5s : Q2j E cp42 noE 74 [rA a04 p_, ri y_, ri x_, ri c_] = Option.bind (a0j p_ y_ x_ c_) (fun y : Int => some (ri y : R)) := by
  refine .trans ?_ (Q2b Q0b (Q0d fun y512 => Q0b))
  refine (Q0l (nt := 56) (regs := [(0, rA a04 p_), (1, ri y_), (2, ri x_), (3, ri c_)])).trans ?_
  refine (pre2 (c5q p_ y_ x_ c_ _)).trans ?_
  refine .trans Q0c ?_
  refine (Q2d (c5t p_ y_ x_ c_ _)).trans ?_
  refine (Q0m (b := (a2l p_ y_ x_)) (st' := (S42_0 p_ y_ x_ c_)) ).trans (Q2f ?_ ?_)
  · refine (Q2d (c5r p_ y_ x_ c_ _)).trans ?_
    refine (Q0h).trans ?_
    refine Q0k.trans ?_
    kernel_rfl
  · refine (Q0i).trans ?_
    refine (Q0a (st' := (S42_0 p_ y_ x_ c_))).trans ?_
    refine (Q2d (c5u p_ y_ x_ c_ _)).trans (Q0e fun y512 => ?_)
    refine (Q0h).trans ?_
    kernel_rfl
noncomputable def cp43 : Q2g := Q2i cp42 74 [(.agg a04), pI, pI, pI] (.one pI) (fun y : Int => y) (fun x => a0j x.1 x.2.1 x.2.2.1 x.2.2.2.1)
theorem e3f : Q0p E cp43 := conS eok e3e Q0z fun x => Eq.mp (by kernel_rfl) (c5s x.1 x.2.1 x.2.2.1 x.2.2.2.1)
end
end Go.V.P
