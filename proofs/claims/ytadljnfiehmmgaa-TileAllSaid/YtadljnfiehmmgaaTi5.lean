/- What functions compute. -/
import Derived.Test.YtadljnfiehmmgaaTi4
namespace Go.V.P
open Go.RowKit Go.V Go.Proofs
set_option linter.unusedVariables false
set_option maxRecDepth 100000
section
variable {α β : Type} (n_ : Node) (in_ : (List I4)) (first : Int) (rows : Int) (y762 : (I4 × Int)) (s968 : (Int × Int × Int × Int × Int)) (y983 : (Int × Int)) (y984 : (Int × Int × Int × Int)) (y985 : (Int × Int × Int × Int × Int)) (k : St → Option α) (q : Kont α)
noncomputable abbrev C62 := codeOf E.P 48
noncomputable abbrev P62 := @preK α E 48 cp62 noE
noncomputable abbrev R62 := @runCode α E 48 cp62 noE
noncomputable abbrev Q62 := @seqC α E 48 cp62 noE
abbrev S62_0 : St := ⟨[(1, rl tsI4 in_), (2, ri first), (3, ri rows), (4, rC tsNode n_), (8, rF 0), (10, rF 1), (11, rF 2), (12, ri y762.2)], [[di 0, di 0, di 0, di 0], [di 0, di 0, di 0, di 0], (tsI4.leaves y762.1)], [], 111⟩
theorem ref05_Needs_r2 : P62 3 C62 ⟨[(0, rA tsNode n_), (1, rl tsI4 in_), (2, ri first), (3, ri rows)], [], [], 111⟩ k = Option.bind (ref03_Value n_ in_) fun y762 : (I4 × Int) => k (S62_0 n_ in_ first rows y762) := by kernel_rfl
theorem ref05_Needs_f1000004 : P62 1 C62.r.r.r.l (S62_0 n_ in_ first rows y762) k = k ⟨[(1, rl tsI4 in_), (2, ri first), (3, ri rows), (4, rC tsNode n_), (8, rF 0), (10, rF 1), (11, rF 2), (12, ri y762.2), (25, rb (y762.2 != 0))], [[di 0, di 0, di 0, di 0], [di 0, di 0, di 0, di 0], (tsI4.leaves y762.1)], [], 111⟩ := by kernel_rfl
theorem ref05_Needs_fz : P62 1 C62.r.r.r.l.r.t (S62_0 n_ in_ first rows y762) k = k ⟨[(8, rF 0), (9, ri y762.2)], [[di 0, di 0, di 0, di 0], [], []], [], 111⟩ := by kernel_rfl
def ref05_Needs_r5_q (K : Bool → β) : β := (bif (decide (first < 0)) then (K true) else (bif (decide (rows < 1)) then (K true) else (bif (decide (first > y762.1.1)) then (K true) else (K (decide (rows > (IntKind.wrap .i64 (y762.1.1 - first))))))))
def ref05_Needs_r5_p : Bool := ref05_Needs_r5_q first rows y762 (fun y => y)
theorem ref05_Needs_r5_n (K : Bool → β) : ref05_Needs_r5_q first rows y762 K = K (ref05_Needs_r5_p first rows y762) := (bif_k K rfl (bif_k K rfl (bif_k K rfl rfl)))
abbrev S62_1 : St := ⟨[(1, rl tsI4 in_), (2, ri first), (3, ri rows), (4, rC tsNode n_), (8, rF 0), (10, rF 1), (11, rF 2)], [[di 0, di 0, di 0, di 0], [di 0, di 0, di 0, di 0], (tsI4.leaves y762.1)], [], 111⟩
theorem ref05_Needs_r5 : P62 1 C62.r.r.r.r.l (S62_1 n_ in_ first rows y762) k = k ⟨[(1, rl tsI4 in_), (2, ri first), (3, ri rows), (4, rC tsNode n_), (8, rF 0), (10, rF 1), (49, rb (ref05_Needs_r5_p first rows y762))], [[di 0, di 0, di 0, di 0], [di 0, di 0, di 0, di 0], []], [], 111⟩ := Eq.trans (by kernel_rfl) (ref05_Needs_r5_n first rows y762 (fun y764 : Bool => k ⟨[(1, rl tsI4 in_), (2, ri first), (3, ri rows), (4, rC tsNode n_), (8, rF 0), (10, rF 1), (49, rb y764)], [[di 0, di 0, di 0, di 0], [di 0, di 0, di 0, di 0], []], [], 111⟩))
abbrev S62_2 : St := ⟨[(1, rl tsI4 in_), (2, ri first), (3, ri rows), (4, rC tsNode n_), (8, rF 0), (10, rF 1)], [[di 0, di 0, di 0, di 0], [di 0, di 0, di 0, di 0], []], [], 111⟩
theorem ref05_Needs_fzx1 : P62 1 C62.r.r.r.r.l.r.t (S62_2 n_ in_ first rows) k = k ⟨[(8, rF 0), (9, ri 1)], [[di 0, di 0, di 0, di 0], [], []], [], 111⟩ := by kernel_rfl
abbrev S62_3 : St := ⟨[(1, rl tsI4 in_), (2, ri first), (3, ri rows), (4, rC tsNode n_), (8, rF 0), (10, rF 1), (13, ri 0)], [[di 0, di 0, di 0, di 0], [di 0, di 0, di 0, di 0], []], [], 111⟩
theorem ref05_Needs_f8 : P62 1 C62.r.r.r.r.r.l (S62_2 n_ in_ first rows) k = k (S62_3 n_ in_ first rows) := by kernel_rfl
abbrev S62_4 : St := ⟨[(1, rl tsI4 in_), (2, ri first), (3, ri rows), (4, rC tsNode n_), (8, rF 0), (10, rF 1), (13, ri s968.1)], [[di 0, di 0, di 0, di 0], (tsI4.leaves s968.2), []], [], 111⟩
theorem ref05_Needs_fzx2 : P62 1 C62.r.r.r.r.r.l.r.b.b.l (S62_4 n_ in_ first rows s968) k = k ⟨[(1, rl tsI4 in_), (2, ri first), (3, ri rows), (4, rC tsNode n_), (8, rF 0), (10, rF 1), (13, ri s968.1), (54, rb (decide (s968.1 < (in_.length : Int))))], [[di 0, di 0, di 0, di 0], (tsI4.leaves s968.2), []], [], 111⟩ := by kernel_rfl
def ref05_Needs_r10_p : Option Unit := (bif (decide ((0 : Int) ≤ s968.1)) then (bif (decide (s968.1 < (in_.length : Int))) then (some ()) else none) else none)
abbrev S62_5 : St := ⟨[(1, rl tsI4 in_), (2, ri first), (3, ri rows), (4, rC tsNode n_), (8, rF 0), (10, rF 1), (13, ri s968.1), (14, ri ((gt in_ s968.1 dI4).1))], [[di 0, di 0, di 0, di 0], (tsI4.leaves s968.2), []], [], 111⟩
theorem ref05_Needs_r10 : P62 1 C62.r.r.r.r.r.l.r.b.b.r.l.b (S62_4 n_ in_ first rows s968) k = Option.bind (ref05_Needs_r10_p in_ s968) (fun y977 : Unit => k (S62_5 n_ in_ first rows s968)) := .trans (by kernel_rfl) (bif_b (bif_b some_b none_b) none_b)
abbrev S62_6 : St := ⟨[(1, rl tsI4 in_), (2, ri first), (3, ri rows), (4, rC tsNode n_), (8, rF 0), (10, rF 1), (13, ri s968.1), (14, ri ((gt in_ s968.1 dI4).1)), (15, ri first), (16, ri (IntKind.wrap .i64 (first + rows)))], [[di 0, di 0, di 0, di 0], (tsI4.leaves s968.2), []], [], 111⟩
theorem ref05_Needs_f13 : P62 2 C62.r.r.r.r.r.l.r.b.b.r.l.b.r (S62_5 n_ in_ first rows s968) k = k (S62_6 n_ in_ first rows s968) := by kernel_rfl
abbrev S62_7 : St := ⟨[(1, rl tsI4 in_), (2, ri first), (3, ri rows), (4, rC tsNode n_), (8, rF 0), (10, rF 1), (13, ri s968.1), (14, ri ((gt in_ s968.1 dI4).1)), (15, ri first), (16, ri (IntKind.wrap .i64 (first + rows))), (68, ri n_.1)], [[di 0, di 0, di 0, di 0], (tsI4.leaves s968.2), []], [], 111⟩
theorem ref05_Needs_f14 : P62 1 C62.r.r.r.r.r.l.r.b.b.r.l.b.r.r.r.l (S62_6 n_ in_ first rows s968) k = k (S62_7 n_ in_ first rows s968) := by kernel_rfl
abbrev S62_8 : St := ⟨[(1, rl tsI4 in_), (2, ri first), (3, ri rows), (4, rC tsNode n_), (8, rF 0), (10, rF 1), (13, ri s968.1), (14, ri ((gt in_ s968.1 dI4).1)), (15, ri first), (16, ri (IntKind.wrap .i64 (first + rows))), (68, ri n_.1), (69, rb (n_.1 == 1))], [[di 0, di 0, di 0, di 0], (tsI4.leaves s968.2), []], [], 111⟩
theorem ref05_Needs_f2000015 : P62 1 C62.r.r.r.r.r.l.r.b.b.r.l.b.r.r.r.l.r.b.l (S62_7 n_ in_ first rows s968) k = k (S62_8 n_ in_ first rows s968) := by kernel_rfl
abbrev S62_9 : St := ⟨[(1, rl tsI4 in_), (2, ri first), (3, ri rows), (4, rC tsNode n_), (8, rF 0), (10, rF 1), (13, ri s968.1), (14, ri ((gt in_ s968.1 dI4).1)), (15, ri first), (16, ri (IntKind.wrap .i64 (first + rows))), (68, ri n_.1), (69, rb (n_.1 == 2))], [[di 0, di 0, di 0, di 0], (tsI4.leaves s968.2), []], [], 111⟩
theorem ref05_Needs_f2000016 : P62 1 C62.r.r.r.r.r.l.r.b.b.r.l.b.r.r.r.l.r.b.l.r.e (S62_8 n_ in_ first rows s968) k = k (S62_9 n_ in_ first rows s968) := by kernel_rfl
abbrev S62_10 : St := ⟨[(1, rl tsI4 in_), (2, ri first), (3, ri rows), (4, rC tsNode n_), (8, rF 0), (10, rF 1), (13, ri s968.1), (14, ri ((gt in_ s968.1 dI4).1)), (15, ri first), (16, ri (IntKind.wrap .i64 (first + rows))), (68, ri n_.1), (69, rb (n_.1 == 4))], [[di 0, di 0, di 0, di 0], (tsI4.leaves s968.2), []], [], 111⟩
theorem ref05_Needs_f2000017 : P62 1 C62.r.r.r.r.r.l.r.b.b.r.l.b.r.r.r.l.r.b.l.r.e.r.e (S62_9 n_ in_ first rows s968) k = k (S62_10 n_ in_ first rows s968) := by kernel_rfl
abbrev S62_11 : St := ⟨[(1, rl tsI4 in_), (2, ri first), (3, ri rows), (4, rC tsNode n_), (8, rF 0), (10, rF 1), (13, ri s968.1), (14, ri ((gt in_ s968.1 dI4).1)), (15, ri first), (16, ri (IntKind.wrap .i64 (first + rows))), (68, ri n_.1), (69, rb (n_.1 == 5))], [[di 0, di 0, di 0, di 0], (tsI4.leaves s968.2), []], [], 111⟩
theorem ref05_Needs_r17 : R62 C62.r.r.r.r.r.l.r.b.b.r.l.b.r.r.r.l.r.b.l.r.e.r.e.r.e (S62_10 n_ in_ first rows s968) q = q .normal (S62_11 n_ in_ first rows s968) := by kernel_rfl
def ref05_Needs_j14_q (K : Bool → β) : β := (bif (n_.1 == 1) then (K (n_.1 == 1)) else (bif (n_.1 == 2) then (K (n_.1 == 2)) else (bif (n_.1 == 4) then (K (n_.1 == 4)) else (K (n_.1 == 5)))))
def ref05_Needs_j14_p : Bool := ref05_Needs_j14_q n_ (fun y => y)
theorem ref05_Needs_j14_n (K : Bool → β) : ref05_Needs_j14_q n_ K = K (ref05_Needs_j14_p n_) := (bif_k K rfl (bif_k K rfl (bif_k K rfl rfl)))
abbrev S62_12 : St := ⟨[(1, rl tsI4 in_), (2, ri first), (3, ri rows), (4, rC tsNode n_), (8, rF 0), (10, rF 1), (13, ri s968.1), (14, ri ((gt in_ s968.1 dI4).1)), (15, ri first), (16, ri (IntKind.wrap .i64 (first + rows))), (68, ri n_.1), (69, rb (ref05_Needs_j14_p n_))], [[di 0, di 0, di 0, di 0], (tsI4.leaves s968.2), []], [], 111⟩
theorem ref05_Needs_j14 : R62 C62.r.r.r.r.r.l.r.b.b.r.l.b.r.r.r.l.r.b.l (S62_7 n_ in_ first rows s968) (Q62 C62.r.r.r.r.r.l.r.b.b.r.l.b.r.r.r.l.r.b.r q) = R62 C62.r.r.r.r.r.l.r.b.b.r.l.b.r.r.r.l.r.b.r (S62_12 n_ in_ first rows s968) q := by
  refine Eq.trans ?_ (ref05_Needs_j14_n n_ (fun y978 : Bool => R62 C62.r.r.r.r.r.l.r.b.b.r.l.b.r.r.r.l.r.b.r ⟨[(1, rl tsI4 in_), (2, ri first), (3, ri rows), (4, rC tsNode n_), (8, rF 0), (10, rF 1), (13, ri s968.1), (14, ri ((gt in_ s968.1 dI4).1)), (15, ri first), (16, ri (IntKind.wrap .i64 (first + rows))), (68, ri n_.1), (69, rb y978)], [[di 0, di 0, di 0, di 0], (tsI4.leaves s968.2), []], [], 111⟩ q))
  unfold ref05_Needs_j14_q
  refine (pre1 (ref05_Needs_f2000015 n_ in_ first rows s968 _)).trans ?_
  refine (cond_s (b := (n_.1 == 1)) ).trans (bif_g ?_ ?_)
  · refine (skip_eq).trans ?_
    refine (seqC_normal (st' := (S62_8 n_ in_ first rows s968))).trans ?_
    kernel_rfl
  · refine (pre1 (ref05_Needs_f2000016 n_ in_ first rows s968 _)).trans ?_
    refine (cond_s (b := (n_.1 == 2)) ).trans (bif_g ?_ ?_)
    · refine (skip_eq).trans ?_
      refine (seqC_normal (st' := (S62_9 n_ in_ first rows s968))).trans ?_
      kernel_rfl
    · refine (pre1 (ref05_Needs_f2000017 n_ in_ first rows s968 _)).trans ?_
      refine (cond_s (b := (n_.1 == 4)) ).trans (bif_g ?_ ?_)
      · refine (skip_eq).trans ?_
        refine (seqC_normal (st' := (S62_10 n_ in_ first rows s968))).trans ?_
        kernel_rfl
      · refine (ref05_Needs_r17 n_ in_ first rows s968 _).trans ?_
        refine (seqC_normal (st' := (S62_11 n_ in_ first rows s968))).trans ?_
        kernel_rfl
abbrev S62_13 (y979 : (Int × Int)) : St := ⟨[(1, rl tsI4 in_), (2, ri first), (3, ri rows), (4, rC tsNode n_), (8, rF 0), (10, rF 1), (13, ri s968.1), (15, ri y979.1), (16, ri y979.2)], [[di 0, di 0, di 0, di 0], (tsI4.leaves s968.2), []], [], 111⟩
theorem ref05_Needs_r18 : R62 C62.r.r.r.r.r.l.r.b.b.r.l.b.r.r.r.l.r.b.r.t (S62_12 n_ in_ first rows s968) q = Option.bind (ref02_Reach first rows n_.2.2.1 n_.2.2.2.1 n_.2.2.2.2.1 ((gt in_ s968.1 dI4).1)) fun y979 : (Int × Int) => q .normal (S62_13 n_ in_ first rows s968 y979) := by kernel_rfl
theorem ref05_Needs_f1000020 : P62 1 C62.r.r.r.r.r.l.r.b.b.r.l.b.r.r.r.l.r.b.r.e (S62_12 n_ in_ first rows s968) k = k ⟨[(1, rl tsI4 in_), (2, ri first), (3, ri rows), (4, rC tsNode n_), (8, rF 0), (10, rF 1), (13, ri s968.1), (14, ri ((gt in_ s968.1 dI4).1)), (15, ri first), (16, ri (IntKind.wrap .i64 (first + rows))), (68, ri n_.1), (87, rb (n_.1 == 9))], [[di 0, di 0, di 0, di 0], (tsI4.leaves s968.2), []], [], 111⟩ := by kernel_rfl
def ref05_Needs_r21_q (K : Int → β) : β := (K (min (IntKind.wrap .i64 ((IntKind.wrap .i64 (first + rows)) - 1)) ((gt in_ s968.1 dI4).1)))
def ref05_Needs_r21_p : Int := ref05_Needs_r21_q in_ first rows s968 (fun y => y)
theorem ref05_Needs_r21_n (K : Int → β) : ref05_Needs_r21_q in_ first rows s968 K = K (ref05_Needs_r21_p in_ first rows s968) := rfl
abbrev S62_14 : St := ⟨[(1, rl tsI4 in_), (2, ri first), (3, ri rows), (4, rC tsNode n_), (8, rF 0), (10, rF 1), (13, ri s968.1), (15, ri (max (IntKind.wrap .i64 (first - 1)) (0 : Int))), (16, ri (ref05_Needs_r21_p in_ first rows s968))], [[di 0, di 0, di 0, di 0], (tsI4.leaves s968.2), []], [], 111⟩
theorem ref05_Needs_r21 : P62 2 C62.r.r.r.r.r.l.r.b.b.r.l.b.r.r.r.l.r.b.r.e.r.t (S62_7 n_ in_ first rows s968) k = k (S62_14 n_ in_ first rows s968) := Eq.trans (by kernel_rfl) (ref05_Needs_r21_n in_ first rows s968 (fun y980 : Int => k ⟨[(1, rl tsI4 in_), (2, ri first), (3, ri rows), (4, rC tsNode n_), (8, rF 0), (10, rF 1), (13, ri s968.1), (15, ri (max (IntKind.wrap .i64 (first - 1)) (0 : Int))), (16, ri y980)], [[di 0, di 0, di 0, di 0], (tsI4.leaves s968.2), []], [], 111⟩))
def ref05_Needs_r22_q (K : Bool → β) : β := (K (decide ((max (IntKind.wrap .i64 (first - 1)) (0 : Int)) ≥ (ref05_Needs_r21_p in_ first rows s968))))
def ref05_Needs_r22_p : Bool := ref05_Needs_r22_q in_ first rows s968 (fun y => y)
theorem ref05_Needs_r22_n (K : Bool → β) : ref05_Needs_r22_q in_ first rows s968 K = K (ref05_Needs_r22_p in_ first rows s968) := rfl
theorem ref05_Needs_r22 : P62 1 C62.r.r.r.r.r.l.r.b.b.r.l.b.r.r.r.l.r.b.r.e.r.t.r.r (S62_14 n_ in_ first rows s968) k = k ⟨[(1, rl tsI4 in_), (2, ri first), (3, ri rows), (4, rC tsNode n_), (8, rF 0), (10, rF 1), (13, ri s968.1), (15, ri (max (IntKind.wrap .i64 (first - 1)) (0 : Int))), (16, ri (ref05_Needs_r21_p in_ first rows s968)), (100, rb (ref05_Needs_r22_p in_ first rows s968))], [[di 0, di 0, di 0, di 0], (tsI4.leaves s968.2), []], [], 111⟩ := Eq.trans (by kernel_rfl) (ref05_Needs_r22_n in_ first rows s968 (fun y981 : Bool => k ⟨[(1, rl tsI4 in_), (2, ri first), (3, ri rows), (4, rC tsNode n_), (8, rF 0), (10, rF 1), (13, ri s968.1), (15, ri (max (IntKind.wrap .i64 (first - 1)) (0 : Int))), (16, ri (ref05_Needs_r21_p in_ first rows s968)), (100, rb y981)], [[di 0, di 0, di 0, di 0], (tsI4.leaves s968.2), []], [], 111⟩))
abbrev S62_15 : St := ⟨[(1, rl tsI4 in_), (2, ri first), (3, ri rows), (4, rC tsNode n_), (8, rF 0), (10, rF 1), (13, ri s968.1), (15, ri 0)], [[di 0, di 0, di 0, di 0], (tsI4.leaves s968.2), []], [], 111⟩
theorem ref05_Needs_f24 : P62 1 C62.r.r.r.r.r.l.r.b.b.r.l.b.r.r.r.l.r.b.r.e.r.t.r.r.r.t (S62_14 n_ in_ first rows s968) k = k (S62_15 n_ in_ first rows s968) := by kernel_rfl
abbrev S62_16 : St := ⟨[(1, rl tsI4 in_), (2, ri first), (3, ri rows), (4, rC tsNode n_), (8, rF 0), (10, rF 1), (13, ri s968.1), (15, ri 0), (16, ri 0)], [[di 0, di 0, di 0, di 0], (tsI4.leaves s968.2), []], [], 111⟩
theorem ref05_Needs_r24 : R62 C62.r.r.r.r.r.l.r.b.b.r.l.b.r.r.r.l.r.b.r.e.r.t.r.r.r.t.r (S62_15 n_ in_ first rows s968) q = q .normal (S62_16 n_ in_ first rows s968) := by kernel_rfl
abbrev S62_17 : St := ⟨[(1, rl tsI4 in_), (2, ri first), (3, ri rows), (4, rC tsNode n_), (8, rF 0), (10, rF 1), (13, ri s968.1), (14, ri ((gt in_ s968.1 dI4).1)), (15, ri first), (16, ri (IntKind.wrap .i64 (first + rows))), (68, ri n_.1), (101, rb (n_.1 == 3))], [[di 0, di 0, di 0, di 0], (tsI4.leaves s968.2), []], [], 111⟩
theorem ref05_Needs_f2000026 : P62 1 C62.r.r.r.r.r.l.r.b.b.r.l.b.r.r.r.l.r.b.r.e.r.e.l (S62_7 n_ in_ first rows s968) k = k (S62_17 n_ in_ first rows s968) := by kernel_rfl
abbrev S62_18 : St := ⟨[(1, rl tsI4 in_), (2, ri first), (3, ri rows), (4, rC tsNode n_), (8, rF 0), (10, rF 1), (13, ri s968.1), (14, ri ((gt in_ s968.1 dI4).1)), (15, ri first), (16, ri (IntKind.wrap .i64 (first + rows))), (101, rb (n_.1 == 11))], [[di 0, di 0, di 0, di 0], (tsI4.leaves s968.2), []], [], 111⟩
theorem ref05_Needs_r26 : R62 C62.r.r.r.r.r.l.r.b.b.r.l.b.r.r.r.l.r.b.r.e.r.e.l.r.e (S62_17 n_ in_ first rows s968) q = q .normal (S62_18 n_ in_ first rows s968) := by kernel_rfl
def ref05_Needs_j25_q (K : Bool → β) : β := (bif (n_.1 == 3) then (K (n_.1 == 3)) else (K (n_.1 == 11)))
def ref05_Needs_j25_p : Bool := ref05_Needs_j25_q n_ (fun y => y)
theorem ref05_Needs_j25_n (K : Bool → β) : ref05_Needs_j25_q n_ K = K (ref05_Needs_j25_p n_) := (bif_k K rfl rfl)
abbrev S62_19 : St := ⟨[(1, rl tsI4 in_), (2, ri first), (3, ri rows), (4, rC tsNode n_), (8, rF 0), (10, rF 1), (13, ri s968.1), (14, ri ((gt in_ s968.1 dI4).1)), (15, ri first), (16, ri (IntKind.wrap .i64 (first + rows))), (101, rb (ref05_Needs_j25_p n_))], [[di 0, di 0, di 0, di 0], (tsI4.leaves s968.2), []], [], 111⟩
theorem ref05_Needs_j25 : R62 C62.r.r.r.r.r.l.r.b.b.r.l.b.r.r.r.l.r.b.r.e.r.e.l (S62_7 n_ in_ first rows s968) (Q62 C62.r.r.r.r.r.l.r.b.b.r.l.b.r.r.r.l.r.b.r.e.r.e.r q) = R62 C62.r.r.r.r.r.l.r.b.b.r.l.b.r.r.r.l.r.b.r.e.r.e.r (S62_19 n_ in_ first rows s968) q := by
  refine Eq.trans ?_ (ref05_Needs_j25_n n_ (fun y982 : Bool => R62 C62.r.r.r.r.r.l.r.b.b.r.l.b.r.r.r.l.r.b.r.e.r.e.r ⟨[(1, rl tsI4 in_), (2, ri first), (3, ri rows), (4, rC tsNode n_), (8, rF 0), (10, rF 1), (13, ri s968.1), (14, ri ((gt in_ s968.1 dI4).1)), (15, ri first), (16, ri (IntKind.wrap .i64 (first + rows))), (101, rb y982)], [[di 0, di 0, di 0, di 0], (tsI4.leaves s968.2), []], [], 111⟩ q))
  unfold ref05_Needs_j25_q
  refine (pre1 (ref05_Needs_f2000026 n_ in_ first rows s968 _)).trans ?_
  refine (cond_s (b := (n_.1 == 3)) ).trans (bif_g ?_ ?_)
  · refine (skip_eq).trans ?_
    refine (seqC_normal (st' := ⟨[(1, rl tsI4 in_), (2, ri first), (3, ri rows), (4, rC tsNode n_), (8, rF 0), (10, rF 1), (13, ri s968.1), (14, ri ((gt in_ s968.1 dI4).1)), (15, ri first), (16, ri (IntKind.wrap .i64 (first + rows))), (101, rb (n_.1 == 3))], [[di 0, di 0, di 0, di 0], (tsI4.leaves s968.2), []], [], 111⟩)).trans ?_
    kernel_rfl
  · refine (ref05_Needs_r26 n_ in_ first rows s968 _).trans ?_
    refine (seqC_normal (st' := (S62_18 n_ in_ first rows s968))).trans ?_
    kernel_rfl
abbrev S62_20 : St := ⟨[(1, rl tsI4 in_), (2, ri first), (3, ri rows), (4, rC tsNode n_), (8, rF 0), (10, rF 1), (13, ri s968.1), (14, ri ((gt in_ s968.1 dI4).1)), (15, ri 0)], [[di 0, di 0, di 0, di 0], (tsI4.leaves s968.2), []], [], 111⟩
theorem ref05_Needs_f28 : P62 1 C62.r.r.r.r.r.l.r.b.b.r.l.b.r.r.r.l.r.b.r.e.r.e.r.t (S62_19 n_ in_ first rows s968) k = k (S62_20 n_ in_ first rows s968) := by kernel_rfl
abbrev S62_21 : St := ⟨[(1, rl tsI4 in_), (2, ri first), (3, ri rows), (4, rC tsNode n_), (8, rF 0), (10, rF 1), (13, ri s968.1), (15, ri 0), (16, ri ((gt in_ s968.1 dI4).1))], [[di 0, di 0, di 0, di 0], (tsI4.leaves s968.2), []], [], 111⟩
theorem ref05_Needs_r28 : R62 C62.r.r.r.r.r.l.r.b.b.r.l.b.r.r.r.l.r.b.r.e.r.e.r.t.r (S62_20 n_ in_ first rows s968) q = q .normal (S62_21 n_ in_ first rows s968) := by kernel_rfl
def ref05_Needs_j13_p : Option (Int × Int) := (bif (ref05_Needs_j14_p n_) then (Option.bind (ref02_Reach first rows n_.2.2.1 n_.2.2.2.1 n_.2.2.2.2.1 ((gt in_ s968.1 dI4).1)) (fun y979 : (Int × Int) => (some y979))) else (bif (n_.1 == 9) then (bif (ref05_Needs_r22_p in_ first rows s968) then (some ((0 : Int), (0 : Int))) else (some ((max (IntKind.wrap .i64 (first - 1)) (0 : Int)), (ref05_Needs_r21_p in_ first rows s968)))) else (bif (ref05_Needs_j25_p n_) then (some ((0 : Int), (gt in_ s968.1 dI4).1)) else (some (first, (IntKind.wrap .i64 (first + rows)))))))
abbrev S62_22 : St := ⟨[(1, rl tsI4 in_), (2, ri first), (3, ri rows), (4, rC tsNode n_), (8, rF 0), (10, rF 1), (13, ri s968.1), (15, ri y983.1), (16, ri y983.2)], [[di 0, di 0, di 0, di 0], (tsI4.leaves s968.2), []], [], 111⟩
theorem ref05_Needs_j13 : R62 C62.r.r.r.r.r.l.r.b.b.r.l.b.r.r.r.l (S62_6 n_ in_ first rows s968) (Q62 C62.r.r.r.r.r.l.r.b.b.r.l.b.r.r.r.r q) = Option.bind (ref05_Needs_j13_p n_ in_ first rows s968) (fun y983 : (Int × Int) => R62 C62.r.r.r.r.r.l.r.b.b.r.l.b.r.r.r.r (S62_22 n_ in_ first rows s968 y983) q) := by
  refine .trans ?_ (bif_b (bind_b fun y979 => some_b) (bif_b (bif_b some_b some_b) (bif_b some_b some_b)))
  refine (pre1 (ref05_Needs_f14 n_ in_ first rows s968 _)).trans ?_
  refine (block_push (id := 2)).trans ?_
  refine .trans seq_push ?_
  refine (ref05_Needs_j14 n_ in_ first rows s968 _).trans ?_
  refine (cond_s (b := (ref05_Needs_j14_p n_)) ).trans (bif_g ?_ ?_)
  · refine (ref05_Needs_r18 n_ in_ first rows s968 _).trans (bind_g fun y979 => ?_)
    refine block_normal.trans ?_
    refine (seqC_normal (st' := (S62_13 n_ in_ first rows s968 y979))).trans ?_
    kernel_rfl
  · refine (pre1 (ref05_Needs_f1000020 n_ in_ first rows s968 _)).trans ?_
    refine (cond_e (b := (n_.1 == 9)) (st' := (S62_7 n_ in_ first rows s968)) ).trans (bif_g ?_ ?_)
    · refine (pre2 (ref05_Needs_r21 n_ in_ first rows s968 _)).trans ?_
      refine (pre1 (ref05_Needs_r22 n_ in_ first rows s968 _)).trans ?_
      refine (cond_e (b := (ref05_Needs_r22_p in_ first rows s968)) (st' := (S62_14 n_ in_ first rows s968)) ).trans (bif_g ?_ ?_)
      · refine (pre1 (ref05_Needs_f24 n_ in_ first rows s968 _)).trans ?_
        refine (ref05_Needs_r24 n_ in_ first rows s968 _).trans ?_
        refine block_normal.trans ?_
        refine (seqC_normal (st' := (S62_16 n_ in_ first rows s968))).trans ?_
        kernel_rfl
      · refine (skip_eq).trans ?_
        refine block_normal.trans ?_
        refine (seqC_normal (st' := (S62_14 n_ in_ first rows s968))).trans ?_
        kernel_rfl
    · refine .trans seq_push ?_
      refine (ref05_Needs_j25 n_ in_ first rows s968 _).trans ?_
      refine (cond_s (b := (ref05_Needs_j25_p n_)) ).trans (bif_g ?_ ?_)
      · refine (pre1 (ref05_Needs_f28 n_ in_ first rows s968 _)).trans ?_
        refine (ref05_Needs_r28 n_ in_ first rows s968 _).trans ?_
        refine block_normal.trans ?_
        refine (seqC_normal (st' := (S62_21 n_ in_ first rows s968))).trans ?_
        kernel_rfl
      · refine (skip_eq).trans ?_
        refine block_normal.trans ?_
        refine (seqC_normal (st' := ⟨[(1, rl tsI4 in_), (2, ri first), (3, ri rows), (4, rC tsNode n_), (8, rF 0), (10, rF 1), (13, ri s968.1), (15, ri first), (16, ri (IntKind.wrap .i64 (first + rows)))], [[di 0, di 0, di 0, di 0], (tsI4.leaves s968.2), []], [], 111⟩)).trans ?_
        kernel_rfl
def ref05_Needs_r29_p : Option (Int × Int × Int × Int) := (bif (s968.1 == 0) then (some (y983.1, y983.2, s968.2.2.2.1, s968.2.2.2.2)) else (bif (s968.1 == 1) then (some (s968.2.1, s968.2.2.1, y983.1, y983.2)) else none))
abbrev S62_23 : St := ⟨[(1, rl tsI4 in_), (2, ri first), (3, ri rows), (4, rC tsNode n_), (8, rF 0), (10, rF 1), (13, ri s968.1)], [[di 0, di 0, di 0, di 0], (tsI4.leaves y984), []], [], 111⟩
theorem ref05_Needs_r29 : R62 C62.r.r.r.r.r.l.r.b.b.r.l.b.r.r.r.r (S62_22 n_ in_ first rows s968 y983) q = Option.bind (ref05_Needs_r29_p s968 y983) (fun y984 : (Int × Int × Int × Int) => q .normal (S62_23 n_ in_ first rows s968 y984)) := .trans (by kernel_rfl) (bif_b some_b (bif_b some_b none_b))
theorem ref05_Needs_r9 : R62 C62.r.r.r.r.r.l.r.b.b.r.r (S62_23 n_ in_ first rows s968 y984) q = q .normal ⟨[(1, rl tsI4 in_), (2, ri first), (3, ri rows), (4, rC tsNode n_), (8, rF 0), (10, rF 1), (13, ri (IntKind.wrap .i64 (s968.1 + 1)))], [[di 0, di 0, di 0, di 0], (tsI4.leaves y984), []], [], 111⟩ := by kernel_rfl
def ref05_Needs_l8_p : Option ((Int × Int × Int × Int × Int) ⊕ (Int × Int × Int × Int × Int)) := (bif (decide (s968.1 < (in_.length : Int))) then (Option.bind (ref05_Needs_r10_p in_ s968) (fun y977 : Unit => (Option.bind (ref05_Needs_j13_p n_ in_ first rows s968) (fun y983 : (Int × Int) => (Option.bind (ref05_Needs_r29_p s968 y983) (fun y984 : (Int × Int × Int × Int) => (some (Sum.inl ((IntKind.wrap .i64 (s968.1 + 1)), y984.1, y984.2.1, y984.2.2.1, y984.2.2.2))))))))) else (some (Sum.inr s968)))
abbrev S62_24 : St := ⟨[(1, rl tsI4 in_), (2, ri first), (3, ri rows), (4, rC tsNode n_), (8, rF 0), (10, rF 1), (13, ri y985.1)], [[di 0, di 0, di 0, di 0], (tsI4.leaves y985.2), []], [], 111⟩
theorem ref05_Needs_l8_b : R62 C62.r.r.r.r.r.l.r.b.b (S62_4 n_ in_ first rows s968) (loopKont 3 q) = Option.bind (ref05_Needs_l8_p n_ in_ first rows s968) (either (fun y : (Int × Int × Int × Int × Int) => q .normal ⟨[(1, rl tsI4 in_), (2, ri first), (3, ri rows), (4, rC tsNode n_), (8, rF 0), (10, rF 1), (13, ri y.1)], [[di 0, di 0, di 0, di 0], (tsI4.leaves y.2), []], [], 111⟩) (fun y985 : (Int × Int × Int × Int × Int) => q (.exit 0) (S62_24 n_ in_ first rows y985))) := by
  refine .trans ?_ (bif_b (bind_b fun y977 => (bind_b fun y983 => (bind_b fun y984 => e2_0))) e2_1)
  refine .trans seq_push ?_
  refine (pre1 (ref05_Needs_fzx2 n_ in_ first rows s968 _)).trans ?_
  refine (cond_e (b := (decide (s968.1 < (in_.length : Int)))) (st' := (S62_4 n_ in_ first rows s968)) ).trans (bif_g ?_ ?_)
  · refine (skip_eq).trans ?_
    refine (seqC_normal (st' := (S62_4 n_ in_ first rows s968))).trans ?_
    refine .trans seq_push ?_
    refine (block_push (id := 1)).trans ?_
    refine (pre1 (ref05_Needs_r10 n_ in_ first rows s968 _)).trans (bind_g fun y977 => ?_)
    refine (pre2 (ref05_Needs_f13 n_ in_ first rows s968 _)).trans ?_
    refine .trans seq_push ?_
    refine (ref05_Needs_j13 n_ in_ first rows s968 _).trans (bind_g fun y983 => ?_)
    refine (ref05_Needs_r29 n_ in_ first rows s968 y983 _).trans (bind_g fun y984 => ?_)
    refine block_normal.trans ?_
    refine (seqC_normal (st' := (S62_23 n_ in_ first rows s968 y984))).trans ?_
    refine (ref05_Needs_r9 n_ in_ first rows s968 y984 _).trans ?_
    kernel_rfl
  · refine ((exit_eq (j := 0))).trans ?_
    refine seqC_exit.trans ?_
    kernel_rfl
theorem ref05_Needs_l8 : R62 C62.r.r.r.r.r.l.r.b (S62_3 n_ in_ first rows) q = Option.bind (iterN (ref05_Needs_l8_p n_ in_ first rows) LL ((0 : Int), (0 : Int), (0 : Int), (0 : Int), (0 : Int))) (fun y985 : (Int × Int × Int × Int × Int) => q (.exit 0) (S62_24 n_ in_ first rows y985)) :=
  Eq.trans (by kernel_rfl) (loop_iter1 (S := fun s968 : (Int × Int × Int × Int × Int) => (S62_4 n_ in_ first rows s968)) (Y1 := fun y985 : (Int × Int × Int × Int × Int) => ((.exit 0), (S62_24 n_ in_ first rows y985))) (fun s q => ref05_Needs_l8_b n_ in_ first rows s q) (fun z => rfl) LL ((0 : Int), (0 : Int), (0 : Int), (0 : Int), (0 : Int)))
abbrev S62_25 : St := ⟨[(8, rF 0), (10, rF 1)], [[di 0, di 0, di 0, di 0], (tsI4.leaves y985.2), []], [], 111⟩
theorem ref05_Needs_fzx3 : P62 1 C62.r.r.r.r.r.r (S62_25 y985) k = k ⟨[(8, rF 0), (9, ri 0)], [(tsI4.leaves y985.2), [], []], [], 111⟩ := by kernel_rfl
/-- quilt/quiltref05.Needs -/
def ref05_Needs : Option (I4 × Int) := (Option.bind (ref03_Value n_ in_) (fun y762 : (I4 × Int) => (bif (y762.2 != 0) then (some (((0 : Int), (0 : Int), (0 : Int), (0 : Int)), y762.2)) else (bif (ref05_Needs_r5_p first rows y762) then (some (((0 : Int), (0 : Int), (0 : Int), (0 : Int)), (1 : Int))) else (Option.bind (iterN (ref05_Needs_l8_p n_ in_ first rows) LL ((0 : Int), (0 : Int), (0 : Int), (0 : Int), (0 : Int))) (fun y985 : (Int × Int × Int × Int × Int) => (some (y985.2, (0 : Int)))))))))
theorem ref05_Needs_is : stepS E cp62 noE 48 [rA tsNode n_, rl tsI4 in_, ri first, ri rows] = Option.bind (ref05_Needs n_ in_ first rows) (fun y : (I4 × Int) => some (.tup [rA tsI4 y.1, ri y.2] : R)) := by
  refine .trans ?_ (bind_b fun y762 => (bif_b some_b (bif_b some_b (bind_b fun y985 => some_b))))
  refine (stepG_is (nt := 111) (regs := [(0, rA tsNode n_), (1, rl tsI4 in_), (2, ri first), (3, ri rows)])).trans ?_
  refine (pre3 (ref05_Needs_r2 n_ in_ first rows _)).trans (bind_g fun y762 => ?_)
  refine .trans seq_push ?_
  refine (pre1 (ref05_Needs_f1000004 n_ in_ first rows y762 _)).trans ?_
  refine (cond_e (b := (y762.2 != 0)) (st' := (S62_0 n_ in_ first rows y762)) ).trans (bif_g ?_ ?_)
  · refine (pre1 (ref05_Needs_fz n_ in_ first rows y762 _)).trans ?_
    refine (ret_eq).trans ?_
    refine seqC_ret.trans ?_
    kernel_rfl
  · refine (skip_eq).trans ?_
    refine (seqC_normal (st' := (S62_1 n_ in_ first rows y762))).trans ?_
    refine .trans seq_push ?_
    refine (pre1 (ref05_Needs_r5 n_ in_ first rows y762 _)).trans ?_
    refine (cond_e (b := (ref05_Needs_r5_p first rows y762)) (st' := (S62_2 n_ in_ first rows)) ).trans (bif_g ?_ ?_)
    · refine (pre1 (ref05_Needs_fzx1 n_ in_ first rows _)).trans ?_
      refine (ret_eq).trans ?_
      refine seqC_ret.trans ?_
      kernel_rfl
    · refine (skip_eq).trans ?_
      refine (seqC_normal (st' := (S62_2 n_ in_ first rows))).trans ?_
      refine .trans seq_push ?_
      refine (pre1 (ref05_Needs_f8 n_ in_ first rows _)).trans ?_
      refine (block_push (id := 0)).trans ?_
      refine (ref05_Needs_l8 n_ in_ first rows _).trans (bind_g fun y985 => ?_)
      refine block_same.trans ?_
      refine (seqC_normal (st' := (S62_25 y985))).trans ?_
      refine (pre1 (ref05_Needs_fzx3 y985 _)).trans ?_
      refine (ret_eq).trans ?_
      kernel_rfl
noncomputable def cp63 : CallP := withC cp62 48 [(.agg tsNode), (pL tsI4), pI, pI] (.tup [(.agg tsI4), pI]) (fun y : (I4 × Int) => (y.1, y.2, ())) (fun x => ref05_Needs x.1 x.2.1 x.2.2.1 x.2.2.2.1)
theorem cp63_ok : PureOK E cp63 := conS eok cp62_ok noE_ok fun x => Eq.mp (by kernel_rfl) (ref05_Needs_is x.1 x.2.1 x.2.2.1 x.2.2.2.1)
end
noncomputable abbrev C63 := codeOf E.P 49
noncomputable abbrev P63 {α : Type} := @preK α E 49 cp63 noE
abbrev S63_0 (s_ : I3) : St := ⟨[(1, rC tsI3 s_)], [], [], 11⟩
theorem ref02_Row_f1 {α : Type} (s_ : I3) (k : St → Option α) : P63 1 C63 ⟨[(0, rA tsI3 s_)], [], [], 11⟩ k = k (S63_0 s_) := by kernel_rfl
theorem ref02_Row_f1000002 {α : Type} (s_ : I3) (k : St → Option α) : P63 1 C63.r.l (S63_0 s_) k = k ⟨[(1, rC tsI3 s_), (5, rb ((ref02_May s_) != 0))], [], [], 11⟩ := by kernel_rfl
theorem ref02_Row_fz {α : Type} (s_ : I3) (k : St → Option α) : P63 1 C63.r.l.r.t (S63_0 s_) k = k ⟨[(2, ri 0)], [], [], 11⟩ := by kernel_rfl
theorem ref02_Row_fzx1 {α : Type} (s_ : I3) (k : St → Option α) : P63 1 C63.r.r (S63_0 s_) k = k ⟨[(2, ri (IntKind.wrap .i64 (s_.2.1 * s_.2.2)))], [], [], 11⟩ := by kernel_rfl
/-- quilt/quiltref02.Row -/
def ref02_Row_q {β : Type} (s_ : I3) (K : Int → β) : β := (bif ((ref02_May s_) != 0) then (K (0 : Int)) else (K (IntKind.wrap .i64 (s_.2.1 * s_.2.2))))
def ref02_Row (s_ : I3) : Int := ref02_Row_q s_ (fun y => y)
theorem ref02_Row_n {β : Type} (s_ : I3) (K : Int → β) : ref02_Row_q s_ K = K (ref02_Row s_) := (bif_k K rfl rfl)
theorem ref02_Row_is (s_ : I3) : stepS E cp63 noE 49 [rA tsI3 s_] = (fun y : Int => some (ri y : R)) (ref02_Row s_) := by
  refine Eq.trans ?_ (ref02_Row_n s_ (fun y : Int => some (ri y : R)))
  refine (stepG_is (nt := 11) (regs := [(0, rA tsI3 s_)])).trans ?_
  unfold ref02_Row_q
  refine (pre1 (ref02_Row_f1 s_ _)).trans ?_
  refine .trans seq_push ?_
  refine (pre1 (ref02_Row_f1000002 s_ _)).trans ?_
  refine (cond_e (b := ((ref02_May s_) != 0)) (st' := (S63_0 s_)) ).trans (bif_g ?_ ?_)
  · refine (pre1 (ref02_Row_fz s_ _)).trans ?_
    refine (ret_eq).trans ?_
    refine seqC_ret.trans ?_
    kernel_rfl
  · refine (skip_eq).trans ?_
    refine (seqC_normal (st' := (S63_0 s_))).trans ?_
    refine (pre1 (ref02_Row_fzx1 s_ _)).trans ?_
    refine (ret_eq).trans ?_
    kernel_rfl
noncomputable def cp64 : CallP := withC cp63 49 [(.agg tsI3)] (.one pI) (fun y : Int => y) (fun x => some (ref02_Row x.1))
theorem cp64_ok : PureOK E cp64 := conS eok cp63_ok noE_ok fun x => Eq.mp (by kernel_rfl) (ref02_Row_is x.1)
section
variable {α : Type} (n_ : Node) (in_ : (List I4)) (first : Int) (rows : Int) (y986 : (I4 × Int)) (y987 : (I4 × Int)) (s1004 : (Int × Int × Int × Int)) (y1006 : (Int × Int × Int)) (y1007 : (Int × Int × Int × Int)) (k : St → Option α) (q : Kont α)
noncomputable abbrev C64 := codeOf E.P 32
noncomputable abbrev P64 := @preK α E 32 cp64 noE
noncomputable abbrev R64 := @runCode α E 32 cp64 noE
abbrev S64_0 : St := ⟨[(1, rl tsI4 in_), (3, ri rows), (4, rC tsNode n_), (8, rF 0), (10, rF 1), (11, ri y986.2)], [[di 0, di 0, di 0], (tsI4.leaves y986.1)], [], 65⟩
theorem ref15_Sizes_r1 : P64 2 C64 ⟨[(0, rA tsNode n_), (1, rl tsI4 in_), (2, ri first), (3, ri rows)], [], [], 65⟩ k = Option.bind (ref05_Needs n_ in_ first rows) fun y986 : (I4 × Int) => k (S64_0 n_ in_ rows y986) := by kernel_rfl
theorem ref15_Sizes_f1000003 : P64 1 C64.r.r.l (S64_0 n_ in_ rows y986) k = k ⟨[(1, rl tsI4 in_), (3, ri rows), (4, rC tsNode n_), (8, rF 0), (10, rF 1), (11, ri y986.2), (25, rb (y986.2 != 0))], [[di 0, di 0, di 0], (tsI4.leaves y986.1)], [], 65⟩ := by kernel_rfl
theorem ref15_Sizes_fz : P64 1 C64.r.r.l.r.t (S64_0 n_ in_ rows y986) k = k ⟨[(8, rF 0), (9, ri y986.2)], [[di 0, di 0, di 0], []], [], 65⟩ := by kernel_rfl
abbrev S64_1 : St := ⟨[(1, rl tsI4 in_), (3, ri rows), (4, rC tsNode n_), (8, rF 0), (10, rF 1)], [[di 0, di 0, di 0], (tsI4.leaves y986.1)], [], 65⟩
abbrev S64_2 : St := ⟨[(1, rl tsI4 in_), (3, ri rows), (8, rF 0), (10, rF 1), (12, rF 2)], [[di 0, di 0, di 0], (tsI4.leaves y986.1), (tsI4.leaves y987.1)], [], 65⟩
theorem ref15_Sizes_r4 : P64 1 C64.r.r.r (S64_1 n_ in_ rows y986) k = Option.bind (ref03_Value n_ in_) fun y987 : (I4 × Int) => k (S64_2 in_ rows y986 y987) := by kernel_rfl
abbrev S64_3 : St := ⟨[(1, rl tsI4 in_), (8, rF 0), (10, rF 1), (14, rF 3)], [[di 0, di 0, di 0], (tsI4.leaves y986.1), [], [di 0, di 0, di (IntKind.wrap .i64 (rows * (ref02_Row (y987.1.1, y987.1.2.1, y987.1.2.2.1))))]], [], 65⟩
theorem ref15_Sizes_f6 : P64 1 C64.r.r.r.r (S64_2 in_ rows y986 y987) k = k (S64_3 in_ rows y986 y987) := by kernel_rfl
abbrev S64_4 : St := ⟨[(1, rl tsI4 in_), (8, rF 0), (10, rF 1), (14, rF 3), (15, ri 0)], [[di 0, di 0, di 0], (tsI4.leaves y986.1), [], [di 0, di 0, di (IntKind.wrap .i64 (rows * (ref02_Row (y987.1.1, y987.1.2.1, y987.1.2.2.1))))]], [], 65⟩
theorem ref15_Sizes_f7 : P64 1 C64.r.r.r.r.r.l (S64_3 in_ rows y986 y987) k = k (S64_4 in_ rows y986 y987) := by kernel_rfl
abbrev S64_5 : St := ⟨[(1, rl tsI4 in_), (8, rF 0), (10, rF 1), (14, rF 3), (15, ri s1004.1)], [[di 0, di 0, di 0], (tsI4.leaves y986.1), [], (tsI3.leaves s1004.2)], [], 65⟩
theorem ref15_Sizes_fzx1 : P64 1 C64.r.r.r.r.r.l.r.b.b.l (S64_5 in_ y986 s1004) k = k ⟨[(1, rl tsI4 in_), (8, rF 0), (10, rF 1), (14, rF 3), (15, ri s1004.1), (43, rb (decide (s1004.1 < (in_.length : Int))))], [[di 0, di 0, di 0], (tsI4.leaves y986.1), [], (tsI3.leaves s1004.2)], [], 65⟩ := by kernel_rfl
def ref15_Sizes_r9_p : Option (Int × Int × Int) := (bif (s1004.1 == 0) then (bif (s1004.1 == 0) then (bif (decide ((0 : Int) ≤ s1004.1)) then (bif (decide (s1004.1 < (in_.length : Int))) then (bif (s1004.1 == 0) then (some ((IntKind.wrap .i64 ((IntKind.wrap .i64 (y986.1.2.1 - y986.1.1)) * (ref02_Row ((gt in_ s1004.1 dI4).1, (gt in_ s1004.1 dI4).2.1, (gt in_ s1004.1 dI4).2.2.1)))), s1004.2.2.1, s1004.2.2.2)) else (bif (s1004.1 == 1) then (some (s1004.2.1, (IntKind.wrap .i64 ((IntKind.wrap .i64 (y986.1.2.1 - y986.1.1)) * (ref02_Row ((gt in_ s1004.1 dI4).1, (gt in_ s1004.1 dI4).2.1, (gt in_ s1004.1 dI4).2.2.1)))), s1004.2.2.2)) else (bif (s1004.1 == 2) then (some (s1004.2.1, s1004.2.2.1, (IntKind.wrap .i64 ((IntKind.wrap .i64 (y986.1.2.1 - y986.1.1)) * (ref02_Row ((gt in_ s1004.1 dI4).1, (gt in_ s1004.1 dI4).2.1, (gt in_ s1004.1 dI4).2.2.1)))))) else none))) else none) else none) else (bif (s1004.1 == 1) then (bif (decide ((0 : Int) ≤ s1004.1)) then (bif (decide (s1004.1 < (in_.length : Int))) then (bif (s1004.1 == 0) then (some ((IntKind.wrap .i64 ((IntKind.wrap .i64 (y986.1.2.1 - y986.1.2.2.1)) * (ref02_Row ((gt in_ s1004.1 dI4).1, (gt in_ s1004.1 dI4).2.1, (gt in_ s1004.1 dI4).2.2.1)))), s1004.2.2.1, s1004.2.2.2)) else (bif (s1004.1 == 1) then (some (s1004.2.1, (IntKind.wrap .i64 ((IntKind.wrap .i64 (y986.1.2.1 - y986.1.2.2.1)) * (ref02_Row ((gt in_ s1004.1 dI4).1, (gt in_ s1004.1 dI4).2.1, (gt in_ s1004.1 dI4).2.2.1)))), s1004.2.2.2)) else (bif (s1004.1 == 2) then (some (s1004.2.1, s1004.2.2.1, (IntKind.wrap .i64 ((IntKind.wrap .i64 (y986.1.2.1 - y986.1.2.2.1)) * (ref02_Row ((gt in_ s1004.1 dI4).1, (gt in_ s1004.1 dI4).2.1, (gt in_ s1004.1 dI4).2.2.1)))))) else none))) else none) else none) else none)) else (bif (s1004.1 == 1) then (bif (s1004.1 == 0) then (bif (decide ((0 : Int) ≤ s1004.1)) then (bif (decide (s1004.1 < (in_.length : Int))) then (bif (s1004.1 == 0) then (some ((IntKind.wrap .i64 ((IntKind.wrap .i64 (y986.1.2.2.2 - y986.1.1)) * (ref02_Row ((gt in_ s1004.1 dI4).1, (gt in_ s1004.1 dI4).2.1, (gt in_ s1004.1 dI4).2.2.1)))), s1004.2.2.1, s1004.2.2.2)) else (bif (s1004.1 == 1) then (some (s1004.2.1, (IntKind.wrap .i64 ((IntKind.wrap .i64 (y986.1.2.2.2 - y986.1.1)) * (ref02_Row ((gt in_ s1004.1 dI4).1, (gt in_ s1004.1 dI4).2.1, (gt in_ s1004.1 dI4).2.2.1)))), s1004.2.2.2)) else (bif (s1004.1 == 2) then (some (s1004.2.1, s1004.2.2.1, (IntKind.wrap .i64 ((IntKind.wrap .i64 (y986.1.2.2.2 - y986.1.1)) * (ref02_Row ((gt in_ s1004.1 dI4).1, (gt in_ s1004.1 dI4).2.1, (gt in_ s1004.1 dI4).2.2.1)))))) else none))) else none) else none) else (bif (s1004.1 == 1) then (bif (decide ((0 : Int) ≤ s1004.1)) then (bif (decide (s1004.1 < (in_.length : Int))) then (bif (s1004.1 == 0) then (some ((IntKind.wrap .i64 ((IntKind.wrap .i64 (y986.1.2.2.2 - y986.1.2.2.1)) * (ref02_Row ((gt in_ s1004.1 dI4).1, (gt in_ s1004.1 dI4).2.1, (gt in_ s1004.1 dI4).2.2.1)))), s1004.2.2.1, s1004.2.2.2)) else (bif (s1004.1 == 1) then (some (s1004.2.1, (IntKind.wrap .i64 ((IntKind.wrap .i64 (y986.1.2.2.2 - y986.1.2.2.1)) * (ref02_Row ((gt in_ s1004.1 dI4).1, (gt in_ s1004.1 dI4).2.1, (gt in_ s1004.1 dI4).2.2.1)))), s1004.2.2.2)) else (bif (s1004.1 == 2) then (some (s1004.2.1, s1004.2.2.1, (IntKind.wrap .i64 ((IntKind.wrap .i64 (y986.1.2.2.2 - y986.1.2.2.1)) * (ref02_Row ((gt in_ s1004.1 dI4).1, (gt in_ s1004.1 dI4).2.1, (gt in_ s1004.1 dI4).2.2.1)))))) else none))) else none) else none) else none)) else none))
abbrev S64_6 : St := ⟨[(1, rl tsI4 in_), (8, rF 0), (10, rF 1), (14, rF 3), (15, ri s1004.1)], [[di 0, di 0, di 0], (tsI4.leaves y986.1), [], (tsI3.leaves y1006)], [], 65⟩
theorem ref15_Sizes_r9 : R64 C64.r.r.r.r.r.l.r.b.b.r.l.b (S64_5 in_ y986 s1004) q = Option.bind (ref15_Sizes_r9_p in_ y986 s1004) (fun y1006 : (Int × Int × Int) => q .normal (S64_6 in_ y986 s1004 y1006)) := .trans (by kernel_rfl) (bif_b (bif_b (bif_b (bif_b (bif_b some_b (bif_b some_b (bif_b some_b none_b))) none_b) none_b) (bif_b (bif_b (bif_b (bif_b some_b (bif_b some_b (bif_b some_b none_b))) none_b) none_b) none_b)) (bif_b (bif_b (bif_b (bif_b (bif_b some_b (bif_b some_b (bif_b some_b none_b))) none_b) none_b) (bif_b (bif_b (bif_b (bif_b some_b (bif_b some_b (bif_b some_b none_b))) none_b) none_b) none_b)) none_b))
theorem ref15_Sizes_r8 : R64 C64.r.r.r.r.r.l.r.b.b.r.r (S64_6 in_ y986 s1004 y1006) q = q .normal ⟨[(1, rl tsI4 in_), (8, rF 0), (10, rF 1), (14, rF 3), (15, ri (IntKind.wrap .i64 (s1004.1 + 1)))], [[di 0, di 0, di 0], (tsI4.leaves y986.1), [], (tsI3.leaves y1006)], [], 65⟩ := by kernel_rfl
def ref15_Sizes_l7_p : Option ((Int × Int × Int × Int) ⊕ (Int × Int × Int × Int)) := (bif (decide (s1004.1 < (in_.length : Int))) then (Option.bind (ref15_Sizes_r9_p in_ y986 s1004) (fun y1006 : (Int × Int × Int) => (some (Sum.inl ((IntKind.wrap .i64 (s1004.1 + 1)), y1006.1, y1006.2.1, y1006.2.2))))) else (some (Sum.inr s1004)))
abbrev S64_7 : St := ⟨[(1, rl tsI4 in_), (8, rF 0), (10, rF 1), (14, rF 3), (15, ri y1007.1)], [[di 0, di 0, di 0], (tsI4.leaves y986.1), [], (tsI3.leaves y1007.2)], [], 65⟩
theorem ref15_Sizes_l7_b : R64 C64.r.r.r.r.r.l.r.b.b (S64_5 in_ y986 s1004) (loopKont 4 q) = Option.bind (ref15_Sizes_l7_p in_ y986 s1004) (either (fun y : (Int × Int × Int × Int) => q .normal ⟨[(1, rl tsI4 in_), (8, rF 0), (10, rF 1), (14, rF 3), (15, ri y.1)], [[di 0, di 0, di 0], (tsI4.leaves y986.1), [], (tsI3.leaves y.2)], [], 65⟩) (fun y1007 : (Int × Int × Int × Int) => q (.exit 0) (S64_7 in_ y986 y1007))) := by
  refine .trans ?_ (bif_b (bind_b fun y1006 => e2_0) e2_1)
  refine .trans seq_push ?_
  refine (pre1 (ref15_Sizes_fzx1 in_ y986 s1004 _)).trans ?_
  refine (cond_e (b := (decide (s1004.1 < (in_.length : Int)))) (st' := (S64_5 in_ y986 s1004)) ).trans (bif_g ?_ ?_)
  · refine (skip_eq).trans ?_
    refine (seqC_normal (st' := (S64_5 in_ y986 s1004))).trans ?_
    refine .trans seq_push ?_
    refine (block_push (id := 1)).trans ?_
    refine (ref15_Sizes_r9 in_ y986 s1004 _).trans (bind_g fun y1006 => ?_)
    refine block_normal.trans ?_
    refine (seqC_normal (st' := (S64_6 in_ y986 s1004 y1006))).trans ?_
    refine (ref15_Sizes_r8 in_ y986 s1004 y1006 _).trans ?_
    kernel_rfl
  · refine ((exit_eq (j := 0))).trans ?_
    refine seqC_exit.trans ?_
    kernel_rfl
theorem ref15_Sizes_l7 : R64 C64.r.r.r.r.r.l.r.b (S64_4 in_ rows y986 y987) q = Option.bind (iterN (ref15_Sizes_l7_p in_ y986) LL ((0 : Int), (0 : Int), (0 : Int), (IntKind.wrap .i64 (rows * (ref02_Row (y987.1.1, y987.1.2.1, y987.1.2.2.1)))))) (fun y1007 : (Int × Int × Int × Int) => q (.exit 0) (S64_7 in_ y986 y1007)) :=
  Eq.trans (by kernel_rfl) (loop_iter1 (S := fun s1004 : (Int × Int × Int × Int) => (S64_5 in_ y986 s1004)) (Y1 := fun y1007 : (Int × Int × Int × Int) => ((.exit 0), (S64_7 in_ y986 y1007))) (fun s q => ref15_Sizes_l7_b in_ y986 s q) (fun z => rfl) LL ((0 : Int), (0 : Int), (0 : Int), (IntKind.wrap .i64 (rows * (ref02_Row (y987.1.1, y987.1.2.1, y987.1.2.2.1))))))
abbrev S64_8 : St := ⟨[(8, rF 0), (14, rF 3)], [[di 0, di 0, di 0], (tsI4.leaves y986.1), [], (tsI3.leaves y1007.2)], [], 65⟩
theorem ref15_Sizes_fzx2 : P64 1 C64.r.r.r.r.r.r (S64_8 y986 y1007) k = k ⟨[(8, rF 0), (9, ri 0)], [(tsI3.leaves y1007.2), (tsI4.leaves y986.1), [], []], [], 65⟩ := by kernel_rfl
/-- quilt/quiltref15.Sizes -/
def ref15_Sizes : Option (I3 × Int) := (Option.bind (ref05_Needs n_ in_ first rows) (fun y986 : (I4 × Int) => (bif (y986.2 != 0) then (some (((0 : Int), (0 : Int), (0 : Int)), y986.2)) else (Option.bind (ref03_Value n_ in_) (fun y987 : (I4 × Int) => (Option.bind (iterN (ref15_Sizes_l7_p in_ y986) LL ((0 : Int), (0 : Int), (0 : Int), (IntKind.wrap .i64 (rows * (ref02_Row (y987.1.1, y987.1.2.1, y987.1.2.2.1)))))) (fun y1007 : (Int × Int × Int × Int) => (some (y1007.2, (0 : Int))))))))))
theorem ref15_Sizes_is : stepS E cp64 noE 32 [rA tsNode n_, rl tsI4 in_, ri first, ri rows] = Option.bind (ref15_Sizes n_ in_ first rows) (fun y : (I3 × Int) => some (.tup [rA tsI3 y.1, ri y.2] : R)) := by
  refine .trans ?_ (bind_b fun y986 => (bif_b some_b (bind_b fun y987 => (bind_b fun y1007 => some_b))))
  refine (stepG_is (nt := 65) (regs := [(0, rA tsNode n_), (1, rl tsI4 in_), (2, ri first), (3, ri rows)])).trans ?_
  refine (pre2 (ref15_Sizes_r1 n_ in_ first rows _)).trans (bind_g fun y986 => ?_)
  refine .trans seq_push ?_
  refine (pre1 (ref15_Sizes_f1000003 n_ in_ rows y986 _)).trans ?_
  refine (cond_e (b := (y986.2 != 0)) (st' := (S64_0 n_ in_ rows y986)) ).trans (bif_g ?_ ?_)
  · refine (pre1 (ref15_Sizes_fz n_ in_ rows y986 _)).trans ?_
    refine (ret_eq).trans ?_
    refine seqC_ret.trans ?_
    kernel_rfl
  · refine (skip_eq).trans ?_
    refine (seqC_normal (st' := (S64_1 n_ in_ rows y986))).trans ?_
    refine (pre1 (ref15_Sizes_r4 n_ in_ rows y986 _)).trans (bind_g fun y987 => ?_)
    refine (pre1 (ref15_Sizes_f6 in_ rows y986 y987 _)).trans ?_
    refine .trans seq_push ?_
    refine (pre1 (ref15_Sizes_f7 in_ rows y986 y987 _)).trans ?_
    refine (block_push (id := 0)).trans ?_
    refine (ref15_Sizes_l7 in_ rows y986 y987 _).trans (bind_g fun y1007 => ?_)
    refine block_same.trans ?_
    refine (seqC_normal (st' := (S64_8 y986 y1007))).trans ?_
    refine (pre1 (ref15_Sizes_fzx2 y986 y1007 _)).trans ?_
    refine (ret_eq).trans ?_
    kernel_rfl
noncomputable def cp65 : CallP := withC cp64 32 [(.agg tsNode), (pL tsI4), pI, pI] (.tup [(.agg tsI3), pI]) (fun y : (I3 × Int) => (y.1, y.2, ())) (fun x => ref15_Sizes x.1 x.2.1 x.2.2.1 x.2.2.2.1)
theorem cp65_ok : PureOK E cp65 := conS eok cp64_ok noE_ok fun x => Eq.mp (by kernel_rfl) (ref15_Sizes_is x.1 x.2.1 x.2.2.1 x.2.2.2.1)
end
section
variable {α β : Type} (n_ : Node) (in_ : (List I4)) (rows : Int) (y745 : (I4 × Int)) (y760 : (List I2)) (s1071 : (Int × Int × Int × Int)) (y1083 : (Int × Int × Int)) (s1088 : (Int × Int × Int × Int)) (y1090 : (Int × Int × Int)) (y1091 : (Int × Int × Int × Int)) (y1092 : (Int × Int × Int × Int)) (k : St → Option α) (q : Kont α)
noncomputable abbrev C65 := codeOf E.P 20
noncomputable abbrev P65 := @preK α E 20 cp65 noE
noncomputable abbrev R65 := @runCode α E 20 cp65 noE
abbrev S65_0 : St := ⟨[(1, rl tsI4 in_), (2, ri rows), (3, rC tsNode n_), (6, rF 0), (8, rF 1), (9, ri y745.2)], [[di 0, di 0, di 0], (tsI4.leaves y745.1)], [], 78⟩
theorem ref15_Most_r1 : P65 2 C65 ⟨[(0, rA tsNode n_), (1, rl tsI4 in_), (2, ri rows)], [], [], 78⟩ k = Option.bind (ref03_Value n_ in_) fun y745 : (I4 × Int) => k (S65_0 n_ in_ rows y745) := by kernel_rfl
theorem ref15_Most_f1000003 : P65 1 C65.r.r.l (S65_0 n_ in_ rows y745) k = k ⟨[(1, rl tsI4 in_), (2, ri rows), (3, rC tsNode n_), (6, rF 0), (8, rF 1), (9, ri y745.2), (23, rb (y745.2 != 0))], [[di 0, di 0, di 0], (tsI4.leaves y745.1)], [], 78⟩ := by kernel_rfl
theorem ref15_Most_fz : P65 1 C65.r.r.l.r.t (S65_0 n_ in_ rows y745) k = k ⟨[(6, rF 0), (7, ri y745.2)], [[di 0, di 0, di 0], []], [], 78⟩ := by kernel_rfl
def ref15_Most_r4_q (K : Bool → β) : β := (bif (decide (rows < 1)) then (K true) else (K (decide (rows > y745.1.1))))
def ref15_Most_r4_p : Bool := ref15_Most_r4_q rows y745 (fun y => y)
theorem ref15_Most_r4_n (K : Bool → β) : ref15_Most_r4_q rows y745 K = K (ref15_Most_r4_p rows y745) := (bif_k K rfl rfl)
abbrev S65_1 : St := ⟨[(1, rl tsI4 in_), (2, ri rows), (3, rC tsNode n_), (6, rF 0), (8, rF 1)], [[di 0, di 0, di 0], (tsI4.leaves y745.1)], [], 78⟩
theorem ref15_Most_r4 : P65 1 C65.r.r.r.l (S65_1 n_ in_ rows y745) k = k ⟨[(1, rl tsI4 in_), (2, ri rows), (3, rC tsNode n_), (6, rF 0), (8, rF 1), (34, rb (ref15_Most_r4_p rows y745))], [[di 0, di 0, di 0], (tsI4.leaves y745.1)], [], 78⟩ := Eq.trans (by kernel_rfl) (ref15_Most_r4_n rows y745 (fun y747 : Bool => k ⟨[(1, rl tsI4 in_), (2, ri rows), (3, rC tsNode n_), (6, rF 0), (8, rF 1), (34, rb y747)], [[di 0, di 0, di 0], (tsI4.leaves y745.1)], [], 78⟩))
theorem ref15_Most_fzx1 : P65 1 C65.r.r.r.l.r.t (S65_1 n_ in_ rows y745) k = k ⟨[(6, rF 0), (7, ri 1)], [[di 0, di 0, di 0], []], [], 78⟩ := by kernel_rfl
abbrev S65_2 : St := ⟨[(1, rl tsI4 in_), (3, rC tsNode n_), (6, rF 0), (10, rF 2), (11, rO tsI2 y760 11)], [[di 0, di 0, di 0], [], [di 0, di 0, di 0]], [], 78⟩
theorem ref15_Most_r7 : P65 2 C65.r.r.r.r (S65_1 n_ in_ rows y745) k = Option.bind (ref15_Tiles y745.1.1 rows) fun y760 : (List I2) => k (S65_2 n_ in_ y760) := by kernel_rfl
abbrev S65_3 : St := ⟨[(1, rl tsI4 in_), (3, rC tsNode n_), (6, rF 0), (10, rF 2), (11, rO tsI2 y760 11), (12, ri 0)], [[di 0, di 0, di 0], [], [di 0, di 0, di 0]], [], 78⟩
theorem ref15_Most_f9 : P65 1 C65.r.r.r.r.r.r.l (S65_2 n_ in_ y760) k = k (S65_3 n_ in_ y760) := by kernel_rfl
abbrev S65_4 : St := ⟨[(1, rl tsI4 in_), (3, rC tsNode n_), (6, rF 0), (10, rF 2), (11, rO tsI2 y760 11), (12, ri s1071.1)], [[di 0, di 0, di 0], [], (tsI3.leaves s1071.2)], [], 78⟩
theorem ref15_Most_fzx2 : P65 1 C65.r.r.r.r.r.r.l.r.b.b.l (S65_4 n_ in_ y760 s1071) k = k ⟨[(1, rl tsI4 in_), (3, rC tsNode n_), (6, rF 0), (10, rF 2), (11, rO tsI2 y760 11), (12, ri s1071.1), (45, rb (decide (s1071.1 < (y760.length : Int))))], [[di 0, di 0, di 0], [], (tsI3.leaves s1071.2)], [], 78⟩ := by kernel_rfl
def ref15_Most_r11_p : Option (Int × Int × Int) := (bif (decide ((0 : Int) ≤ s1071.1)) then (bif (decide (s1071.1 < (y760.length : Int))) then (bif (decide ((0 : Int) ≤ s1071.1)) then (bif (decide (s1071.1 < (y760.length : Int))) then (Option.bind (ref15_Sizes n_ in_ ((gt y760 s1071.1 dI2).1) ((gt y760 s1071.1 dI2).2)) (fun y1082 : (I3 × Int) => (some y1082.1))) else none) else none) else none) else none)
abbrev S65_5 : St := ⟨[(1, rl tsI4 in_), (3, rC tsNode n_), (6, rF 0), (10, rF 2), (11, rO tsI2 y760 11), (12, ri s1071.1), (13, rF 3)], [[di 0, di 0, di 0], [], (tsI3.leaves s1071.2), (tsI3.leaves y1083)], [], 78⟩
theorem ref15_Most_r11 : P65 1 C65.r.r.r.r.r.r.l.r.b.b.r.l.b (S65_4 n_ in_ y760 s1071) k = Option.bind (ref15_Most_r11_p n_ in_ y760 s1071) (fun y1083 : (Int × Int × Int) => k (S65_5 n_ in_ y760 s1071 y1083)) := .trans (by kernel_rfl) (bif_b (bif_b (bif_b (bif_b (bind_b fun y1082 => some_b) none_b) none_b) none_b) none_b)
abbrev S65_6 : St := ⟨[(1, rl tsI4 in_), (3, rC tsNode n_), (6, rF 0), (10, rF 2), (11, rO tsI2 y760 11), (12, ri s1071.1), (13, rF 3), (15, ri 0)], [[di 0, di 0, di 0], [], (tsI3.leaves s1071.2), (tsI3.leaves y1083)], [], 78⟩
theorem ref15_Most_f13 : P65 1 C65.r.r.r.r.r.r.l.r.b.b.r.l.b.r (S65_5 n_ in_ y760 s1071 y1083) k = k (S65_6 n_ in_ y760 s1071 y1083) := by kernel_rfl
abbrev S65_7 : St := ⟨[(1, rl tsI4 in_), (3, rC tsNode n_), (6, rF 0), (10, rF 2), (11, rO tsI2 y760 11), (12, ri s1071.1), (13, rF 3), (15, ri s1088.1)], [[di 0, di 0, di 0], [], (tsI3.leaves s1088.2), (tsI3.leaves y1083)], [], 78⟩
theorem ref15_Most_fzx3 : P65 1 C65.r.r.r.r.r.r.l.r.b.b.r.l.b.r.r.b.b.l (S65_7 n_ in_ y760 s1071 y1083 s1088) k = k ⟨[(1, rl tsI4 in_), (3, rC tsNode n_), (6, rF 0), (10, rF 2), (11, rO tsI2 y760 11), (12, ri s1071.1), (13, rF 3), (15, ri s1088.1), (65, rb (decide (s1088.1 < 3)))], [[di 0, di 0, di 0], [], (tsI3.leaves s1088.2), (tsI3.leaves y1083)], [], 78⟩ := by kernel_rfl
def ref15_Most_r15_p : Option (Int × Int × Int) := (bif (s1088.1 == 0) then (bif (s1088.1 == 0) then (bif (s1088.1 == 0) then (some ((max s1088.2.1 y1083.1), s1088.2.2.1, s1088.2.2.2)) else (bif (s1088.1 == 1) then (some (s1088.2.1, (max s1088.2.1 y1083.1), s1088.2.2.2)) else (bif (s1088.1 == 2) then (some (s1088.2.1, s1088.2.2.1, (max s1088.2.1 y1083.1))) else none))) else (bif (s1088.1 == 1) then (bif (s1088.1 == 0) then (some ((max s1088.2.1 y1083.2.1), s1088.2.2.1, s1088.2.2.2)) else (bif (s1088.1 == 1) then (some (s1088.2.1, (max s1088.2.1 y1083.2.1), s1088.2.2.2)) else (bif (s1088.1 == 2) then (some (s1088.2.1, s1088.2.2.1, (max s1088.2.1 y1083.2.1))) else none))) else (bif (s1088.1 == 2) then (bif (s1088.1 == 0) then (some ((max s1088.2.1 y1083.2.2), s1088.2.2.1, s1088.2.2.2)) else (bif (s1088.1 == 1) then (some (s1088.2.1, (max s1088.2.1 y1083.2.2), s1088.2.2.2)) else (bif (s1088.1 == 2) then (some (s1088.2.1, s1088.2.2.1, (max s1088.2.1 y1083.2.2))) else none))) else none))) else (bif (s1088.1 == 1) then (bif (s1088.1 == 0) then (bif (s1088.1 == 0) then (some ((max s1088.2.2.1 y1083.1), s1088.2.2.1, s1088.2.2.2)) else (bif (s1088.1 == 1) then (some (s1088.2.1, (max s1088.2.2.1 y1083.1), s1088.2.2.2)) else (bif (s1088.1 == 2) then (some (s1088.2.1, s1088.2.2.1, (max s1088.2.2.1 y1083.1))) else none))) else (bif (s1088.1 == 1) then (bif (s1088.1 == 0) then (some ((max s1088.2.2.1 y1083.2.1), s1088.2.2.1, s1088.2.2.2)) else (bif (s1088.1 == 1) then (some (s1088.2.1, (max s1088.2.2.1 y1083.2.1), s1088.2.2.2)) else (bif (s1088.1 == 2) then (some (s1088.2.1, s1088.2.2.1, (max s1088.2.2.1 y1083.2.1))) else none))) else (bif (s1088.1 == 2) then (bif (s1088.1 == 0) then (some ((max s1088.2.2.1 y1083.2.2), s1088.2.2.1, s1088.2.2.2)) else (bif (s1088.1 == 1) then (some (s1088.2.1, (max s1088.2.2.1 y1083.2.2), s1088.2.2.2)) else (bif (s1088.1 == 2) then (some (s1088.2.1, s1088.2.2.1, (max s1088.2.2.1 y1083.2.2))) else none))) else none))) else (bif (s1088.1 == 2) then (bif (s1088.1 == 0) then (bif (s1088.1 == 0) then (some ((max s1088.2.2.2 y1083.1), s1088.2.2.1, s1088.2.2.2)) else (bif (s1088.1 == 1) then (some (s1088.2.1, (max s1088.2.2.2 y1083.1), s1088.2.2.2)) else (bif (s1088.1 == 2) then (some (s1088.2.1, s1088.2.2.1, (max s1088.2.2.2 y1083.1))) else none))) else (bif (s1088.1 == 1) then (bif (s1088.1 == 0) then (some ((max s1088.2.2.2 y1083.2.1), s1088.2.2.1, s1088.2.2.2)) else (bif (s1088.1 == 1) then (some (s1088.2.1, (max s1088.2.2.2 y1083.2.1), s1088.2.2.2)) else (bif (s1088.1 == 2) then (some (s1088.2.1, s1088.2.2.1, (max s1088.2.2.2 y1083.2.1))) else none))) else (bif (s1088.1 == 2) then (bif (s1088.1 == 0) then (some ((max s1088.2.2.2 y1083.2.2), s1088.2.2.1, s1088.2.2.2)) else (bif (s1088.1 == 1) then (some (s1088.2.1, (max s1088.2.2.2 y1083.2.2), s1088.2.2.2)) else (bif (s1088.1 == 2) then (some (s1088.2.1, s1088.2.2.1, (max s1088.2.2.2 y1083.2.2))) else none))) else none))) else none)))
abbrev S65_8 : St := ⟨[(1, rl tsI4 in_), (3, rC tsNode n_), (6, rF 0), (10, rF 2), (11, rO tsI2 y760 11), (12, ri s1071.1), (13, rF 3), (15, ri s1088.1)], [[di 0, di 0, di 0], [], (tsI3.leaves y1090), (tsI3.leaves y1083)], [], 78⟩
theorem ref15_Most_r15 : R65 C65.r.r.r.r.r.r.l.r.b.b.r.l.b.r.r.b.b.r.l.b (S65_7 n_ in_ y760 s1071 y1083 s1088) q = Option.bind (ref15_Most_r15_p y1083 s1088) (fun y1090 : (Int × Int × Int) => q .normal (S65_8 n_ in_ y760 s1071 y1083 s1088 y1090)) := .trans (by kernel_rfl) (bif_b (bif_b (bif_b some_b (bif_b some_b (bif_b some_b none_b))) (bif_b (bif_b some_b (bif_b some_b (bif_b some_b none_b))) (bif_b (bif_b some_b (bif_b some_b (bif_b some_b none_b))) none_b))) (bif_b (bif_b (bif_b some_b (bif_b some_b (bif_b some_b none_b))) (bif_b (bif_b some_b (bif_b some_b (bif_b some_b none_b))) (bif_b (bif_b some_b (bif_b some_b (bif_b some_b none_b))) none_b))) (bif_b (bif_b (bif_b some_b (bif_b some_b (bif_b some_b none_b))) (bif_b (bif_b some_b (bif_b some_b (bif_b some_b none_b))) (bif_b (bif_b some_b (bif_b some_b (bif_b some_b none_b))) none_b))) none_b)))
theorem ref15_Most_r14 : R65 C65.r.r.r.r.r.r.l.r.b.b.r.l.b.r.r.b.b.r.r (S65_8 n_ in_ y760 s1071 y1083 s1088 y1090) q = q .normal ⟨[(1, rl tsI4 in_), (3, rC tsNode n_), (6, rF 0), (10, rF 2), (11, rO tsI2 y760 11), (12, ri s1071.1), (13, rF 3), (15, ri (IntKind.wrap .i64 (s1088.1 + 1)))], [[di 0, di 0, di 0], [], (tsI3.leaves y1090), (tsI3.leaves y1083)], [], 78⟩ := by kernel_rfl
def ref15_Most_l13_p : Option ((Int × Int × Int × Int) ⊕ (Int × Int × Int × Int)) := (bif (decide (s1088.1 < 3)) then (Option.bind (ref15_Most_r15_p y1083 s1088) (fun y1090 : (Int × Int × Int) => (some (Sum.inl ((IntKind.wrap .i64 (s1088.1 + 1)), y1090.1, y1090.2.1, y1090.2.2))))) else (some (Sum.inr s1088)))
abbrev S65_9 : St := ⟨[(1, rl tsI4 in_), (3, rC tsNode n_), (6, rF 0), (10, rF 2), (11, rO tsI2 y760 11), (12, ri s1071.1), (13, rF 3), (15, ri y1091.1)], [[di 0, di 0, di 0], [], (tsI3.leaves y1091.2), (tsI3.leaves y1083)], [], 78⟩
theorem ref15_Most_l13_b : R65 C65.r.r.r.r.r.r.l.r.b.b.r.l.b.r.r.b.b (S65_7 n_ in_ y760 s1071 y1083 s1088) (loopKont 4 q) = Option.bind (ref15_Most_l13_p y1083 s1088) (either (fun y : (Int × Int × Int × Int) => q .normal ⟨[(1, rl tsI4 in_), (3, rC tsNode n_), (6, rF 0), (10, rF 2), (11, rO tsI2 y760 11), (12, ri s1071.1), (13, rF 3), (15, ri y.1)], [[di 0, di 0, di 0], [], (tsI3.leaves y.2), (tsI3.leaves y1083)], [], 78⟩) (fun y1091 : (Int × Int × Int × Int) => q (.exit 2) (S65_9 n_ in_ y760 s1071 y1083 y1091))) := by
  refine .trans ?_ (bif_b (bind_b fun y1090 => e2_0) e2_1)
  refine .trans seq_push ?_
  refine (pre1 (ref15_Most_fzx3 n_ in_ y760 s1071 y1083 s1088 _)).trans ?_
  refine (cond_e (b := (decide (s1088.1 < 3))) (st' := (S65_7 n_ in_ y760 s1071 y1083 s1088)) ).trans (bif_g ?_ ?_)
  · refine (skip_eq).trans ?_
    refine (seqC_normal (st' := (S65_7 n_ in_ y760 s1071 y1083 s1088))).trans ?_
    refine .trans seq_push ?_
    refine (block_push (id := 3)).trans ?_
    refine (ref15_Most_r15 n_ in_ y760 s1071 y1083 s1088 _).trans (bind_g fun y1090 => ?_)
    refine block_normal.trans ?_
    refine (seqC_normal (st' := (S65_8 n_ in_ y760 s1071 y1083 s1088 y1090))).trans ?_
    refine (ref15_Most_r14 n_ in_ y760 s1071 y1083 s1088 y1090 _).trans ?_
    kernel_rfl
  · refine ((exit_eq (j := 2))).trans ?_
    refine seqC_exit.trans ?_
    kernel_rfl
theorem ref15_Most_l13 : R65 C65.r.r.r.r.r.r.l.r.b.b.r.l.b.r.r.b (S65_6 n_ in_ y760 s1071 y1083) q = Option.bind (iterN (ref15_Most_l13_p y1083) LL ((0 : Int), s1071.2.1, s1071.2.2.1, s1071.2.2.2)) (fun y1091 : (Int × Int × Int × Int) => q (.exit 2) (S65_9 n_ in_ y760 s1071 y1083 y1091)) :=
  Eq.trans (by kernel_rfl) (loop_iter1 (S := fun s1088 : (Int × Int × Int × Int) => (S65_7 n_ in_ y760 s1071 y1083 s1088)) (Y1 := fun y1091 : (Int × Int × Int × Int) => ((.exit 2), (S65_9 n_ in_ y760 s1071 y1083 y1091))) (fun s q => ref15_Most_l13_b n_ in_ y760 s1071 y1083 s q) (fun z => rfl) LL ((0 : Int), s1071.2.1, s1071.2.2.1, s1071.2.2.2))
abbrev S65_10 : St := ⟨[(1, rl tsI4 in_), (3, rC tsNode n_), (6, rF 0), (10, rF 2), (11, rO tsI2 y760 11), (12, ri s1071.1)], [[di 0, di 0, di 0], [], (tsI3.leaves y1091.2), (tsI3.leaves y1083)], [], 78⟩
theorem ref15_Most_r10 : R65 C65.r.r.r.r.r.r.l.r.b.b.r.r (S65_10 n_ in_ y760 s1071 y1083 y1091) q = q .normal ⟨[(1, rl tsI4 in_), (3, rC tsNode n_), (6, rF 0), (10, rF 2), (11, rO tsI2 y760 11), (12, ri (IntKind.wrap .i64 (s1071.1 + 1)))], [[di 0, di 0, di 0], [], (tsI3.leaves y1091.2), (tsI3.leaves y1083)], [], 78⟩ := by kernel_rfl
def ref15_Most_l9_p : Option ((Int × Int × Int × Int) ⊕ (Int × Int × Int × Int)) := (bif (decide (s1071.1 < (y760.length : Int))) then (Option.bind (ref15_Most_r11_p n_ in_ y760 s1071) (fun y1083 : (Int × Int × Int) => (Option.bind (iterN (ref15_Most_l13_p y1083) LL ((0 : Int), s1071.2.1, s1071.2.2.1, s1071.2.2.2)) (fun y1091 : (Int × Int × Int × Int) => (some (Sum.inl ((IntKind.wrap .i64 (s1071.1 + 1)), y1091.2.1, y1091.2.2.1, y1091.2.2.2))))))) else (some (Sum.inr s1071)))
abbrev S65_11 : St := ⟨[(1, rl tsI4 in_), (3, rC tsNode n_), (6, rF 0), (10, rF 2), (11, rO tsI2 y760 11), (12, ri y1092.1)], [[di 0, di 0, di 0], [], (tsI3.leaves y1092.2)], [], 78⟩
theorem ref15_Most_l9_b : R65 C65.r.r.r.r.r.r.l.r.b.b (S65_4 n_ in_ y760 s1071) (loopKont 3 q) = Option.bind (ref15_Most_l9_p n_ in_ y760 s1071) (either (fun y : (Int × Int × Int × Int) => q .normal ⟨[(1, rl tsI4 in_), (3, rC tsNode n_), (6, rF 0), (10, rF 2), (11, rO tsI2 y760 11), (12, ri y.1)], [[di 0, di 0, di 0], [], (tsI3.leaves y.2)], [], 78⟩) (fun y1092 : (Int × Int × Int × Int) => q (.exit 0) (S65_11 n_ in_ y760 y1092))) := by
  refine .trans ?_ (bif_b (bind_b fun y1083 => (bind_b fun y1091 => e2_0)) e2_1)
  refine .trans seq_push ?_
  refine (pre1 (ref15_Most_fzx2 n_ in_ y760 s1071 _)).trans ?_
  refine (cond_e (b := (decide (s1071.1 < (y760.length : Int)))) (st' := (S65_4 n_ in_ y760 s1071)) ).trans (bif_g ?_ ?_)
  · refine (skip_eq).trans ?_
    refine (seqC_normal (st' := (S65_4 n_ in_ y760 s1071))).trans ?_
    refine .trans seq_push ?_
    refine (block_push (id := 1)).trans ?_
    refine (pre1 (ref15_Most_r11 n_ in_ y760 s1071 _)).trans (bind_g fun y1083 => ?_)
    refine (pre1 (ref15_Most_f13 n_ in_ y760 s1071 y1083 _)).trans ?_
    refine (block_push (id := 2)).trans ?_
    refine (ref15_Most_l13 n_ in_ y760 s1071 y1083 _).trans (bind_g fun y1091 => ?_)
    refine block_same.trans ?_
    refine block_normal.trans ?_
    refine (seqC_normal (st' := (S65_10 n_ in_ y760 s1071 y1083 y1091))).trans ?_
    refine (ref15_Most_r10 n_ in_ y760 s1071 y1083 y1091 _).trans ?_
    kernel_rfl
  · refine ((exit_eq (j := 0))).trans ?_
    refine seqC_exit.trans ?_
    kernel_rfl
theorem ref15_Most_l9 : R65 C65.r.r.r.r.r.r.l.r.b (S65_3 n_ in_ y760) q = Option.bind (iterN (ref15_Most_l9_p n_ in_ y760) LL ((0 : Int), (0 : Int), (0 : Int), (0 : Int))) (fun y1092 : (Int × Int × Int × Int) => q (.exit 0) (S65_11 n_ in_ y760 y1092)) :=
  Eq.trans (by kernel_rfl) (loop_iter1 (S := fun s1071 : (Int × Int × Int × Int) => (S65_4 n_ in_ y760 s1071)) (Y1 := fun y1092 : (Int × Int × Int × Int) => ((.exit 0), (S65_11 n_ in_ y760 y1092))) (fun s q => ref15_Most_l9_b n_ in_ y760 s q) (fun z => rfl) LL ((0 : Int), (0 : Int), (0 : Int), (0 : Int)))
abbrev S65_12 : St := ⟨[(6, rF 0), (10, rF 2)], [[di 0, di 0, di 0], [], (tsI3.leaves y1092.2)], [], 78⟩
theorem ref15_Most_fzx4 : P65 1 C65.r.r.r.r.r.r.r (S65_12 y1092) k = k ⟨[(6, rF 0), (7, ri 0)], [(tsI3.leaves y1092.2), [], []], [], 78⟩ := by kernel_rfl
/-- quilt/quiltref15.Most -/
def ref15_Most : Option (I3 × Int) := (Option.bind (ref03_Value n_ in_) (fun y745 : (I4 × Int) => (bif (y745.2 != 0) then (some (((0 : Int), (0 : Int), (0 : Int)), y745.2)) else (bif (ref15_Most_r4_p rows y745) then (some (((0 : Int), (0 : Int), (0 : Int)), (1 : Int))) else (Option.bind (ref15_Tiles y745.1.1 rows) (fun y760 : (List I2) => (Option.bind (iterN (ref15_Most_l9_p n_ in_ y760) LL ((0 : Int), (0 : Int), (0 : Int), (0 : Int))) (fun y1092 : (Int × Int × Int × Int) => (some (y1092.2, (0 : Int)))))))))))
theorem ref15_Most_is : stepS E cp65 noE 20 [rA tsNode n_, rl tsI4 in_, ri rows] = Option.bind (ref15_Most n_ in_ rows) (fun y : (I3 × Int) => some (.tup [rA tsI3 y.1, ri y.2] : R)) := by
  refine .trans ?_ (bind_b fun y745 => (bif_b some_b (bif_b some_b (bind_b fun y760 => (bind_b fun y1092 => some_b)))))
  refine (stepG_is (nt := 78) (regs := [(0, rA tsNode n_), (1, rl tsI4 in_), (2, ri rows)])).trans ?_
  refine (pre2 (ref15_Most_r1 n_ in_ rows _)).trans (bind_g fun y745 => ?_)
  refine .trans seq_push ?_
  refine (pre1 (ref15_Most_f1000003 n_ in_ rows y745 _)).trans ?_
  refine (cond_e (b := (y745.2 != 0)) (st' := (S65_0 n_ in_ rows y745)) ).trans (bif_g ?_ ?_)
  · refine (pre1 (ref15_Most_fz n_ in_ rows y745 _)).trans ?_
    refine (ret_eq).trans ?_
    refine seqC_ret.trans ?_
    kernel_rfl
  · refine (skip_eq).trans ?_
    refine (seqC_normal (st' := (S65_1 n_ in_ rows y745))).trans ?_
    refine .trans seq_push ?_
    refine (pre1 (ref15_Most_r4 n_ in_ rows y745 _)).trans ?_
    refine (cond_e (b := (ref15_Most_r4_p rows y745)) (st' := (S65_1 n_ in_ rows y745)) ).trans (bif_g ?_ ?_)
    · refine (pre1 (ref15_Most_fzx1 n_ in_ rows y745 _)).trans ?_
      refine (ret_eq).trans ?_
      refine seqC_ret.trans ?_
      kernel_rfl
    · refine (skip_eq).trans ?_
      refine (seqC_normal (st' := (S65_1 n_ in_ rows y745))).trans ?_
      refine (pre2 (ref15_Most_r7 n_ in_ rows y745 _)).trans (bind_g fun y760 => ?_)
      refine .trans seq_push ?_
      refine (pre1 (ref15_Most_f9 n_ in_ y760 _)).trans ?_
      refine (block_push (id := 0)).trans ?_
      refine (ref15_Most_l9 n_ in_ y760 _).trans (bind_g fun y1092 => ?_)
      refine block_same.trans ?_
      refine (seqC_normal (st' := (S65_12 y1092))).trans ?_
      refine (pre1 (ref15_Most_fzx4 y1092 _)).trans ?_
      refine (ret_eq).trans ?_
      kernel_rfl
noncomputable def cp66 : CallP := withC cp65 20 [(.agg tsNode), (pL tsI4), pI] (.tup [(.agg tsI3), pI]) (fun y : (I3 × Int) => (y.1, y.2, ())) (fun x => ref15_Most x.1 x.2.1 x.2.2.1)
theorem cp66_ok : PureOK E cp66 := conS eok cp65_ok noE_ok fun x => Eq.mp (by kernel_rfl) (ref15_Most_is x.1 x.2.1 x.2.2.1)
end
section
variable {α β : Type} (n_ : Node) (in_ : (List I4)) (rows : Int) (y1093 : (I3 × Int)) (k : St → Option α)
noncomputable abbrev C66 := codeOf E.P 16
noncomputable abbrev P66 := @preK α E 16 cp66 noE
abbrev S66_0 : St := ⟨[(8, rF 0), (9, ri y1093.2)], [(tsI3.leaves y1093.1)], [], 27⟩
theorem ref16_Need_r1 : P66 2 C66 ⟨[(0, rA tsNode n_), (1, rl tsI4 in_), (2, ri rows)], [], [], 27⟩ k = Option.bind (ref15_Most n_ in_ rows) fun y1093 : (I3 × Int) => k (S66_0 y1093) := by kernel_rfl
def ref16_Need_r2_q (K : Int → β) : β := (K (IntKind.wrap .i64 ((2 : Int) * (IntKind.wrap .i64 ((IntKind.wrap .i64 (y1093.1.1 + y1093.1.2.1)) + y1093.1.2.2)))))
def ref16_Need_r2_p : Int := ref16_Need_r2_q y1093 (fun y => y)
theorem ref16_Need_r2_n (K : Int → β) : ref16_Need_r2_q y1093 K = K (ref16_Need_r2_p y1093) := rfl
theorem ref16_Need_r2 : P66 1 C66.r.r (S66_0 y1093) k = k ⟨[(6, ri (ref16_Need_r2_p y1093)), (7, ri y1093.2)], [[]], [], 27⟩ := Eq.trans (by kernel_rfl) (ref16_Need_r2_n y1093 (fun y1094 : Int => k ⟨[(6, ri y1094), (7, ri y1093.2)], [[]], [], 27⟩))
/-- quilt/quiltref16.Need -/
def ref16_Need : Option (Int × Int) := (Option.bind (ref15_Most n_ in_ rows) (fun y1093 : (I3 × Int) => (some ((ref16_Need_r2_p y1093), y1093.2))))
theorem ref16_Need_is : stepS E cp66 noE 16 [rA tsNode n_, rl tsI4 in_, ri rows] = Option.bind (ref16_Need n_ in_ rows) (fun y : (Int × Int) => some (.tup [ri y.1, ri y.2] : R)) := by
  refine .trans ?_ (bind_b fun y1093 => some_b)
  refine (stepG_is (nt := 27) (regs := [(0, rA tsNode n_), (1, rl tsI4 in_), (2, ri rows)])).trans ?_
  refine (pre2 (ref16_Need_r1 n_ in_ rows _)).trans (bind_g fun y1093 => ?_)
  refine (pre1 (ref16_Need_r2 y1093 _)).trans ?_
  refine (ret_eq).trans ?_
  kernel_rfl
noncomputable def cp67 : CallP := withC cp66 16 [(.agg tsNode), (pL tsI4), pI] (.tup [pI, pI]) (fun y : (Int × Int) => (y.1, y.2, ())) (fun x => ref16_Need x.1 x.2.1 x.2.2.1)
theorem cp67_ok : PureOK E cp67 := conS eok cp66_ok noE_ok fun x => Eq.mp (by kernel_rfl) (ref16_Need_is x.1 x.2.1 x.2.2.1)
end
section
variable {α : Type} (n_ : Node) (in_ : (List I4)) (y1097 : (I4 × Int)) (s1120 : (Int × Int)) (y1125 : (Int × Int)) (y1126 : Int) (y1127 : (Int × Int)) (k : St → Option α) (q : Kont α)
noncomputable abbrev C67 := codeOf E.P 17
noncomputable abbrev P67 := @preK α E 17 cp67 noE
noncomputable abbrev R67 := @runCode α E 17 cp67 noE
noncomputable abbrev Q67 := @seqC α E 17 cp67 noE
abbrev S67_0 : St := ⟨[(1, rl tsI4 in_), (2, rC tsNode n_), (6, rF 0), (7, ri y1097.2)], [(tsI4.leaves y1097.1)], [], 44⟩
theorem ref16_Best_r1 : P67 2 C67 ⟨[(0, rA tsNode n_), (1, rl tsI4 in_)], [], [], 44⟩ k = Option.bind (ref03_Value n_ in_) fun y1097 : (I4 × Int) => k (S67_0 n_ in_ y1097) := by kernel_rfl
theorem ref16_Best_f1000003 : P67 1 C67.r.r.l (S67_0 n_ in_ y1097) k = k ⟨[(1, rl tsI4 in_), (2, rC tsNode n_), (6, rF 0), (7, ri y1097.2), (19, rb (y1097.2 != 0))], [(tsI4.leaves y1097.1)], [], 44⟩ := by kernel_rfl
theorem ref16_Best_fz : P67 1 C67.r.r.l.r.t (S67_0 n_ in_ y1097) k = k ⟨[(4, ri 0), (5, ri y1097.2)], [[]], [], 44⟩ := by kernel_rfl
abbrev S67_1 : St := ⟨[(1, rl tsI4 in_), (2, rC tsNode n_), (6, rF 0)], [(tsI4.leaves y1097.1)], [], 44⟩
abbrev S67_2 : St := ⟨[(1, rl tsI4 in_), (2, rC tsNode n_), (6, rF 0), (8, ri 0)], [(tsI4.leaves y1097.1)], [], 44⟩
theorem ref16_Best_f5 : P67 1 C67.r.r.r (S67_1 n_ in_ y1097) k = k (S67_2 n_ in_ y1097) := by kernel_rfl
abbrev S67_3 : St := ⟨[(1, rl tsI4 in_), (2, rC tsNode n_), (6, rF 0), (8, ri 0), (9, ri 1)], [(tsI4.leaves y1097.1)], [], 44⟩
theorem ref16_Best_f6 : P67 1 C67.r.r.r.r.l (S67_2 n_ in_ y1097) k = k (S67_3 n_ in_ y1097) := by kernel_rfl
def ref16_Best_r6_p : Option Bool := (bif (decide (s1120.2 ≤ y1097.1.1)) then (Option.bind (ref15_Npu n_.1) (fun y1123 : Bool => (some y1123))) else (some false))
abbrev S67_4 : St := ⟨[(1, rl tsI4 in_), (2, rC tsNode n_), (6, rF 0), (8, ri s1120.1), (9, ri s1120.2)], [(tsI4.leaves y1097.1)], [], 44⟩
theorem ref16_Best_r6 : P67 1 C67.r.r.r.r.l.r.b.b.l (S67_4 n_ in_ y1097 s1120) k = Option.bind (ref16_Best_r6_p n_ y1097 s1120) (fun y1124 : Bool => k ⟨[(1, rl tsI4 in_), (2, rC tsNode n_), (6, rF 0), (8, ri s1120.1), (9, ri s1120.2), (30, rb y1124)], [(tsI4.leaves y1097.1)], [], 44⟩) := .trans (by kernel_rfl) (bif_b (bind_b fun y1123 => some_b) some_b)
abbrev S67_5 : St := ⟨[(1, rl tsI4 in_), (2, rC tsNode n_), (6, rF 0), (8, ri s1120.1), (9, ri s1120.2), (10, ri y1125.1)], [(tsI4.leaves y1097.1)], [], 44⟩
theorem ref16_Best_r8 : P67 1 C67.r.r.r.r.l.r.b.b.r.l.b (S67_4 n_ in_ y1097 s1120) k = Option.bind (ref16_Need n_ in_ s1120.2) fun y1125 : (Int × Int) => k (S67_5 n_ in_ y1097 s1120 y1125) := by kernel_rfl
theorem ref16_Best_f1000010 : P67 1 C67.r.r.r.r.l.r.b.b.r.l.b.r (S67_5 n_ in_ y1097 s1120 y1125) k = k ⟨[(1, rl tsI4 in_), (2, rC tsNode n_), (6, rF 0), (8, ri s1120.1), (9, ri s1120.2), (41, rb (decide (y1125.1 ≤ 1024)))], [(tsI4.leaves y1097.1)], [], 44⟩ := by kernel_rfl
abbrev S67_6 : St := ⟨[(1, rl tsI4 in_), (2, rC tsNode n_), (6, rF 0), (8, ri s1120.2), (9, ri s1120.2)], [(tsI4.leaves y1097.1)], [], 44⟩
theorem ref16_Best_r10 : R67 C67.r.r.r.r.l.r.b.b.r.l.b.r.r.t (S67_4 n_ in_ y1097 s1120) q = q .normal (S67_6 n_ in_ y1097 s1120) := by kernel_rfl
def ref16_Best_j8_p : Option Int := (Option.bind (ref16_Need n_ in_ s1120.2) (fun y1125 : (Int × Int) => (bif (decide (y1125.1 ≤ 1024)) then (some s1120.2) else (some s1120.1))))
abbrev S67_7 : St := ⟨[(1, rl tsI4 in_), (2, rC tsNode n_), (6, rF 0), (8, ri y1126), (9, ri s1120.2)], [(tsI4.leaves y1097.1)], [], 44⟩
theorem ref16_Best_j8 : R67 C67.r.r.r.r.l.r.b.b.r.l (S67_4 n_ in_ y1097 s1120) (Q67 C67.r.r.r.r.l.r.b.b.r.r q) = Option.bind (ref16_Best_j8_p n_ in_ s1120) (fun y1126 : Int => R67 C67.r.r.r.r.l.r.b.b.r.r (S67_7 n_ in_ y1097 s1120 y1126) q) := by
  refine .trans ?_ (bind_b fun y1125 => (bif_b some_b some_b))
  refine (block_push (id := 1)).trans ?_
  refine (pre1 (ref16_Best_r8 n_ in_ y1097 s1120 _)).trans (bind_g fun y1125 => ?_)
  refine (pre1 (ref16_Best_f1000010 n_ in_ y1097 s1120 y1125 _)).trans ?_
  refine (cond_e (b := (decide (y1125.1 ≤ 1024))) (st' := (S67_4 n_ in_ y1097 s1120)) ).trans (bif_g ?_ ?_)
  · refine (ref16_Best_r10 n_ in_ y1097 s1120 _).trans ?_
    refine block_normal.trans ?_
    refine (seqC_normal (st' := (S67_6 n_ in_ y1097 s1120))).trans ?_
    kernel_rfl
  · refine (skip_eq).trans ?_
    refine block_normal.trans ?_
    refine (seqC_normal (st' := (S67_4 n_ in_ y1097 s1120))).trans ?_
    kernel_rfl
theorem ref16_Best_r7 : R67 C67.r.r.r.r.l.r.b.b.r.r (S67_7 n_ in_ y1097 s1120 y1126) q = q .normal ⟨[(1, rl tsI4 in_), (2, rC tsNode n_), (6, rF 0), (8, ri y1126), (9, ri (IntKind.wrap .i64 (s1120.2 + 1)))], [(tsI4.leaves y1097.1)], [], 44⟩ := by kernel_rfl
def ref16_Best_l6_p : Option ((Int × Int) ⊕ (Int × Int)) := (Option.bind (ref16_Best_r6_p n_ y1097 s1120) (fun y1124 : Bool => (bif y1124 then (Option.bind (ref16_Best_j8_p n_ in_ s1120) (fun y1126 : Int => (some (Sum.inl (y1126, (IntKind.wrap .i64 (s1120.2 + 1))))))) else (some (Sum.inr s1120)))))
abbrev S67_8 : St := ⟨[(1, rl tsI4 in_), (2, rC tsNode n_), (6, rF 0), (8, ri y1127.1), (9, ri y1127.2)], [(tsI4.leaves y1097.1)], [], 44⟩
theorem ref16_Best_l6_b : R67 C67.r.r.r.r.l.r.b.b (S67_4 n_ in_ y1097 s1120) (loopKont 1 q) = Option.bind (ref16_Best_l6_p n_ in_ y1097 s1120) (either (fun y : (Int × Int) => q .normal ⟨[(1, rl tsI4 in_), (2, rC tsNode n_), (6, rF 0), (8, ri y.1), (9, ri y.2)], [(tsI4.leaves y1097.1)], [], 44⟩) (fun y1127 : (Int × Int) => q (.exit 0) (S67_8 n_ in_ y1097 y1127))) := by
  refine .trans ?_ (bind_b fun y1124 => (bif_b (bind_b fun y1126 => e2_0) e2_1))
  refine .trans seq_push ?_
  refine (pre1 (ref16_Best_r6 n_ in_ y1097 s1120 _)).trans (bind_g fun y1124 => ?_)
  refine (cond_e (b := y1124) (st' := (S67_4 n_ in_ y1097 s1120)) ).trans (bif_g ?_ ?_)
  · refine (skip_eq).trans ?_
    refine (seqC_normal (st' := (S67_4 n_ in_ y1097 s1120))).trans ?_
    refine .trans seq_push ?_
    refine (ref16_Best_j8 n_ in_ y1097 s1120 _).trans (bind_g fun y1126 => ?_)
    refine (ref16_Best_r7 n_ in_ y1097 s1120 y1126 _).trans ?_
    kernel_rfl
  · refine ((exit_eq (j := 0))).trans ?_
    refine seqC_exit.trans ?_
    kernel_rfl
theorem ref16_Best_l6 : R67 C67.r.r.r.r.l.r.b (S67_3 n_ in_ y1097) q = Option.bind (iterN (ref16_Best_l6_p n_ in_ y1097) LL ((0 : Int), (1 : Int))) (fun y1127 : (Int × Int) => q (.exit 0) (S67_8 n_ in_ y1097 y1127)) :=
  Eq.trans (by kernel_rfl) (loop_iter1 (S := fun s1120 : (Int × Int) => (S67_4 n_ in_ y1097 s1120)) (Y1 := fun y1127 : (Int × Int) => ((.exit 0), (S67_8 n_ in_ y1097 y1127))) (fun s q => ref16_Best_l6_b n_ in_ y1097 s q) (fun z => rfl) LL ((0 : Int), (1 : Int)))
theorem ref16_Best_fzx1 : P67 1 C67.r.r.r.r.r ⟨[(8, ri y1127.1)], [(tsI4.leaves y1097.1)], [], 44⟩ k = k ⟨[(4, ri y1127.1), (5, ri 0)], [(tsI4.leaves y1097.1)], [], 44⟩ := by kernel_rfl
/-- quilt/quiltref16.Best -/
def ref16_Best : Option (Int × Int) := (Option.bind (ref03_Value n_ in_) (fun y1097 : (I4 × Int) => (bif (y1097.2 != 0) then (some ((0 : Int), y1097.2)) else (Option.bind (iterN (ref16_Best_l6_p n_ in_ y1097) LL ((0 : Int), (1 : Int))) (fun y1127 : (Int × Int) => (some (y1127.1, (0 : Int))))))))
theorem ref16_Best_is : stepS E cp67 noE 17 [rA tsNode n_, rl tsI4 in_] = Option.bind (ref16_Best n_ in_) (fun y : (Int × Int) => some (.tup [ri y.1, ri y.2] : R)) := by
  refine .trans ?_ (bind_b fun y1097 => (bif_b some_b (bind_b fun y1127 => some_b)))
  refine (stepG_is (nt := 44) (regs := [(0, rA tsNode n_), (1, rl tsI4 in_)])).trans ?_
  refine (pre2 (ref16_Best_r1 n_ in_ _)).trans (bind_g fun y1097 => ?_)
  refine .trans seq_push ?_
  refine (pre1 (ref16_Best_f1000003 n_ in_ y1097 _)).trans ?_
  refine (cond_e (b := (y1097.2 != 0)) (st' := (S67_0 n_ in_ y1097)) ).trans (bif_g ?_ ?_)
  · refine (pre1 (ref16_Best_fz n_ in_ y1097 _)).trans ?_
    refine (ret_eq).trans ?_
    refine seqC_ret.trans ?_
    kernel_rfl
  · refine (skip_eq).trans ?_
    refine (seqC_normal (st' := (S67_1 n_ in_ y1097))).trans ?_
    refine (pre1 (ref16_Best_f5 n_ in_ y1097 _)).trans ?_
    refine .trans seq_push ?_
    refine (pre1 (ref16_Best_f6 n_ in_ y1097 _)).trans ?_
    refine (block_push (id := 0)).trans ?_
    refine (ref16_Best_l6 n_ in_ y1097 _).trans (bind_g fun y1127 => ?_)
    refine block_same.trans ?_
    refine (seqC_normal (st' := ⟨[(8, ri y1127.1)], [(tsI4.leaves y1097.1)], [], 44⟩)).trans ?_
    refine (pre1 (ref16_Best_fzx1 y1097 y1127 _)).trans ?_
    refine (ret_eq).trans ?_
    kernel_rfl
noncomputable def cp68 : CallP := withC cp67 17 [(.agg tsNode), (pL tsI4)] (.tup [pI, pI]) (fun y : (Int × Int) => (y.1, y.2, ())) (fun x => ref16_Best x.1 x.2.1)
theorem cp68_ok : PureOK E cp68 := conS eok cp67_ok noE_ok fun x => Eq.mp (by kernel_rfl) (ref16_Best_is x.1 x.2.1)
end
section
variable {α : Type} (size : Int) (c2_ : I7) (c3_ : I3) (c4_ : Int) (c5_ : I7) (k : St → Option α)
noncomputable abbrev C68 := codeOf E.P 30
noncomputable abbrev P68 := @preK α E 30 cp68 noE
theorem tile_Bufs_1_fz : P68 4 C68 ⟨[(0, ri size), (1, rF 2)], [(tsI7.leaves c2_), (tsI3.leaves c3_), [di c4_], (tsI7.leaves c5_)], [], 15⟩ k = k ⟨[(3, rF 4)], [(tsI7.leaves c2_), (tsI3.leaves c3_), [di (IntKind.wrap .i64 (c4_ + (IntKind.wrap .i64 ((2 : Int) * size))))], (tsI7.leaves c5_), [di c4_, di (IntKind.wrap .i64 (c4_ + size))]], [], 15⟩ := by kernel_rfl
/-- quilt/tile.Bufs$1 -/
def tile_Bufs_1 : Option (I2 × Int × Int × Int) := (some ((c4_, (IntKind.wrap .i64 (c4_ + size))), (IntKind.wrap .i64 (c4_ + (IntKind.wrap .i64 ((2 : Int) * size)))), c4_, (IntKind.wrap .i64 (c4_ + size))))
theorem tile_Bufs_1_is (k : R → Heap → Option α) : callBody E cp68 noE α 30 [ri size, rF 2] [(tsI7.leaves c2_), (tsI3.leaves c3_), [di c4_], (tsI7.leaves c5_)] k = Option.bind (tile_Bufs_1 size c4_) (fun y : (I2 × Int × Int × Int) => k (rA tsI2 y.1) [(tsI7.leaves c2_), (tsI3.leaves c3_), [di y.2.1], (tsI7.leaves c5_), (tsI2.leaves y.2.2)]) := by
  refine .trans ?_ some_b
  refine (body_is (nt := 15) (regs := [(0, ri size), (1, rF 2)]) (by kernel_rfl) (by kernel_rfl)).trans ?_
  refine (pre (n := 4) (c' := C68.r.r.r.r) (by kernel_rfl) (by kernel_rfl) (tile_Bufs_1_fz size c2_ c3_ c4_ c5_ _)).trans ?_
  refine (ret_eq).trans ?_
  kernel_rfl
noncomputable def ce1 : CallE := withE noE 30 (decA [pI, (.one (.ref 2 0))] [(.cons (.g (.int .i64)) (.cons (.g (.int .i64)) (.cons (.g (.int .i64)) (.cons (.g (.int .i64)) (.cons (.g (.int .i64)) (.cons (.g (.int .i64)) (.cons (.g (.int .i64)) .nil))))))), (.cons (.g (.int .i64)) (.cons (.g (.int .i64)) (.cons (.g (.int .i64)) .nil))), (.cons (.g (.int .i64)) .nil), (.cons (.g (.int .i64)) (.cons (.g (.int .i64)) (.cons (.g (.int .i64)) (.cons (.g (.int .i64)) (.cons (.g (.int .i64)) (.cons (.g (.int .i64)) (.cons (.g (.int .i64)) .nil)))))))]) (.one (.agg tsI2)) (fun y : (I2 × Int × Int × Int) => y.1) (fun x y => [(tsI7.leaves (x.2.1.1, x.2.1.2.1, x.2.1.2.2.1, x.2.1.2.2.2.1, x.2.1.2.2.2.2.1, x.2.1.2.2.2.2.2.1, x.2.1.2.2.2.2.2.2.1)), (tsI3.leaves (x.2.2.1.1, x.2.2.1.2.1, x.2.2.1.2.2.1)), [di y.2.1], (tsI7.leaves (x.2.2.2.2.1.1, x.2.2.2.2.1.2.1, x.2.2.2.2.1.2.2.1, x.2.2.2.2.1.2.2.2.1, x.2.2.2.2.1.2.2.2.2.1, x.2.2.2.2.1.2.2.2.2.2.1, x.2.2.2.2.1.2.2.2.2.2.2.1)), (tsI2.leaves y.2.2)]) (fun x => tile_Bufs_1 x.1.1 x.2.2.2.1.1)
theorem ce1_ok : EffOK E ce1 := conE eok cp68_ok noE_ok fun α x k => Eq.mp (by kernel_rfl) (tile_Bufs_1_is x.1.1 (x.2.1.1, x.2.1.2.1, x.2.1.2.2.1, x.2.1.2.2.2.1, x.2.1.2.2.2.2.1, x.2.1.2.2.2.2.2.1, x.2.1.2.2.2.2.2.2.1) (x.2.2.1.1, x.2.2.1.2.1, x.2.2.1.2.2.1) x.2.2.2.1.1 (x.2.2.2.2.1.1, x.2.2.2.2.1.2.1, x.2.2.2.2.1.2.2.1, x.2.2.2.2.1.2.2.2.1, x.2.2.2.2.1.2.2.2.2.1, x.2.2.2.2.1.2.2.2.2.2.1, x.2.2.2.2.1.2.2.2.2.2.2.1) k)
end
section
variable {α : Type} (n_ : Node) (in_ : (List I4)) (rows : Int) (y1129 : (I3 × Int)) (s1164 : (Int × Int × Int × Int × Int × Int)) (y1172 : (Int × Int × Int × Int × Int × Int × Int)) (y1173 : (Int × Int × Int × Int × Int × Int)) (y1174 : (I2 × Int × Int × Int)) (k : St → Option α) (q : Kont α)
noncomputable abbrev C69 := codeOf E.P 18
noncomputable abbrev P69 := @preK α E 18 cp68 ce1
noncomputable abbrev R69 := @runCode α E 18 cp68 ce1
abbrev S69_0 : St := ⟨[(6, rF 0), (8, rF 1), (9, ri y1129.2)], [[di 0, di 0, di 0, di 0, di 0, di 0, di 0], (tsI3.leaves y1129.1)], [], 49⟩
theorem tile_Bufs_r1 : P69 2 C69 ⟨[(0, rA tsNode n_), (1, rl tsI4 in_), (2, ri rows)], [], [], 49⟩ k = Option.bind (halo_Most n_ in_ rows) fun y1129 : (I3 × Int) => k (S69_0 y1129) := by kernel_rfl
theorem tile_Bufs_f1000003 : P69 1 C69.r.r.l (S69_0 y1129) k = k ⟨[(6, rF 0), (8, rF 1), (9, ri y1129.2), (22, rb (y1129.2 != 0))], [[di 0, di 0, di 0, di 0, di 0, di 0, di 0], (tsI3.leaves y1129.1)], [], 49⟩ := by kernel_rfl
theorem tile_Bufs_fz : P69 1 C69.r.r.l.r.t (S69_0 y1129) k = k ⟨[(6, rF 0), (7, ri y1129.2)], [[di 0, di 0, di 0, di 0, di 0, di 0, di 0], []], [], 49⟩ := by kernel_rfl
abbrev S69_1 : St := ⟨[(6, rF 0), (8, rF 1)], [[di 0, di 0, di 0, di 0, di 0, di 0, di 0], (tsI3.leaves y1129.1)], [], 49⟩
abbrev S69_2 : St := ⟨[(6, rF 0), (8, rF 1), (10, rF 2), (11, .one (.fn 30 [.ref 2 0])), (12, rF 3)], [[di 0, di 0, di 0, di 0, di 0, di 0, di 0], (tsI3.leaves y1129.1), [di 0], [di 0, di 0, di 0, di 0, di 0, di 0, di 0]], [], 49⟩
theorem tile_Bufs_f7 : P69 3 C69.r.r.r (S69_1 y1129) k = k (S69_2 y1129) := by kernel_rfl
abbrev S69_3 : St := ⟨[(6, rF 0), (8, rF 1), (10, rF 2), (11, .one (.fn 30 [.ref 2 0])), (12, rF 3), (26, ri 0)], [[di 0, di 0, di 0, di 0, di 0, di 0, di 0], (tsI3.leaves y1129.1), [di 0], [di 0, di 0, di 0, di 0, di 0, di 0, di 0]], [], 49⟩
theorem tile_Bufs_f8 : P69 1 C69.r.r.r.r.r.r.l (S69_2 y1129) k = k (S69_3 y1129) := by kernel_rfl
abbrev S69_4 : St := ⟨[(6, rF 0), (8, rF 1), (10, rF 2), (11, .one (.fn 30 [.ref 2 0])), (12, rF 3), (26, ri s1164.1)], [[di 0, di 0, di 0, di 0, di 0, di 0, di 0], (tsI3.leaves y1129.1), [di s1164.2.1], [di s1164.2.2.1, di s1164.2.2.2.1, di s1164.2.2.2.2.1, di s1164.2.2.2.2.2, di 0, di 0, di 0]], [], 49⟩
theorem tile_Bufs_fzx1 : P69 1 C69.r.r.r.r.r.r.l.r.b.b (S69_4 y1129 s1164) k = k ⟨[(6, rF 0), (8, rF 1), (10, rF 2), (11, .one (.fn 30 [.ref 2 0])), (12, rF 3), (26, ri s1164.1), (27, rb (decide (s1164.1 < 2)))], [[di 0, di 0, di 0, di 0, di 0, di 0, di 0], (tsI3.leaves y1129.1), [di s1164.2.1], [di s1164.2.2.1, di s1164.2.2.2.1, di s1164.2.2.2.2.1, di s1164.2.2.2.2.2, di 0, di 0, di 0]], [], 49⟩ := by kernel_rfl
abbrev S69_5 : St := ⟨[(6, rF 0), (8, rF 1), (10, rF 2), (11, .one (.fn 30 [.ref 2 0])), (12, rF 3), (13, ri s1164.1), (26, ri s1164.1)], [[di 0, di 0, di 0, di 0, di 0, di 0, di 0], (tsI3.leaves y1129.1), [di s1164.2.1], [di s1164.2.2.1, di s1164.2.2.2.1, di s1164.2.2.2.2.1, di s1164.2.2.2.2.2, di 0, di 0, di 0]], [], 49⟩
theorem tile_Bufs_f10 : P69 1 C69.r.r.r.r.r.r.l.r.b.b.r.r.l.b (S69_4 y1129 s1164) k = k (S69_5 y1129 s1164) := by kernel_rfl
def tile_Bufs_r10_p : Option (Int × Int × Int × Int × Int × Int × Int) := (bif (s1164.1 == 0) then (Option.bind (tile_Bufs_1 y1129.1.1 s1164.2.1) (fun y1169 : (I2 × Int × Int × Int) => (bif (s1164.1 == 0) then (some (y1169.2.1, y1169.1.1, y1169.1.2, s1164.2.2.2.2.1, s1164.2.2.2.2.2, y1169.2.2.1, y1169.2.2.2)) else (bif (s1164.1 == 1) then (some (y1169.2.1, s1164.2.2.1, s1164.2.2.2.1, y1169.1.1, y1169.1.2, y1169.2.2.1, y1169.2.2.2)) else none)))) else (bif (s1164.1 == 1) then (Option.bind (tile_Bufs_1 y1129.1.2.1 s1164.2.1) (fun y1170 : (I2 × Int × Int × Int) => (bif (s1164.1 == 0) then (some (y1170.2.1, y1170.1.1, y1170.1.2, s1164.2.2.2.2.1, s1164.2.2.2.2.2, y1170.2.2.1, y1170.2.2.2)) else (bif (s1164.1 == 1) then (some (y1170.2.1, s1164.2.2.1, s1164.2.2.2.1, y1170.1.1, y1170.1.2, y1170.2.2.1, y1170.2.2.2)) else none)))) else (bif (s1164.1 == 2) then (Option.bind (tile_Bufs_1 y1129.1.2.2 s1164.2.1) (fun y1171 : (I2 × Int × Int × Int) => (bif (s1164.1 == 0) then (some (y1171.2.1, y1171.1.1, y1171.1.2, s1164.2.2.2.2.1, s1164.2.2.2.2.2, y1171.2.2.1, y1171.2.2.2)) else (bif (s1164.1 == 1) then (some (y1171.2.1, s1164.2.2.1, s1164.2.2.2.1, y1171.1.1, y1171.1.2, y1171.2.2.1, y1171.2.2.2)) else none)))) else none)))
abbrev S69_6 : St := ⟨[(6, rF 0), (8, rF 1), (10, rF 2), (11, .one (.fn 30 [.ref 2 0])), (12, rF 3), (26, ri s1164.1)], [[di 0, di 0, di 0, di 0, di 0, di 0, di 0], (tsI3.leaves y1129.1), [di y1172.1], [di y1172.2.1, di y1172.2.2.1, di y1172.2.2.2.1, di y1172.2.2.2.2.1, di 0, di 0, di 0], (tsI2.leaves y1172.2.2.2.2.2)], [], 49⟩
theorem tile_Bufs_r10 : R69 C69.r.r.r.r.r.r.l.r.b.b.r.r.l.b.r (S69_5 y1129 s1164) q = Option.bind (tile_Bufs_r10_p y1129 s1164) (fun y1172 : (Int × Int × Int × Int × Int × Int × Int) => q .normal (S69_6 y1129 s1164 y1172)) := .trans (by kernel_rfl) (bif_b (bind_b fun y1169 => (bif_b some_b (bif_b some_b none_b))) (bif_b (bind_b fun y1170 => (bif_b some_b (bif_b some_b none_b))) (bif_b (bind_b fun y1171 => (bif_b some_b (bif_b some_b none_b))) none_b)))
theorem tile_Bufs_r11 : R69 C69.r.r.r.r.r.r.l.r.b.b.r.r.r (S69_6 y1129 s1164 y1172) q = q .normal ⟨[(6, rF 0), (8, rF 1), (10, rF 2), (11, .one (.fn 30 [.ref 2 0])), (12, rF 3), (26, ri (IntKind.wrap .i64 (s1164.1 + 1)))], [[di 0, di 0, di 0, di 0, di 0, di 0, di 0], (tsI3.leaves y1129.1), [di y1172.1], [di y1172.2.1, di y1172.2.2.1, di y1172.2.2.2.1, di y1172.2.2.2.2.1, di 0, di 0, di 0], (tsI2.leaves y1172.2.2.2.2.2)], [], 49⟩ := by kernel_rfl
def tile_Bufs_l8_p : Option ((Int × Int × Int × Int × Int × Int) ⊕ (Int × Int × Int × Int × Int × Int)) := (bif (decide (s1164.1 < 2)) then (Option.bind (tile_Bufs_r10_p y1129 s1164) (fun y1172 : (Int × Int × Int × Int × Int × Int × Int) => (some (Sum.inl ((IntKind.wrap .i64 (s1164.1 + 1)), y1172.1, y1172.2.1, y1172.2.2.1, y1172.2.2.2.1, y1172.2.2.2.2.1))))) else (some (Sum.inr s1164)))
abbrev S69_7 : St := ⟨[(6, rF 0), (8, rF 1), (10, rF 2), (11, .one (.fn 30 [.ref 2 0])), (12, rF 3), (26, ri y1173.1)], [[di 0, di 0, di 0, di 0, di 0, di 0, di 0], (tsI3.leaves y1129.1), [di y1173.2.1], [di y1173.2.2.1, di y1173.2.2.2.1, di y1173.2.2.2.2.1, di y1173.2.2.2.2.2, di 0, di 0, di 0]], [], 49⟩
theorem tile_Bufs_l8_b : R69 C69.r.r.r.r.r.r.l.r.b.b (S69_4 y1129 s1164) (loopKont 4 q) = Option.bind (tile_Bufs_l8_p y1129 s1164) (either (fun y : (Int × Int × Int × Int × Int × Int) => q .normal ⟨[(6, rF 0), (8, rF 1), (10, rF 2), (11, .one (.fn 30 [.ref 2 0])), (12, rF 3), (26, ri y.1)], [[di 0, di 0, di 0, di 0, di 0, di 0, di 0], (tsI3.leaves y1129.1), [di y.2.1], [di y.2.2.1, di y.2.2.2.1, di y.2.2.2.2.1, di y.2.2.2.2.2, di 0, di 0, di 0]], [], 49⟩) (fun y1173 : (Int × Int × Int × Int × Int × Int) => q (.exit 0) (S69_7 y1129 y1173))) := by
  refine .trans ?_ (bif_b (bind_b fun y1172 => e2_0) e2_1)
  refine (pre1 (tile_Bufs_fzx1 y1129 s1164 _)).trans ?_
  refine .trans seq_push ?_
  refine (cond_e (b := (decide (s1164.1 < 2))) (st' := (S69_4 y1129 s1164)) ).trans (bif_g ?_ ?_)
  · refine (skip_eq).trans ?_
    refine (seqC_normal (st' := (S69_4 y1129 s1164))).trans ?_
    refine .trans seq_push ?_
    refine (block_push (id := 1)).trans ?_
    refine (pre1 (tile_Bufs_f10 y1129 s1164 _)).trans ?_
    refine (tile_Bufs_r10 y1129 s1164 _).trans (bind_g fun y1172 => ?_)
    refine block_normal.trans ?_
    refine (seqC_normal (st' := (S69_6 y1129 s1164 y1172))).trans ?_
    refine (tile_Bufs_r11 y1129 s1164 y1172 _).trans ?_
    kernel_rfl
  · refine ((exit_eq (j := 0))).trans ?_
    refine seqC_exit.trans ?_
    kernel_rfl
theorem tile_Bufs_l8 : R69 C69.r.r.r.r.r.r.l.r.b (S69_3 y1129) q = Option.bind (iterN (tile_Bufs_l8_p y1129) LL ((0 : Int), (0 : Int), (0 : Int), (0 : Int), (0 : Int), (0 : Int))) (fun y1173 : (Int × Int × Int × Int × Int × Int) => q (.exit 0) (S69_7 y1129 y1173)) :=
  Eq.trans (by kernel_rfl) (loop_iter1 (S := fun s1164 : (Int × Int × Int × Int × Int × Int) => (S69_4 y1129 s1164)) (Y1 := fun y1173 : (Int × Int × Int × Int × Int × Int) => ((.exit 0), (S69_7 y1129 y1173))) (fun s q => tile_Bufs_l8_b y1129 s q) (fun z => rfl) LL ((0 : Int), (0 : Int), (0 : Int), (0 : Int), (0 : Int), (0 : Int)))
abbrev S69_8 : St := ⟨[(6, rF 0), (8, rF 1), (10, rF 2), (11, .one (.fn 30 [.ref 2 0])), (12, rF 3)], [[di 0, di 0, di 0, di 0, di 0, di 0, di 0], (tsI3.leaves y1129.1), [di y1173.2.1], [di y1173.2.2.1, di y1173.2.2.2.1, di y1173.2.2.2.2.1, di y1173.2.2.2.2.2, di 0, di 0, di 0]], [], 49⟩
abbrev S69_9 : St := ⟨[(6, rF 0), (10, rF 2), (12, rF 3)], [[di 0, di 0, di 0, di 0, di 0, di 0, di 0], [], [di y1174.2.1], [di y1173.2.2.1, di y1173.2.2.2.1, di y1173.2.2.2.2.1, di y1173.2.2.2.2.2, di y1174.1.1, di y1174.1.2, di 0], (tsI2.leaves y1174.2.2)], [], 49⟩
theorem tile_Bufs_r12 : P69 1 C69.r.r.r.r.r.r.r (S69_8 y1129 y1173) k = Option.bind (tile_Bufs_1 y1129.1.2.2 y1173.2.1) fun y1174 : (I2 × Int × Int × Int) => k (S69_9 y1173 y1174) := by kernel_rfl
theorem tile_Bufs_f1000015 : P69 2 C69.r.r.r.r.r.r.r.r.l (S69_9 y1173 y1174) k = k ⟨[(6, rF 0), (12, rF 3), (46, rb (decide (y1174.2.1 > 1024)))], [[di 0, di 0, di 0, di 0, di 0, di 0, di 0], [], [], [di y1173.2.2.1, di y1173.2.2.2.1, di y1173.2.2.2.2.1, di y1173.2.2.2.2.2, di y1174.1.1, di y1174.1.2, di y1174.2.1], (tsI2.leaves y1174.2.2)], [], 49⟩ := by kernel_rfl
abbrev S69_10 : St := ⟨[(6, rF 0), (12, rF 3)], [[di 0, di 0, di 0, di 0, di 0, di 0, di 0], [], [], [di y1173.2.2.1, di y1173.2.2.2.1, di y1173.2.2.2.2.1, di y1173.2.2.2.2.2, di y1174.1.1, di y1174.1.2, di y1174.2.1], (tsI2.leaves y1174.2.2)], [], 49⟩
theorem tile_Bufs_fzx2 : P69 1 C69.r.r.r.r.r.r.r.r.l.r.r.t (S69_10 y1173 y1174) k = k ⟨[(6, rF 0), (7, ri 26)], [[di 0, di 0, di 0, di 0, di 0, di 0, di 0], [], [], [], (tsI2.leaves y1174.2.2)], [], 49⟩ := by kernel_rfl
theorem tile_Bufs_fzx3 : P69 1 C69.r.r.r.r.r.r.r.r.r (S69_10 y1173 y1174) k = k ⟨[(6, rF 0), (7, ri 0)], [[di y1173.2.2.1, di y1173.2.2.2.1, di y1173.2.2.2.2.1, di y1173.2.2.2.2.2, di y1174.1.1, di y1174.1.2, di y1174.2.1], [], [], [], (tsI2.leaves y1174.2.2)], [], 49⟩ := by kernel_rfl
/-- quilt/tile.Bufs -/
def tile_Bufs : Option (I7 × Int) := (Option.bind (halo_Most n_ in_ rows) (fun y1129 : (I3 × Int) => (bif (y1129.2 != 0) then (some (((0 : Int), (0 : Int), (0 : Int), (0 : Int), (0 : Int), (0 : Int), (0 : Int)), y1129.2)) else (Option.bind (iterN (tile_Bufs_l8_p y1129) LL ((0 : Int), (0 : Int), (0 : Int), (0 : Int), (0 : Int), (0 : Int))) (fun y1173 : (Int × Int × Int × Int × Int × Int) => (Option.bind (tile_Bufs_1 y1129.1.2.2 y1173.2.1) (fun y1174 : (I2 × Int × Int × Int) => (bif (decide (y1174.2.1 > 1024)) then (some (((0 : Int), (0 : Int), (0 : Int), (0 : Int), (0 : Int), (0 : Int), (0 : Int)), (26 : Int))) else (some ((y1173.2.2.1, y1173.2.2.2.1, y1173.2.2.2.2.1, y1173.2.2.2.2.2, y1174.1.1, y1174.1.2, y1174.2.1), (0 : Int)))))))))))
theorem tile_Bufs_is : stepS E cp68 ce1 18 [rA tsNode n_, rl tsI4 in_, ri rows] = Option.bind (tile_Bufs n_ in_ rows) (fun y : (I7 × Int) => some (.tup [rA tsI7 y.1, ri y.2] : R)) := by
  refine .trans ?_ (bind_b fun y1129 => (bif_b some_b (bind_b fun y1173 => (bind_b fun y1174 => (bif_b some_b some_b)))))
  refine (stepG_is (nt := 49) (regs := [(0, rA tsNode n_), (1, rl tsI4 in_), (2, ri rows)])).trans ?_
  refine (pre2 (tile_Bufs_r1 n_ in_ rows _)).trans (bind_g fun y1129 => ?_)
  refine .trans seq_push ?_
  refine (pre1 (tile_Bufs_f1000003 y1129 _)).trans ?_
  refine (cond_e (b := (y1129.2 != 0)) (st' := (S69_0 y1129)) ).trans (bif_g ?_ ?_)
  · refine (pre1 (tile_Bufs_fz y1129 _)).trans ?_
    refine (ret_eq).trans ?_
    refine seqC_ret.trans ?_
    kernel_rfl
  · refine (skip_eq).trans ?_
    refine (seqC_normal (st' := (S69_1 y1129))).trans ?_
    refine (pre3 (tile_Bufs_f7 y1129 _)).trans ?_
    refine .trans seq_push ?_
    refine (pre1 (tile_Bufs_f8 y1129 _)).trans ?_
    refine (block_push (id := 0)).trans ?_
    refine (tile_Bufs_l8 y1129 _).trans (bind_g fun y1173 => ?_)
    refine block_same.trans ?_
    refine (seqC_normal (st' := (S69_8 y1129 y1173))).trans ?_
    refine (pre1 (tile_Bufs_r12 y1129 y1173 _)).trans (bind_g fun y1174 => ?_)
    refine .trans seq_push ?_
    refine (pre2 (tile_Bufs_f1000015 y1173 y1174 _)).trans ?_
    refine (cond_e (b := (decide (y1174.2.1 > 1024))) (st' := (S69_10 y1173 y1174)) ).trans (bif_g ?_ ?_)
    · refine (pre1 (tile_Bufs_fzx2 y1173 y1174 _)).trans ?_
      refine (ret_eq).trans ?_
      refine seqC_ret.trans ?_
      kernel_rfl
    · refine (skip_eq).trans ?_
      refine (seqC_normal (st' := (S69_10 y1173 y1174))).trans ?_
      refine (pre1 (tile_Bufs_fzx3 y1173 y1174 _)).trans ?_
      refine (ret_eq).trans ?_
      kernel_rfl
noncomputable def cp69 : CallP := withC cp68 18 [(.agg tsNode), (pL tsI4), pI] (.tup [(.agg tsI7), pI]) (fun y : (I7 × Int) => (y.1, y.2, ())) (fun x => tile_Bufs x.1 x.2.1 x.2.2.1)
theorem cp69_ok : PureOK E cp69 := conS eok cp68_ok ce1_ok fun x => Eq.mp (by kernel_rfl) (tile_Bufs_is x.1 x.2.1 x.2.2.1)
end
end Go.V.P
