/- What functions compute. -/
import Derived.Test.YtokpndlkheofjaaKp1
namespace Go.V.P
open Go.RowKit Go.V Go.Proofs
set_option linter.unusedVariables false
set_option maxRecDepth 100000
section
variable {α β : Type} (n_ : Node) (in_ : (List I4)) (first : Int) (rows : Int) (y269 : (I4 × Int)) (s345 : (Int × Int × Int × Int × Int)) (y355 : (Int × Int × Int × Int)) (y356 : (Int × Int × Int × Int × Int)) (k : St → Option α) (q : Kont α)
noncomputable abbrev C35 := codeOf E.P 13
noncomputable abbrev P35 := @preK α E 13 cp35 noE
noncomputable abbrev R35 := @runCode α E 13 cp35 noE
noncomputable abbrev Q35 := @seqC α E 13 cp35 noE
abbrev S35_0 : St := ⟨[(1, rl tsI4 in_), (2, ri first), (3, ri rows), (4, rC tsNode n_), (8, rF 0), (9, ri y269.2), (10, rF 1)], [[di 0, di 0, di 0, di 0], (tsI4.leaves y269.1)], [], 116⟩
theorem kern_Needs_r1 : P35 2 C35 ⟨[(0, rA tsNode n_), (1, rl tsI4 in_), (2, ri first), (3, ri rows)], [], [], 116⟩ k = Option.bind (graph_Value n_ in_) fun y269 : (I4 × Int) => k (S35_0 n_ in_ first rows y269) := by kernel_rfl
theorem kern_Needs_f1000003 : P35 1 C35.r.r.l.b (S35_0 n_ in_ first rows y269) k = k ⟨[(1, rl tsI4 in_), (2, ri first), (3, ri rows), (4, rC tsNode n_), (8, rF 0), (9, ri y269.2), (10, rF 1), (19, rb (y269.2 != 0))], [[di 0, di 0, di 0, di 0], (tsI4.leaves y269.1)], [], 116⟩ := by kernel_rfl
theorem kern_Needs_fz : P35 1 C35.r.r.l.b.r.t (S35_0 n_ in_ first rows y269) k = k ⟨[(8, rF 0), (9, ri y269.2)], [[di 0, di 0, di 0, di 0], []], [], 116⟩ := by kernel_rfl
def kern_Needs_r4_q (K : Bool → β) : β := (bif (decide (first < 0)) then (K true) else (bif (decide (rows < 1)) then (K true) else (bif (decide (first > y269.1.1)) then (K true) else (K (decide (rows > (IntKind.wrap .i64 (y269.1.1 - first))))))))
def kern_Needs_r4_p : Bool := kern_Needs_r4_q first rows y269 (fun y => y)
theorem kern_Needs_r4_n (K : Bool → β) : kern_Needs_r4_q first rows y269 K = K (kern_Needs_r4_p first rows y269) := (bif_k K rfl (bif_k K rfl (bif_k K rfl rfl)))
theorem kern_Needs_r4 : P35 1 C35.r.r.l.b.r.e (S35_0 n_ in_ first rows y269) k = k ⟨[(1, rl tsI4 in_), (2, ri first), (3, ri rows), (4, rC tsNode n_), (8, rF 0), (24, rb (kern_Needs_r4_p first rows y269))], [[di 0, di 0, di 0, di 0], []], [], 116⟩ := Eq.trans (by kernel_rfl) (kern_Needs_r4_n first rows y269 (fun y271 : Bool => k ⟨[(1, rl tsI4 in_), (2, ri first), (3, ri rows), (4, rC tsNode n_), (8, rF 0), (24, rb y271)], [[di 0, di 0, di 0, di 0], []], [], 116⟩))
abbrev S35_1 : St := ⟨[(1, rl tsI4 in_), (2, ri first), (3, ri rows), (4, rC tsNode n_), (8, rF 0)], [[di 0, di 0, di 0, di 0], []], [], 116⟩
theorem kern_Needs_fzx1 : P35 1 C35.r.r.l.b.r.e.r.t (S35_1 n_ in_ first rows) k = k ⟨[(8, rF 0), (9, ri 1)], [[di 0, di 0, di 0, di 0], []], [], 116⟩ := by kernel_rfl
abbrev S35_2 : St := ⟨[(1, rl tsI4 in_), (2, ri first), (3, ri rows), (4, rC tsNode n_), (8, rF 0), (49, ri (in_.length : Int)), (50, ri 0)], [[di 0, di 0, di 0, di 0], []], [], 116⟩
theorem kern_Needs_f7 : P35 1 C35.r.r.r.l (S35_1 n_ in_ first rows) k = k (S35_2 n_ in_ first rows) := by kernel_rfl
abbrev S35_3 : St := ⟨[(1, rl tsI4 in_), (2, ri first), (3, ri rows), (4, rC tsNode n_), (8, rF 0), (49, ri (in_.length : Int)), (50, ri s345.1)], [(tsI4.leaves s345.2), []], [], 116⟩
theorem kern_Needs_fzx2 : P35 1 C35.r.r.r.l.r.b.b (S35_3 n_ in_ first rows s345) k = k ⟨[(1, rl tsI4 in_), (2, ri first), (3, ri rows), (4, rC tsNode n_), (8, rF 0), (49, ri (in_.length : Int)), (50, ri s345.1), (51, rb (decide (s345.1 < (in_.length : Int))))], [(tsI4.leaves s345.2), []], [], 116⟩ := by kernel_rfl
def kern_Needs_r9_p : Option Unit := (bif (decide ((0 : Int) ≤ s345.1)) then (bif (decide (s345.1 < (in_.length : Int))) then (some ()) else none) else none)
abbrev S35_4 : St := ⟨[(1, rl tsI4 in_), (2, ri first), (3, ri rows), (4, rC tsNode n_), (8, rF 0), (11, ri s345.1), (12, ri ((gt in_ s345.1 dI4).1)), (49, ri (in_.length : Int)), (50, ri s345.1)], [(tsI4.leaves s345.2), []], [], 116⟩
theorem kern_Needs_r9 : P35 2 C35.r.r.r.l.r.b.b.r.r.l.b (S35_3 n_ in_ first rows s345) k = Option.bind (kern_Needs_r9_p in_ s345) (fun y346 : Unit => k (S35_4 n_ in_ first rows s345)) := .trans (by kernel_rfl) (bif_b (bif_b some_b none_b) none_b)
abbrev S35_5 : St := ⟨[(1, rl tsI4 in_), (2, ri first), (3, ri rows), (4, rC tsNode n_), (8, rF 0), (11, ri s345.1), (12, ri ((gt in_ s345.1 dI4).1)), (49, ri (in_.length : Int)), (50, ri s345.1), (60, ri n_.1)], [(tsI4.leaves s345.2), []], [], 116⟩
theorem kern_Needs_f12 : P35 1 C35.r.r.r.l.r.b.b.r.r.l.b.r.r (S35_4 n_ in_ first rows s345) k = k (S35_5 n_ in_ first rows s345) := by kernel_rfl
abbrev S35_6 : St := ⟨[(1, rl tsI4 in_), (2, ri first), (3, ri rows), (4, rC tsNode n_), (8, rF 0), (11, ri s345.1), (12, ri ((gt in_ s345.1 dI4).1)), (49, ri (in_.length : Int)), (50, ri s345.1), (60, ri n_.1), (68, rb (n_.1 == 1))], [(tsI4.leaves s345.2), []], [], 116⟩
theorem kern_Needs_f2000013 : P35 1 C35.r.r.r.l.r.b.b.r.r.l.b.r.r.r.b.l (S35_5 n_ in_ first rows s345) k = k (S35_6 n_ in_ first rows s345) := by kernel_rfl
abbrev S35_7 : St := ⟨[(1, rl tsI4 in_), (2, ri first), (3, ri rows), (4, rC tsNode n_), (8, rF 0), (11, ri s345.1), (12, ri ((gt in_ s345.1 dI4).1)), (49, ri (in_.length : Int)), (50, ri s345.1), (60, ri n_.1), (68, rb (n_.1 == 2))], [(tsI4.leaves s345.2), []], [], 116⟩
theorem kern_Needs_f2000014 : P35 1 C35.r.r.r.l.r.b.b.r.r.l.b.r.r.r.b.l.r.e (S35_6 n_ in_ first rows s345) k = k (S35_7 n_ in_ first rows s345) := by kernel_rfl
abbrev S35_8 : St := ⟨[(1, rl tsI4 in_), (2, ri first), (3, ri rows), (4, rC tsNode n_), (8, rF 0), (11, ri s345.1), (12, ri ((gt in_ s345.1 dI4).1)), (49, ri (in_.length : Int)), (50, ri s345.1), (60, ri n_.1), (68, rb (n_.1 == 4))], [(tsI4.leaves s345.2), []], [], 116⟩
theorem kern_Needs_f2000015 : P35 1 C35.r.r.r.l.r.b.b.r.r.l.b.r.r.r.b.l.r.e.r.e (S35_7 n_ in_ first rows s345) k = k (S35_8 n_ in_ first rows s345) := by kernel_rfl
abbrev S35_9 : St := ⟨[(1, rl tsI4 in_), (2, ri first), (3, ri rows), (4, rC tsNode n_), (8, rF 0), (11, ri s345.1), (12, ri ((gt in_ s345.1 dI4).1)), (49, ri (in_.length : Int)), (50, ri s345.1), (60, ri n_.1), (68, rb (n_.1 == 5))], [(tsI4.leaves s345.2), []], [], 116⟩
theorem kern_Needs_r15 : R35 C35.r.r.r.l.r.b.b.r.r.l.b.r.r.r.b.l.r.e.r.e.r.e (S35_8 n_ in_ first rows s345) q = q .normal (S35_9 n_ in_ first rows s345) := by kernel_rfl
def kern_Needs_j12_q (K : Bool → β) : β := (bif (n_.1 == 1) then (K (n_.1 == 1)) else (bif (n_.1 == 2) then (K (n_.1 == 2)) else (bif (n_.1 == 4) then (K (n_.1 == 4)) else (K (n_.1 == 5)))))
def kern_Needs_j12_p : Bool := kern_Needs_j12_q n_ (fun y => y)
theorem kern_Needs_j12_n (K : Bool → β) : kern_Needs_j12_q n_ K = K (kern_Needs_j12_p n_) := (bif_k K rfl (bif_k K rfl (bif_k K rfl rfl)))
abbrev S35_10 : St := ⟨[(1, rl tsI4 in_), (2, ri first), (3, ri rows), (4, rC tsNode n_), (8, rF 0), (11, ri s345.1), (12, ri ((gt in_ s345.1 dI4).1)), (49, ri (in_.length : Int)), (50, ri s345.1), (60, ri n_.1), (68, rb (kern_Needs_j12_p n_))], [(tsI4.leaves s345.2), []], [], 116⟩
theorem kern_Needs_j12 : R35 C35.r.r.r.l.r.b.b.r.r.l.b.r.r.r.b.l (S35_5 n_ in_ first rows s345) (Q35 C35.r.r.r.l.r.b.b.r.r.l.b.r.r.r.b.r q) = R35 C35.r.r.r.l.r.b.b.r.r.l.b.r.r.r.b.r (S35_10 n_ in_ first rows s345) q := by
  refine Eq.trans ?_ (kern_Needs_j12_n n_ (fun y347 : Bool => R35 C35.r.r.r.l.r.b.b.r.r.l.b.r.r.r.b.r ⟨[(1, rl tsI4 in_), (2, ri first), (3, ri rows), (4, rC tsNode n_), (8, rF 0), (11, ri s345.1), (12, ri ((gt in_ s345.1 dI4).1)), (49, ri (in_.length : Int)), (50, ri s345.1), (60, ri n_.1), (68, rb y347)], [(tsI4.leaves s345.2), []], [], 116⟩ q))
  unfold kern_Needs_j12_q
  refine (pre1 (kern_Needs_f2000013 n_ in_ first rows s345 _)).trans ?_
  refine (cond_s (b := (n_.1 == 1)) ).trans (bif_g ?_ ?_)
  · refine (skip_eq).trans ?_
    refine (seqC_normal (st' := (S35_6 n_ in_ first rows s345))).trans ?_
    kernel_rfl
  · refine (pre1 (kern_Needs_f2000014 n_ in_ first rows s345 _)).trans ?_
    refine (cond_s (b := (n_.1 == 2)) ).trans (bif_g ?_ ?_)
    · refine (skip_eq).trans ?_
      refine (seqC_normal (st' := (S35_7 n_ in_ first rows s345))).trans ?_
      kernel_rfl
    · refine (pre1 (kern_Needs_f2000015 n_ in_ first rows s345 _)).trans ?_
      refine (cond_s (b := (n_.1 == 4)) ).trans (bif_g ?_ ?_)
      · refine (skip_eq).trans ?_
        refine (seqC_normal (st' := (S35_8 n_ in_ first rows s345))).trans ?_
        kernel_rfl
      · refine (kern_Needs_r15 n_ in_ first rows s345 _).trans ?_
        refine (seqC_normal (st' := (S35_9 n_ in_ first rows s345))).trans ?_
        kernel_rfl
def kern_Needs_r16_p : Option (Int × Int × Int × Int) := (Option.bind (shape_Reach first rows n_.2.2.1 n_.2.2.2.1 n_.2.2.2.2.1 ((gt in_ s345.1 dI4).1)) (fun y348 : (Int × Int) => (bif (s345.1 == 0) then (bif (s345.1 == 0) then (some (y348.1, y348.2, s345.2.2.2.1, s345.2.2.2.2)) else (bif (s345.1 == 1) then (some (y348.1, s345.2.2.1, s345.2.2.2.1, y348.2)) else none)) else (bif (s345.1 == 1) then (bif (s345.1 == 0) then (some (s345.2.1, y348.2, y348.1, s345.2.2.2.2)) else (bif (s345.1 == 1) then (some (s345.2.1, s345.2.2.1, y348.1, y348.2)) else none)) else none))))
abbrev S35_11 (y349 : (Int × Int × Int × Int)) : St := ⟨[(1, rl tsI4 in_), (2, ri first), (3, ri rows), (4, rC tsNode n_), (8, rF 0), (49, ri (in_.length : Int)), (50, ri s345.1)], [(tsI4.leaves y349), []], [], 116⟩
theorem kern_Needs_r16 : R35 C35.r.r.r.l.r.b.b.r.r.l.b.r.r.r.b.r.t (S35_10 n_ in_ first rows s345) q = Option.bind (kern_Needs_r16_p n_ in_ first rows s345) (fun y349 : (Int × Int × Int × Int) => q .normal (S35_11 n_ in_ first rows s345 y349)) := .trans (by kernel_rfl) (bind_b fun y348 => (bif_b (bif_b some_b (bif_b some_b none_b)) (bif_b (bif_b some_b (bif_b some_b none_b)) none_b)))
theorem kern_Needs_f1000018 : P35 1 C35.r.r.r.l.r.b.b.r.r.l.b.r.r.r.b.r.e (S35_10 n_ in_ first rows s345) k = k ⟨[(1, rl tsI4 in_), (2, ri first), (3, ri rows), (4, rC tsNode n_), (8, rF 0), (11, ri s345.1), (12, ri ((gt in_ s345.1 dI4).1)), (49, ri (in_.length : Int)), (50, ri s345.1), (60, ri n_.1), (92, rb (n_.1 == 9))], [(tsI4.leaves s345.2), []], [], 116⟩ := by kernel_rfl
def kern_Needs_r18_p : Option (Int × Int × Int × Int) := (Option.bind (shape_Reach first rows (1 : Int) (1 : Int) (1 : Int) ((gt in_ s345.1 dI4).1)) (fun y350 : (Int × Int) => (bif (s345.1 == 0) then (bif (s345.1 == 0) then (some (y350.1, y350.2, s345.2.2.2.1, s345.2.2.2.2)) else (bif (s345.1 == 1) then (some (y350.1, s345.2.2.1, s345.2.2.2.1, y350.2)) else none)) else (bif (s345.1 == 1) then (bif (s345.1 == 0) then (some (s345.2.1, y350.2, y350.1, s345.2.2.2.2)) else (bif (s345.1 == 1) then (some (s345.2.1, s345.2.2.1, y350.1, y350.2)) else none)) else none))))
abbrev S35_12 (y351 : (Int × Int × Int × Int)) : St := ⟨[(1, rl tsI4 in_), (2, ri first), (3, ri rows), (4, rC tsNode n_), (8, rF 0), (49, ri (in_.length : Int)), (50, ri s345.1)], [(tsI4.leaves y351), []], [], 116⟩
theorem kern_Needs_r18 : R35 C35.r.r.r.l.r.b.b.r.r.l.b.r.r.r.b.r.e.r.t (S35_5 n_ in_ first rows s345) q = Option.bind (kern_Needs_r18_p in_ first rows s345) (fun y351 : (Int × Int × Int × Int) => q .normal (S35_12 n_ in_ first rows s345 y351)) := .trans (by kernel_rfl) (bind_b fun y350 => (bif_b (bif_b some_b (bif_b some_b none_b)) (bif_b (bif_b some_b (bif_b some_b none_b)) none_b)))
abbrev S35_13 : St := ⟨[(1, rl tsI4 in_), (2, ri first), (3, ri rows), (4, rC tsNode n_), (8, rF 0), (11, ri s345.1), (12, ri ((gt in_ s345.1 dI4).1)), (49, ri (in_.length : Int)), (50, ri s345.1), (60, ri n_.1), (107, rb (n_.1 == 3))], [(tsI4.leaves s345.2), []], [], 116⟩
theorem kern_Needs_f2000020 : P35 1 C35.r.r.r.l.r.b.b.r.r.l.b.r.r.r.b.r.e.r.e.l (S35_5 n_ in_ first rows s345) k = k (S35_13 n_ in_ first rows s345) := by kernel_rfl
abbrev S35_14 : St := ⟨[(1, rl tsI4 in_), (2, ri first), (3, ri rows), (4, rC tsNode n_), (8, rF 0), (11, ri s345.1), (12, ri ((gt in_ s345.1 dI4).1)), (49, ri (in_.length : Int)), (50, ri s345.1), (107, rb (n_.1 == 11))], [(tsI4.leaves s345.2), []], [], 116⟩
theorem kern_Needs_r20 : R35 C35.r.r.r.l.r.b.b.r.r.l.b.r.r.r.b.r.e.r.e.l.r.e (S35_13 n_ in_ first rows s345) q = q .normal (S35_14 n_ in_ first rows s345) := by kernel_rfl
def kern_Needs_j19_q (K : Bool → β) : β := (bif (n_.1 == 3) then (K (n_.1 == 3)) else (K (n_.1 == 11)))
def kern_Needs_j19_p : Bool := kern_Needs_j19_q n_ (fun y => y)
theorem kern_Needs_j19_n (K : Bool → β) : kern_Needs_j19_q n_ K = K (kern_Needs_j19_p n_) := (bif_k K rfl rfl)
abbrev S35_15 : St := ⟨[(1, rl tsI4 in_), (2, ri first), (3, ri rows), (4, rC tsNode n_), (8, rF 0), (11, ri s345.1), (12, ri ((gt in_ s345.1 dI4).1)), (49, ri (in_.length : Int)), (50, ri s345.1), (107, rb (kern_Needs_j19_p n_))], [(tsI4.leaves s345.2), []], [], 116⟩
theorem kern_Needs_j19 : R35 C35.r.r.r.l.r.b.b.r.r.l.b.r.r.r.b.r.e.r.e.l (S35_5 n_ in_ first rows s345) (Q35 C35.r.r.r.l.r.b.b.r.r.l.b.r.r.r.b.r.e.r.e.r q) = R35 C35.r.r.r.l.r.b.b.r.r.l.b.r.r.r.b.r.e.r.e.r (S35_15 n_ in_ first rows s345) q := by
  refine Eq.trans ?_ (kern_Needs_j19_n n_ (fun y352 : Bool => R35 C35.r.r.r.l.r.b.b.r.r.l.b.r.r.r.b.r.e.r.e.r ⟨[(1, rl tsI4 in_), (2, ri first), (3, ri rows), (4, rC tsNode n_), (8, rF 0), (11, ri s345.1), (12, ri ((gt in_ s345.1 dI4).1)), (49, ri (in_.length : Int)), (50, ri s345.1), (107, rb y352)], [(tsI4.leaves s345.2), []], [], 116⟩ q))
  unfold kern_Needs_j19_q
  refine (pre1 (kern_Needs_f2000020 n_ in_ first rows s345 _)).trans ?_
  refine (cond_s (b := (n_.1 == 3)) ).trans (bif_g ?_ ?_)
  · refine (skip_eq).trans ?_
    refine (seqC_normal (st' := ⟨[(1, rl tsI4 in_), (2, ri first), (3, ri rows), (4, rC tsNode n_), (8, rF 0), (11, ri s345.1), (12, ri ((gt in_ s345.1 dI4).1)), (49, ri (in_.length : Int)), (50, ri s345.1), (107, rb (n_.1 == 3))], [(tsI4.leaves s345.2), []], [], 116⟩)).trans ?_
    kernel_rfl
  · refine (kern_Needs_r20 n_ in_ first rows s345 _).trans ?_
    refine (seqC_normal (st' := (S35_14 n_ in_ first rows s345))).trans ?_
    kernel_rfl
def kern_Needs_r21_p : Option (Int × Int × Int × Int) := (bif (s345.1 == 0) then (some ((0 : Int), (gt in_ s345.1 dI4).1, s345.2.2.2.1, s345.2.2.2.2)) else (bif (s345.1 == 1) then (some (s345.2.1, s345.2.2.1, (0 : Int), (gt in_ s345.1 dI4).1)) else none))
abbrev S35_16 (y353 : (Int × Int × Int × Int)) : St := ⟨[(1, rl tsI4 in_), (2, ri first), (3, ri rows), (4, rC tsNode n_), (8, rF 0), (49, ri (in_.length : Int)), (50, ri s345.1)], [(tsI4.leaves y353), []], [], 116⟩
theorem kern_Needs_r21 : R35 C35.r.r.r.l.r.b.b.r.r.l.b.r.r.r.b.r.e.r.e.r.t (S35_15 n_ in_ first rows s345) q = Option.bind (kern_Needs_r21_p in_ s345) (fun y353 : (Int × Int × Int × Int) => q .normal (S35_16 n_ in_ first rows s345 y353)) := .trans (by kernel_rfl) (bif_b some_b (bif_b some_b none_b))
def kern_Needs_r11_p : Option (Int × Int × Int × Int) := (bif (s345.1 == 0) then (some (first, (IntKind.wrap .i64 (first + rows)), s345.2.2.2.1, s345.2.2.2.2)) else (bif (s345.1 == 1) then (some (s345.2.1, s345.2.2.1, first, (IntKind.wrap .i64 (first + rows)))) else none))
abbrev S35_17 (y354 : (Int × Int × Int × Int)) : St := ⟨[(1, rl tsI4 in_), (2, ri first), (3, ri rows), (4, rC tsNode n_), (8, rF 0), (49, ri (in_.length : Int)), (50, ri s345.1)], [(tsI4.leaves y354), []], [], 116⟩
theorem kern_Needs_r11 : R35 C35.r.r.r.l.r.b.b.r.r.l.b.r.r.r.b.r.e.r.e.r.e (S35_15 n_ in_ first rows s345) q = Option.bind (kern_Needs_r11_p first rows s345) (fun y354 : (Int × Int × Int × Int) => q .normal (S35_17 n_ in_ first rows s345 y354)) := .trans (by kernel_rfl) (bif_b some_b (bif_b some_b none_b))
def kern_Needs_j8_p : Option (Int × Int × Int × Int) := (Option.bind (kern_Needs_r9_p in_ s345) (fun y346 : Unit => (bif (kern_Needs_j12_p n_) then (Option.bind (kern_Needs_r16_p n_ in_ first rows s345) (fun y349 : (Int × Int × Int × Int) => (some y349))) else (bif (n_.1 == 9) then (Option.bind (kern_Needs_r18_p in_ first rows s345) (fun y351 : (Int × Int × Int × Int) => (some y351))) else (bif (kern_Needs_j19_p n_) then (Option.bind (kern_Needs_r21_p in_ s345) (fun y353 : (Int × Int × Int × Int) => (some y353))) else (Option.bind (kern_Needs_r11_p first rows s345) (fun y354 : (Int × Int × Int × Int) => (some y354))))))))
abbrev S35_18 : St := ⟨[(1, rl tsI4 in_), (2, ri first), (3, ri rows), (4, rC tsNode n_), (8, rF 0), (49, ri (in_.length : Int)), (50, ri s345.1)], [(tsI4.leaves y355), []], [], 116⟩
theorem kern_Needs_j8 : R35 C35.r.r.r.l.r.b.b.r.r.l (S35_3 n_ in_ first rows s345) (Q35 C35.r.r.r.l.r.b.b.r.r.r q) = Option.bind (kern_Needs_j8_p n_ in_ first rows s345) (fun y355 : (Int × Int × Int × Int) => R35 C35.r.r.r.l.r.b.b.r.r.r (S35_18 n_ in_ first rows s345 y355) q) := by
  refine .trans ?_ (bind_b fun y346 => (bif_b (bind_b fun y349 => some_b) (bif_b (bind_b fun y351 => some_b) (bif_b (bind_b fun y353 => some_b) (bind_b fun y354 => some_b)))))
  refine (block_push (id := 2)).trans ?_
  refine (pre2 (kern_Needs_r9 n_ in_ first rows s345 _)).trans (bind_g fun y346 => ?_)
  refine (pre1 (kern_Needs_f12 n_ in_ first rows s345 _)).trans ?_
  refine (block_push (id := 3)).trans ?_
  refine .trans seq_push ?_
  refine (kern_Needs_j12 n_ in_ first rows s345 _).trans ?_
  refine (cond_s (b := (kern_Needs_j12_p n_)) ).trans (bif_g ?_ ?_)
  · refine (kern_Needs_r16 n_ in_ first rows s345 _).trans (bind_g fun y349 => ?_)
    refine block_normal.trans ?_
    refine block_normal.trans ?_
    refine (seqC_normal (st' := (S35_11 n_ in_ first rows s345 y349))).trans ?_
    kernel_rfl
  · refine (pre1 (kern_Needs_f1000018 n_ in_ first rows s345 _)).trans ?_
    refine (cond_e (b := (n_.1 == 9)) (st' := (S35_5 n_ in_ first rows s345)) ).trans (bif_g ?_ ?_)
    · refine (kern_Needs_r18 n_ in_ first rows s345 _).trans (bind_g fun y351 => ?_)
      refine block_normal.trans ?_
      refine block_normal.trans ?_
      refine (seqC_normal (st' := (S35_12 n_ in_ first rows s345 y351))).trans ?_
      kernel_rfl
    · refine .trans seq_push ?_
      refine (kern_Needs_j19 n_ in_ first rows s345 _).trans ?_
      refine (cond_s (b := (kern_Needs_j19_p n_)) ).trans (bif_g ?_ ?_)
      · refine (kern_Needs_r21 n_ in_ first rows s345 _).trans (bind_g fun y353 => ?_)
        refine block_normal.trans ?_
        refine block_normal.trans ?_
        refine (seqC_normal (st' := (S35_16 n_ in_ first rows s345 y353))).trans ?_
        kernel_rfl
      · refine (kern_Needs_r11 n_ in_ first rows s345 _).trans (bind_g fun y354 => ?_)
        refine block_normal.trans ?_
        refine block_normal.trans ?_
        refine (seqC_normal (st' := (S35_17 n_ in_ first rows s345 y354))).trans ?_
        kernel_rfl
theorem kern_Needs_r22 : R35 C35.r.r.r.l.r.b.b.r.r.r (S35_18 n_ in_ first rows s345 y355) q = q .normal ⟨[(1, rl tsI4 in_), (2, ri first), (3, ri rows), (4, rC tsNode n_), (8, rF 0), (49, ri (in_.length : Int)), (50, ri (IntKind.wrap .i64 (s345.1 + 1)))], [(tsI4.leaves y355), []], [], 116⟩ := by kernel_rfl
def kern_Needs_l7_p : Option ((Int × Int × Int × Int × Int) ⊕ (Int × Int × Int × Int × Int)) := (bif (decide (s345.1 < (in_.length : Int))) then (Option.bind (kern_Needs_j8_p n_ in_ first rows s345) (fun y355 : (Int × Int × Int × Int) => (some (Sum.inl ((IntKind.wrap .i64 (s345.1 + 1)), y355.1, y355.2.1, y355.2.2.1, y355.2.2.2))))) else (some (Sum.inr s345)))
abbrev S35_19 : St := ⟨[(1, rl tsI4 in_), (2, ri first), (3, ri rows), (4, rC tsNode n_), (8, rF 0), (49, ri (in_.length : Int)), (50, ri y356.1)], [(tsI4.leaves y356.2), []], [], 116⟩
theorem kern_Needs_l7_b : R35 C35.r.r.r.l.r.b.b (S35_3 n_ in_ first rows s345) (loopKont 2 q) = Option.bind (kern_Needs_l7_p n_ in_ first rows s345) (either (fun y : (Int × Int × Int × Int × Int) => q .normal ⟨[(1, rl tsI4 in_), (2, ri first), (3, ri rows), (4, rC tsNode n_), (8, rF 0), (49, ri (in_.length : Int)), (50, ri y.1)], [(tsI4.leaves y.2), []], [], 116⟩) (fun y356 : (Int × Int × Int × Int × Int) => q (.exit 1) (S35_19 n_ in_ first rows y356))) := by
  refine .trans ?_ (bif_b (bind_b fun y355 => e2_0) e2_1)
  refine (pre1 (kern_Needs_fzx2 n_ in_ first rows s345 _)).trans ?_
  refine .trans seq_push ?_
  refine (cond_e (b := (decide (s345.1 < (in_.length : Int)))) (st' := (S35_3 n_ in_ first rows s345)) ).trans (bif_g ?_ ?_)
  · refine (skip_eq).trans ?_
    refine (seqC_normal (st' := (S35_3 n_ in_ first rows s345))).trans ?_
    refine .trans seq_push ?_
    refine (kern_Needs_j8 n_ in_ first rows s345 _).trans (bind_g fun y355 => ?_)
    refine (kern_Needs_r22 n_ in_ first rows s345 y355 _).trans ?_
    kernel_rfl
  · refine ((exit_eq (j := 1))).trans ?_
    refine seqC_exit.trans ?_
    kernel_rfl
theorem kern_Needs_l7 : R35 C35.r.r.r.l.r.b (S35_2 n_ in_ first rows) q = Option.bind (iterN (kern_Needs_l7_p n_ in_ first rows) LL ((0 : Int), (0 : Int), (0 : Int), (0 : Int), (0 : Int))) (fun y356 : (Int × Int × Int × Int × Int) => q (.exit 1) (S35_19 n_ in_ first rows y356)) :=
  Eq.trans (by kernel_rfl) (loop_iter1 (S := fun s345 : (Int × Int × Int × Int × Int) => (S35_3 n_ in_ first rows s345)) (Y1 := fun y356 : (Int × Int × Int × Int × Int) => ((.exit 1), (S35_19 n_ in_ first rows y356))) (fun s q => kern_Needs_l7_b n_ in_ first rows s q) (fun z => rfl) LL ((0 : Int), (0 : Int), (0 : Int), (0 : Int), (0 : Int)))
theorem kern_Needs_fzx3 : P35 1 C35.r.r.r.r ⟨[(8, rF 0)], [(tsI4.leaves y356.2), []], [], 116⟩ k = k ⟨[(8, rF 0), (9, ri 0)], [(tsI4.leaves y356.2), []], [], 116⟩ := by kernel_rfl
/-- quilt/kern.Needs -/
def kern_Needs : Option (I4 × Int) := (Option.bind (graph_Value n_ in_) (fun y269 : (I4 × Int) => (bif (y269.2 != 0) then (some (((0 : Int), (0 : Int), (0 : Int), (0 : Int)), y269.2)) else (bif (kern_Needs_r4_p first rows y269) then (some (((0 : Int), (0 : Int), (0 : Int), (0 : Int)), (1 : Int))) else (Option.bind (iterN (kern_Needs_l7_p n_ in_ first rows) LL ((0 : Int), (0 : Int), (0 : Int), (0 : Int), (0 : Int))) (fun y356 : (Int × Int × Int × Int × Int) => (some (y356.2, (0 : Int)))))))))
theorem kern_Needs_is : stepS E cp35 noE 13 [rA tsNode n_, rl tsI4 in_, ri first, ri rows] = Option.bind (kern_Needs n_ in_ first rows) (fun y : (I4 × Int) => some (.tup [rA tsI4 y.1, ri y.2] : R)) := by
  refine .trans ?_ (bind_b fun y269 => (bif_b some_b (bif_b some_b (bind_b fun y356 => some_b))))
  refine (stepG_is (nt := 116) (regs := [(0, rA tsNode n_), (1, rl tsI4 in_), (2, ri first), (3, ri rows)])).trans ?_
  refine (pre2 (kern_Needs_r1 n_ in_ first rows _)).trans (bind_g fun y269 => ?_)
  refine .trans seq_push ?_
  refine (block_push (id := 0)).trans ?_
  refine (pre1 (kern_Needs_f1000003 n_ in_ first rows y269 _)).trans ?_
  refine (cond_e (b := (y269.2 != 0)) (st' := (S35_0 n_ in_ first rows y269)) ).trans (bif_g ?_ ?_)
  · refine (pre1 (kern_Needs_fz n_ in_ first rows y269 _)).trans ?_
    refine (ret_eq).trans ?_
    refine block_ret.trans ?_
    refine seqC_ret.trans ?_
    kernel_rfl
  · refine (pre1 (kern_Needs_r4 n_ in_ first rows y269 _)).trans ?_
    refine (cond_e (b := (kern_Needs_r4_p first rows y269)) (st' := (S35_1 n_ in_ first rows)) ).trans (bif_g ?_ ?_)
    · refine (pre1 (kern_Needs_fzx1 n_ in_ first rows _)).trans ?_
      refine (ret_eq).trans ?_
      refine block_ret.trans ?_
      refine seqC_ret.trans ?_
      kernel_rfl
    · refine (skip_eq).trans ?_
      refine block_normal.trans ?_
      refine (seqC_normal (st' := (S35_1 n_ in_ first rows))).trans ?_
      refine .trans seq_push ?_
      refine (pre1 (kern_Needs_f7 n_ in_ first rows _)).trans ?_
      refine (block_push (id := 1)).trans ?_
      refine (kern_Needs_l7 n_ in_ first rows _).trans (bind_g fun y356 => ?_)
      refine block_same.trans ?_
      refine (seqC_normal (st' := ⟨[(8, rF 0)], [(tsI4.leaves y356.2), []], [], 116⟩)).trans ?_
      refine (pre1 (kern_Needs_fzx3 y356 _)).trans ?_
      refine (ret_eq).trans ?_
      kernel_rfl
noncomputable def cp36 : CallP := withC cp35 13 [(.agg tsNode), (pL tsI4), pI, pI] (.tup [(.agg tsI4), pI]) (fun y : (I4 × Int) => (y.1, y.2, ())) (fun x => kern_Needs x.1 x.2.1 x.2.2.1 x.2.2.2.1)
theorem cp36_ok : PureOK E cp36 := conS eok cp35_ok noE_ok fun x => Eq.mp (by kernel_rfl) (kern_Needs_is x.1 x.2.1 x.2.2.1 x.2.2.2.1)
end
section
variable {α β : Type} (v_ : I4) (w_ : Window) (need : I2) (k : St → Option α)
noncomputable abbrev C36 := codeOf E.P 47
noncomputable abbrev P36 := @preK α E 47 cp36 noE
abbrev S36_0 : St := ⟨[(3, rC tsI4 v_), (4, rC tsWindow w_), (5, rC tsI2 need), (7, ri v_.1)], [], [], 68⟩
theorem kern_fits_f2 : P36 2 C36 ⟨[(0, rA tsI4 v_), (1, rA tsWindow w_), (2, rA tsI2 need)], [], [], 68⟩ k = k (S36_0 v_ w_ need) := by kernel_rfl
def kern_fits_r2_p : Option Bool := (bif (decide (w_.1 < 0)) then (some true) else (bif (decide (w_.2.1 < 0)) then (some true) else (bif (decide (w_.1 > v_.1)) then (some true) else (bif (decide (w_.2.1 > (IntKind.wrap .i64 (v_.1 - w_.1)))) then (some true) else (Option.bind (shape_Row (v_.1, v_.2.1, v_.2.2.1)) (fun y362 : Int => (some ((w_.2.2.length : Int) != (IntKind.wrap .i64 (w_.2.1 * y362))))))))))
theorem kern_fits_r2 : P36 1 C36.r.r.l (S36_0 v_ w_ need) k = Option.bind (kern_fits_r2_p v_ w_) (fun y363 : Bool => k ⟨[(4, rC tsWindow w_), (5, rC tsI2 need), (45, rb y363)], [], [], 68⟩) := .trans (by kernel_rfl) (bif_b some_b (bif_b some_b (bif_b some_b (bif_b some_b (bind_b fun y362 => some_b)))))
abbrev S36_1 : St := ⟨[(4, rC tsWindow w_), (5, rC tsI2 need)], [], [], 68⟩
theorem kern_fits_fz : P36 1 C36.r.r.l.r.t (S36_1 w_ need) k = k ⟨[(6, rb false)], [], [], 68⟩ := by kernel_rfl
def kern_fits_r4_q (K : Bool → β) : β := (bif (need.1 == need.2) then (K true) else (bif (decide (w_.1 ≤ need.1)) then (K (decide (need.2 ≤ (IntKind.wrap .i64 (w_.1 + w_.2.1))))) else (K false)))
def kern_fits_r4_p : Bool := kern_fits_r4_q w_ need (fun y => y)
theorem kern_fits_r4_n (K : Bool → β) : kern_fits_r4_q w_ need K = K (kern_fits_r4_p w_ need) := (bif_k K rfl (bif_k K rfl rfl))
theorem kern_fits_r4 : P36 1 C36.r.r.r (S36_1 w_ need) k = k ⟨[(6, rb (kern_fits_r4_p w_ need))], [], [], 68⟩ := Eq.trans (by kernel_rfl) (kern_fits_r4_n w_ need (fun y364 : Bool => k ⟨[(6, rb y364)], [], [], 68⟩))
/-- quilt/kern.fits -/
def kern_fits : Option Bool := (Option.bind (kern_fits_r2_p v_ w_) (fun y363 : Bool => (bif y363 then (some false) else (some (kern_fits_r4_p w_ need)))))
theorem kern_fits_is : stepS E cp36 noE 47 [rA tsI4 v_, rA tsWindow w_, rA tsI2 need] = Option.bind (kern_fits v_ w_ need) (fun y : Bool => some (rb y : R)) := by
  refine .trans ?_ (bind_b fun y363 => (bif_b some_b some_b))
  refine (stepG_is (nt := 68) (regs := [(0, rA tsI4 v_), (1, rA tsWindow w_), (2, rA tsI2 need)])).trans ?_
  refine (pre2 (kern_fits_f2 v_ w_ need _)).trans ?_
  refine .trans seq_push ?_
  refine (pre1 (kern_fits_r2 v_ w_ need _)).trans (bind_g fun y363 => ?_)
  refine (cond_e (b := y363) (st' := (S36_1 w_ need)) ).trans (bif_g ?_ ?_)
  · refine (pre1 (kern_fits_fz w_ need _)).trans ?_
    refine (ret_eq).trans ?_
    refine seqC_ret.trans ?_
    kernel_rfl
  · refine (skip_eq).trans ?_
    refine (seqC_normal (st' := (S36_1 w_ need))).trans ?_
    refine (pre1 (kern_fits_r4 w_ need _)).trans ?_
    refine (ret_eq).trans ?_
    kernel_rfl
noncomputable def cp37 : CallP := withC cp36 47 [(.agg tsI4), (.agg tsWindow), (.agg tsI2)] (.one pB) (fun y : Bool => y) (fun x => kern_fits x.1 x.2.1 x.2.2.1)
theorem cp37_ok : PureOK E cp37 := conS eok cp36_ok noE_ok fun x => Eq.mp (by kernel_rfl) (kern_fits_is x.1 x.2.1 x.2.2.1)
end
section
variable {α β : Type} (n_ : Node) (p_ : pane) (k : St → Option α)
noncomputable abbrev C37 := codeOf E.P 69
noncomputable abbrev P37 := @preK α E 69 cp37 noE
theorem kern_conv_fz : P37 2 C37 ⟨[(0, rA tsNode n_), (1, rA tspane p_)], [], [], 6⟩ k = k ⟨[(4, .one (.fn 81 [.cell (tsNode.leaves n_), .cell (tspane.leaves p_)]))], [], [], 6⟩ := by kernel_rfl
/-- quilt/kern.conv -/
def kern_conv_q (K : U14 → β) : β := (K ((n_.1, n_.2.1, n_.2.2.1, n_.2.2.2.1, n_.2.2.2.2.1, n_.2.2.2.2.2.1, n_.2.2.2.2.2.2.1, n_.2.2.2.2.2.2.2.1, n_.2.2.2.2.2.2.2.2.1, n_.2.2.2.2.2.2.2.2.2.1, n_.2.2.2.2.2.2.2.2.2.2.1, n_.2.2.2.2.2.2.2.2.2.2.2.1, n_.2.2.2.2.2.2.2.2.2.2.2.2.1, n_.2.2.2.2.2.2.2.2.2.2.2.2.2, ()), (p_.1, p_.2.1, p_.2.2.1, p_.2.2.2.1, p_.2.2.2.2.1, p_.2.2.2.2.2.1, p_.2.2.2.2.2.2, ()), ()))
def kern_conv : U14 := kern_conv_q n_ p_ (fun y => y)
theorem kern_conv_n (K : U14 → β) : kern_conv_q n_ p_ K = K (kern_conv n_ p_) := rfl
theorem kern_conv_is : stepS E cp37 noE 69 [rA tsNode n_, rA tspane p_] = (fun y : U14 => some (.one (.fn 81 [.cell [di y.1.1, dl (.one (.int .i64)) y.1.2.1, di y.1.2.2.1, di y.1.2.2.2.1, di y.1.2.2.2.2.1, di y.1.2.2.2.2.2.1, di y.1.2.2.2.2.2.2.1, di y.1.2.2.2.2.2.2.2.1, di y.1.2.2.2.2.2.2.2.2.1, di y.1.2.2.2.2.2.2.2.2.2.1, di y.1.2.2.2.2.2.2.2.2.2.2.1, di y.1.2.2.2.2.2.2.2.2.2.2.2.1, dl (.one (.int .i8)) y.1.2.2.2.2.2.2.2.2.2.2.2.2.1, dl (.one (.int .i32)) y.1.2.2.2.2.2.2.2.2.2.2.2.2.2.1], .cell [di y.2.1.1, di y.2.1.2.1, di y.2.1.2.2.1, di y.2.1.2.2.2.1, di y.2.1.2.2.2.2.1, di y.2.1.2.2.2.2.2.1, dl (.one (.int .i8)) y.2.1.2.2.2.2.2.2.1]]) : R)) (kern_conv n_ p_) := by
  refine Eq.trans ?_ (kern_conv_n n_ p_ (fun y : U14 => some (.one (.fn 81 [.cell [di y.1.1, dl (.one (.int .i64)) y.1.2.1, di y.1.2.2.1, di y.1.2.2.2.1, di y.1.2.2.2.2.1, di y.1.2.2.2.2.2.1, di y.1.2.2.2.2.2.2.1, di y.1.2.2.2.2.2.2.2.1, di y.1.2.2.2.2.2.2.2.2.1, di y.1.2.2.2.2.2.2.2.2.2.1, di y.1.2.2.2.2.2.2.2.2.2.2.1, di y.1.2.2.2.2.2.2.2.2.2.2.2.1, dl (.one (.int .i8)) y.1.2.2.2.2.2.2.2.2.2.2.2.2.1, dl (.one (.int .i32)) y.1.2.2.2.2.2.2.2.2.2.2.2.2.2.1], .cell [di y.2.1.1, di y.2.1.2.1, di y.2.1.2.2.1, di y.2.1.2.2.2.1, di y.2.1.2.2.2.2.1, di y.2.1.2.2.2.2.2.1, dl (.one (.int .i8)) y.2.1.2.2.2.2.2.2.1]]) : R)))
  refine (stepG_is (nt := 6) (regs := [(0, rA tsNode n_), (1, rA tspane p_)])).trans ?_
  unfold kern_conv_q
  refine (pre2 (kern_conv_fz n_ p_ _)).trans ?_
  refine (ret_eq).trans ?_
  kernel_rfl
noncomputable def cp38 : CallP := withC cp37 69 [(.agg tsNode), (.agg tspane)] (.one (.one Z7)) (fun y : U14 => y) (fun x => some (kern_conv x.1 x.2.1))
theorem cp38_ok : PureOK E cp38 := conS eok cp37_ok noE_ok fun x => Eq.mp (by kernel_rfl) (kern_conv_is x.1 x.2.1)
end
section
variable {α β : Type} (n_ : Node) (p_ : pane) (k : St → Option α)
noncomputable abbrev C38 := codeOf E.P 70
noncomputable abbrev P38 := @preK α E 70 cp38 noE
theorem kern_full_fz : P38 2 C38 ⟨[(0, rA tsNode n_), (1, rA tspane p_)], [], [], 6⟩ k = k ⟨[(4, .one (.fn 85 [.cell (tsNode.leaves n_), .cell (tspane.leaves p_)]))], [], [], 6⟩ := by kernel_rfl
/-- quilt/kern.full -/
def kern_full_q (K : U14 → β) : β := (K ((n_.1, n_.2.1, n_.2.2.1, n_.2.2.2.1, n_.2.2.2.2.1, n_.2.2.2.2.2.1, n_.2.2.2.2.2.2.1, n_.2.2.2.2.2.2.2.1, n_.2.2.2.2.2.2.2.2.1, n_.2.2.2.2.2.2.2.2.2.1, n_.2.2.2.2.2.2.2.2.2.2.1, n_.2.2.2.2.2.2.2.2.2.2.2.1, n_.2.2.2.2.2.2.2.2.2.2.2.2.1, n_.2.2.2.2.2.2.2.2.2.2.2.2.2, ()), (p_.1, p_.2.1, p_.2.2.1, p_.2.2.2.1, p_.2.2.2.2.1, p_.2.2.2.2.2.1, p_.2.2.2.2.2.2, ()), ()))
def kern_full : U14 := kern_full_q n_ p_ (fun y => y)
theorem kern_full_n (K : U14 → β) : kern_full_q n_ p_ K = K (kern_full n_ p_) := rfl
theorem kern_full_is : stepS E cp38 noE 70 [rA tsNode n_, rA tspane p_] = (fun y : U14 => some (.one (.fn 85 [.cell [di y.1.1, dl (.one (.int .i64)) y.1.2.1, di y.1.2.2.1, di y.1.2.2.2.1, di y.1.2.2.2.2.1, di y.1.2.2.2.2.2.1, di y.1.2.2.2.2.2.2.1, di y.1.2.2.2.2.2.2.2.1, di y.1.2.2.2.2.2.2.2.2.1, di y.1.2.2.2.2.2.2.2.2.2.1, di y.1.2.2.2.2.2.2.2.2.2.2.1, di y.1.2.2.2.2.2.2.2.2.2.2.2.1, dl (.one (.int .i8)) y.1.2.2.2.2.2.2.2.2.2.2.2.2.1, dl (.one (.int .i32)) y.1.2.2.2.2.2.2.2.2.2.2.2.2.2.1], .cell [di y.2.1.1, di y.2.1.2.1, di y.2.1.2.2.1, di y.2.1.2.2.2.1, di y.2.1.2.2.2.2.1, di y.2.1.2.2.2.2.2.1, dl (.one (.int .i8)) y.2.1.2.2.2.2.2.2.1]]) : R)) (kern_full n_ p_) := by
  refine Eq.trans ?_ (kern_full_n n_ p_ (fun y : U14 => some (.one (.fn 85 [.cell [di y.1.1, dl (.one (.int .i64)) y.1.2.1, di y.1.2.2.1, di y.1.2.2.2.1, di y.1.2.2.2.2.1, di y.1.2.2.2.2.2.1, di y.1.2.2.2.2.2.2.1, di y.1.2.2.2.2.2.2.2.1, di y.1.2.2.2.2.2.2.2.2.1, di y.1.2.2.2.2.2.2.2.2.2.1, di y.1.2.2.2.2.2.2.2.2.2.2.1, di y.1.2.2.2.2.2.2.2.2.2.2.2.1, dl (.one (.int .i8)) y.1.2.2.2.2.2.2.2.2.2.2.2.2.1, dl (.one (.int .i32)) y.1.2.2.2.2.2.2.2.2.2.2.2.2.2.1], .cell [di y.2.1.1, di y.2.1.2.1, di y.2.1.2.2.1, di y.2.1.2.2.2.1, di y.2.1.2.2.2.2.1, di y.2.1.2.2.2.2.2.1, dl (.one (.int .i8)) y.2.1.2.2.2.2.2.2.1]]) : R)))
  refine (stepG_is (nt := 6) (regs := [(0, rA tsNode n_), (1, rA tspane p_)])).trans ?_
  unfold kern_full_q
  refine (pre2 (kern_full_fz n_ p_ _)).trans ?_
  refine (ret_eq).trans ?_
  kernel_rfl
noncomputable def cp39 : CallP := withC cp38 70 [(.agg tsNode), (.agg tspane)] (.one (.one Z6)) (fun y : U14 => y) (fun x => some (kern_full x.1 x.2.1))
theorem cp39_ok : PureOK E cp39 := conS eok cp38_ok noE_ok fun x => Eq.mp (by kernel_rfl) (kern_full_is x.1 x.2.1)
end
section
variable {α β : Type} (n_ : Node) (p_ : pane) (k : St → Option α)
noncomputable abbrev C39 := codeOf E.P 71
noncomputable abbrev P39 := @preK α E 71 cp39 noE
theorem kern_pool_fz : P39 2 C39 ⟨[(0, rA tsNode n_), (1, rA tspane p_)], [], [], 6⟩ k = k ⟨[(4, .one (.fn 86 [.cell (tsNode.leaves n_), .cell (tspane.leaves p_)]))], [], [], 6⟩ := by kernel_rfl
/-- quilt/kern.pool -/
def kern_pool_q (K : U14 → β) : β := (K ((n_.1, n_.2.1, n_.2.2.1, n_.2.2.2.1, n_.2.2.2.2.1, n_.2.2.2.2.2.1, n_.2.2.2.2.2.2.1, n_.2.2.2.2.2.2.2.1, n_.2.2.2.2.2.2.2.2.1, n_.2.2.2.2.2.2.2.2.2.1, n_.2.2.2.2.2.2.2.2.2.2.1, n_.2.2.2.2.2.2.2.2.2.2.2.1, n_.2.2.2.2.2.2.2.2.2.2.2.2.1, n_.2.2.2.2.2.2.2.2.2.2.2.2.2, ()), (p_.1, p_.2.1, p_.2.2.1, p_.2.2.2.1, p_.2.2.2.2.1, p_.2.2.2.2.2.1, p_.2.2.2.2.2.2, ()), ()))
def kern_pool : U14 := kern_pool_q n_ p_ (fun y => y)
theorem kern_pool_n (K : U14 → β) : kern_pool_q n_ p_ K = K (kern_pool n_ p_) := rfl
theorem kern_pool_is : stepS E cp39 noE 71 [rA tsNode n_, rA tspane p_] = (fun y : U14 => some (.one (.fn 86 [.cell [di y.1.1, dl (.one (.int .i64)) y.1.2.1, di y.1.2.2.1, di y.1.2.2.2.1, di y.1.2.2.2.2.1, di y.1.2.2.2.2.2.1, di y.1.2.2.2.2.2.2.1, di y.1.2.2.2.2.2.2.2.1, di y.1.2.2.2.2.2.2.2.2.1, di y.1.2.2.2.2.2.2.2.2.2.1, di y.1.2.2.2.2.2.2.2.2.2.2.1, di y.1.2.2.2.2.2.2.2.2.2.2.2.1, dl (.one (.int .i8)) y.1.2.2.2.2.2.2.2.2.2.2.2.2.1, dl (.one (.int .i32)) y.1.2.2.2.2.2.2.2.2.2.2.2.2.2.1], .cell [di y.2.1.1, di y.2.1.2.1, di y.2.1.2.2.1, di y.2.1.2.2.2.1, di y.2.1.2.2.2.2.1, di y.2.1.2.2.2.2.2.1, dl (.one (.int .i8)) y.2.1.2.2.2.2.2.2.1]]) : R)) (kern_pool n_ p_) := by
  refine Eq.trans ?_ (kern_pool_n n_ p_ (fun y : U14 => some (.one (.fn 86 [.cell [di y.1.1, dl (.one (.int .i64)) y.1.2.1, di y.1.2.2.1, di y.1.2.2.2.1, di y.1.2.2.2.2.1, di y.1.2.2.2.2.2.1, di y.1.2.2.2.2.2.2.1, di y.1.2.2.2.2.2.2.2.1, di y.1.2.2.2.2.2.2.2.2.1, di y.1.2.2.2.2.2.2.2.2.2.1, di y.1.2.2.2.2.2.2.2.2.2.2.1, di y.1.2.2.2.2.2.2.2.2.2.2.2.1, dl (.one (.int .i8)) y.1.2.2.2.2.2.2.2.2.2.2.2.2.1, dl (.one (.int .i32)) y.1.2.2.2.2.2.2.2.2.2.2.2.2.2.1], .cell [di y.2.1.1, di y.2.1.2.1, di y.2.1.2.2.1, di y.2.1.2.2.2.1, di y.2.1.2.2.2.2.1, di y.2.1.2.2.2.2.2.1, dl (.one (.int .i8)) y.2.1.2.2.2.2.2.2.1]]) : R)))
  refine (stepG_is (nt := 6) (regs := [(0, rA tsNode n_), (1, rA tspane p_)])).trans ?_
  unfold kern_pool_q
  refine (pre2 (kern_pool_fz n_ p_ _)).trans ?_
  refine (ret_eq).trans ?_
  kernel_rfl
noncomputable def cp40 : CallP := withC cp39 71 [(.agg tsNode), (.agg tspane)] (.one (.one Z5)) (fun y : U14 => y) (fun x => some (kern_pool x.1 x.2.1))
theorem cp40_ok : PureOK E cp40 := conS eok cp39_ok noE_ok fun x => Eq.mp (by kernel_rfl) (kern_pool_is x.1 x.2.1)
end
section
variable {α β : Type} (n_ : Node) (p_ : pane) (q_ : pane) (k : St → Option α)
noncomputable abbrev C40 := codeOf E.P 72
noncomputable abbrev P40 := @preK α E 72 cp40 noE
theorem kern_pair_fz : P40 2 C40 ⟨[(0, rA tsNode n_), (1, rA tspane p_), (2, rA tspane q_)], [], [], 8⟩ k = k ⟨[(6, .one (.fn 89 [.cell (tspane.leaves p_), .cell (tspane.leaves q_), .cell (tsNode.leaves n_)]))], [], [], 8⟩ := by kernel_rfl
/-- quilt/kern.pair -/
def kern_pair_q (K : U18 → β) : β := (K ((p_.1, p_.2.1, p_.2.2.1, p_.2.2.2.1, p_.2.2.2.2.1, p_.2.2.2.2.2.1, p_.2.2.2.2.2.2, ()), (q_.1, q_.2.1, q_.2.2.1, q_.2.2.2.1, q_.2.2.2.2.1, q_.2.2.2.2.2.1, q_.2.2.2.2.2.2, ()), (n_.1, n_.2.1, n_.2.2.1, n_.2.2.2.1, n_.2.2.2.2.1, n_.2.2.2.2.2.1, n_.2.2.2.2.2.2.1, n_.2.2.2.2.2.2.2.1, n_.2.2.2.2.2.2.2.2.1, n_.2.2.2.2.2.2.2.2.2.1, n_.2.2.2.2.2.2.2.2.2.2.1, n_.2.2.2.2.2.2.2.2.2.2.2.1, n_.2.2.2.2.2.2.2.2.2.2.2.2.1, n_.2.2.2.2.2.2.2.2.2.2.2.2.2, ()), ()))
def kern_pair : U18 := kern_pair_q n_ p_ q_ (fun y => y)
theorem kern_pair_n (K : U18 → β) : kern_pair_q n_ p_ q_ K = K (kern_pair n_ p_ q_) := rfl
theorem kern_pair_is : stepS E cp40 noE 72 [rA tsNode n_, rA tspane p_, rA tspane q_] = (fun y : U18 => some (.one (.fn 89 [.cell [di y.1.1, di y.1.2.1, di y.1.2.2.1, di y.1.2.2.2.1, di y.1.2.2.2.2.1, di y.1.2.2.2.2.2.1, dl (.one (.int .i8)) y.1.2.2.2.2.2.2.1], .cell [di y.2.1.1, di y.2.1.2.1, di y.2.1.2.2.1, di y.2.1.2.2.2.1, di y.2.1.2.2.2.2.1, di y.2.1.2.2.2.2.2.1, dl (.one (.int .i8)) y.2.1.2.2.2.2.2.2.1], .cell [di y.2.2.1.1, dl (.one (.int .i64)) y.2.2.1.2.1, di y.2.2.1.2.2.1, di y.2.2.1.2.2.2.1, di y.2.2.1.2.2.2.2.1, di y.2.2.1.2.2.2.2.2.1, di y.2.2.1.2.2.2.2.2.2.1, di y.2.2.1.2.2.2.2.2.2.2.1, di y.2.2.1.2.2.2.2.2.2.2.2.1, di y.2.2.1.2.2.2.2.2.2.2.2.2.1, di y.2.2.1.2.2.2.2.2.2.2.2.2.2.1, di y.2.2.1.2.2.2.2.2.2.2.2.2.2.2.1, dl (.one (.int .i8)) y.2.2.1.2.2.2.2.2.2.2.2.2.2.2.2.1, dl (.one (.int .i32)) y.2.2.1.2.2.2.2.2.2.2.2.2.2.2.2.2.1]]) : R)) (kern_pair n_ p_ q_) := by
  refine Eq.trans ?_ (kern_pair_n n_ p_ q_ (fun y : U18 => some (.one (.fn 89 [.cell [di y.1.1, di y.1.2.1, di y.1.2.2.1, di y.1.2.2.2.1, di y.1.2.2.2.2.1, di y.1.2.2.2.2.2.1, dl (.one (.int .i8)) y.1.2.2.2.2.2.2.1], .cell [di y.2.1.1, di y.2.1.2.1, di y.2.1.2.2.1, di y.2.1.2.2.2.1, di y.2.1.2.2.2.2.1, di y.2.1.2.2.2.2.2.1, dl (.one (.int .i8)) y.2.1.2.2.2.2.2.2.1], .cell [di y.2.2.1.1, dl (.one (.int .i64)) y.2.2.1.2.1, di y.2.2.1.2.2.1, di y.2.2.1.2.2.2.1, di y.2.2.1.2.2.2.2.1, di y.2.2.1.2.2.2.2.2.1, di y.2.2.1.2.2.2.2.2.2.1, di y.2.2.1.2.2.2.2.2.2.2.1, di y.2.2.1.2.2.2.2.2.2.2.2.1, di y.2.2.1.2.2.2.2.2.2.2.2.2.1, di y.2.2.1.2.2.2.2.2.2.2.2.2.2.1, di y.2.2.1.2.2.2.2.2.2.2.2.2.2.2.1, dl (.one (.int .i8)) y.2.2.1.2.2.2.2.2.2.2.2.2.2.2.2.1, dl (.one (.int .i32)) y.2.2.1.2.2.2.2.2.2.2.2.2.2.2.2.2.1]]) : R)))
  refine (stepG_is (nt := 8) (regs := [(0, rA tsNode n_), (1, rA tspane p_), (2, rA tspane q_)])).trans ?_
  unfold kern_pair_q
  refine (pre2 (kern_pair_fz n_ p_ q_ _)).trans ?_
  refine (ret_eq).trans ?_
  kernel_rfl
noncomputable def cp41 : CallP := withC cp40 72 [(.agg tsNode), (.agg tspane), (.agg tspane)] (.one (.one Z8)) (fun y : U18 => y) (fun x => some (kern_pair x.1 x.2.1 x.2.2.1))
theorem cp41_ok : PureOK E cp41 := conS eok cp40_ok noE_ok fun x => Eq.mp (by kernel_rfl) (kern_pair_is x.1 x.2.1 x.2.2.1)
end
section
variable {α β : Type} (n_ : Node) (v_ : I4) (panes : A9) (k : St → Option α) (q : Kont α)
noncomputable abbrev C41 := codeOf E.P 48
noncomputable abbrev P41 := @preK α E 48 cp41 noE
noncomputable abbrev R41 := @runCode α E 48 cp41 noE
noncomputable abbrev Q41 := @seqC α E 48 cp41 noE
abbrev S41_0 : St := ⟨[(3, rC tsNode n_), (4, rC tsI4 v_), (5, rC tsA9 panes), (7, rF 0)], [[di panes.1, di panes.2.1, di panes.2.2.1, di panes.2.2.2.1, di panes.2.2.2.2.1, di panes.2.2.2.2.2.1, dl (.one (.int .i8)) panes.2.2.2.2.2.2.1]], [], 50⟩
theorem kern_made_f2 : P41 2 C41 ⟨[(0, rA tsNode n_), (1, rA tsI4 v_), (2, rA tsA9 panes)], [], [], 50⟩ k = k (S41_0 n_ v_ panes) := by kernel_rfl
abbrev S41_1 : St := ⟨[(3, rC tsNode n_), (4, rC tsI4 v_), (5, rC tsA9 panes), (7, rF 0), (11, ri n_.1)], [[di panes.1, di panes.2.1, di panes.2.2.1, di panes.2.2.2.1, di panes.2.2.2.2.1, di panes.2.2.2.2.2.1, dl (.one (.int .i8)) panes.2.2.2.2.2.2.1]], [], 50⟩
theorem kern_made_f3 : P41 1 C41.r.r.l (S41_0 n_ v_ panes) k = k (S41_1 n_ v_ panes) := by kernel_rfl
abbrev S41_2 : St := ⟨[(3, rC tsNode n_), (4, rC tsI4 v_), (5, rC tsA9 panes), (7, rF 0), (11, ri n_.1), (12, rb (n_.1 == 1))], [[di panes.1, di panes.2.1, di panes.2.2.1, di panes.2.2.2.1, di panes.2.2.2.2.1, di panes.2.2.2.2.2.1, dl (.one (.int .i8)) panes.2.2.2.2.2.2.1]], [], 50⟩
theorem kern_made_f2000004 : P41 1 C41.r.r.l.r.b.l (S41_1 n_ v_ panes) k = k (S41_2 n_ v_ panes) := by kernel_rfl
abbrev S41_3 : St := ⟨[(3, rC tsNode n_), (4, rC tsI4 v_), (5, rC tsA9 panes), (7, rF 0), (11, ri n_.1), (12, rb (n_.1 == 2))], [[di panes.1, di panes.2.1, di panes.2.2.1, di panes.2.2.2.1, di panes.2.2.2.2.1, di panes.2.2.2.2.2.1, dl (.one (.int .i8)) panes.2.2.2.2.2.2.1]], [], 50⟩
theorem kern_made_r4 : R41 C41.r.r.l.r.b.l.r.e (S41_2 n_ v_ panes) q = q .normal (S41_3 n_ v_ panes) := by kernel_rfl
def kern_made_j3_q (K : Bool → β) : β := (bif (n_.1 == 1) then (K (n_.1 == 1)) else (K (n_.1 == 2)))
def kern_made_j3_p : Bool := kern_made_j3_q n_ (fun y => y)
theorem kern_made_j3_n (K : Bool → β) : kern_made_j3_q n_ K = K (kern_made_j3_p n_) := (bif_k K rfl rfl)
abbrev S41_4 : St := ⟨[(3, rC tsNode n_), (4, rC tsI4 v_), (5, rC tsA9 panes), (7, rF 0), (11, ri n_.1), (12, rb (kern_made_j3_p n_))], [[di panes.1, di panes.2.1, di panes.2.2.1, di panes.2.2.2.1, di panes.2.2.2.2.1, di panes.2.2.2.2.2.1, dl (.one (.int .i8)) panes.2.2.2.2.2.2.1]], [], 50⟩
theorem kern_made_j3 : R41 C41.r.r.l.r.b.l (S41_1 n_ v_ panes) (Q41 C41.r.r.l.r.b.r q) = R41 C41.r.r.l.r.b.r (S41_4 n_ v_ panes) q := by
  refine Eq.trans ?_ (kern_made_j3_n n_ (fun y489 : Bool => R41 C41.r.r.l.r.b.r ⟨[(3, rC tsNode n_), (4, rC tsI4 v_), (5, rC tsA9 panes), (7, rF 0), (11, ri n_.1), (12, rb y489)], [[di panes.1, di panes.2.1, di panes.2.2.1, di panes.2.2.2.1, di panes.2.2.2.2.1, di panes.2.2.2.2.2.1, dl (.one (.int .i8)) panes.2.2.2.2.2.2.1]], [], 50⟩ q))
  unfold kern_made_j3_q
  refine (pre1 (kern_made_f2000004 n_ v_ panes _)).trans ?_
  refine (cond_s (b := (n_.1 == 1)) ).trans (bif_g ?_ ?_)
  · refine (skip_eq).trans ?_
    refine (seqC_normal (st' := (S41_2 n_ v_ panes))).trans ?_
    kernel_rfl
  · refine (kern_made_r4 n_ v_ panes _).trans ?_
    refine (seqC_normal (st' := (S41_3 n_ v_ panes))).trans ?_
    kernel_rfl
def kern_made_r5_q (K : U14 → β) : β := (K ((((kern_conv n_ (panes.1, panes.2.1, panes.2.2.1, panes.2.2.2.1, panes.2.2.2.2.1, panes.2.2.2.2.2.1, panes.2.2.2.2.2.2.1)).1).1, ((kern_conv n_ (panes.1, panes.2.1, panes.2.2.1, panes.2.2.2.1, panes.2.2.2.2.1, panes.2.2.2.2.2.1, panes.2.2.2.2.2.2.1)).1).2.1, ((kern_conv n_ (panes.1, panes.2.1, panes.2.2.1, panes.2.2.2.1, panes.2.2.2.2.1, panes.2.2.2.2.2.1, panes.2.2.2.2.2.2.1)).1).2.2.1, ((kern_conv n_ (panes.1, panes.2.1, panes.2.2.1, panes.2.2.2.1, panes.2.2.2.2.1, panes.2.2.2.2.2.1, panes.2.2.2.2.2.2.1)).1).2.2.2.1, ((kern_conv n_ (panes.1, panes.2.1, panes.2.2.1, panes.2.2.2.1, panes.2.2.2.2.1, panes.2.2.2.2.2.1, panes.2.2.2.2.2.2.1)).1).2.2.2.2.1, ((kern_conv n_ (panes.1, panes.2.1, panes.2.2.1, panes.2.2.2.1, panes.2.2.2.2.1, panes.2.2.2.2.2.1, panes.2.2.2.2.2.2.1)).1).2.2.2.2.2.1, ((kern_conv n_ (panes.1, panes.2.1, panes.2.2.1, panes.2.2.2.1, panes.2.2.2.2.1, panes.2.2.2.2.2.1, panes.2.2.2.2.2.2.1)).1).2.2.2.2.2.2.1, ((kern_conv n_ (panes.1, panes.2.1, panes.2.2.1, panes.2.2.2.1, panes.2.2.2.2.1, panes.2.2.2.2.2.1, panes.2.2.2.2.2.2.1)).1).2.2.2.2.2.2.2.1, ((kern_conv n_ (panes.1, panes.2.1, panes.2.2.1, panes.2.2.2.1, panes.2.2.2.2.1, panes.2.2.2.2.2.1, panes.2.2.2.2.2.2.1)).1).2.2.2.2.2.2.2.2.1, ((kern_conv n_ (panes.1, panes.2.1, panes.2.2.1, panes.2.2.2.1, panes.2.2.2.2.1, panes.2.2.2.2.2.1, panes.2.2.2.2.2.2.1)).1).2.2.2.2.2.2.2.2.2.1, ((kern_conv n_ (panes.1, panes.2.1, panes.2.2.1, panes.2.2.2.1, panes.2.2.2.2.1, panes.2.2.2.2.2.1, panes.2.2.2.2.2.2.1)).1).2.2.2.2.2.2.2.2.2.2.1, ((kern_conv n_ (panes.1, panes.2.1, panes.2.2.1, panes.2.2.2.1, panes.2.2.2.2.1, panes.2.2.2.2.2.1, panes.2.2.2.2.2.2.1)).1).2.2.2.2.2.2.2.2.2.2.2.1, ((kern_conv n_ (panes.1, panes.2.1, panes.2.2.1, panes.2.2.2.1, panes.2.2.2.2.1, panes.2.2.2.2.2.1, panes.2.2.2.2.2.2.1)).1).2.2.2.2.2.2.2.2.2.2.2.2.1, ((kern_conv n_ (panes.1, panes.2.1, panes.2.2.1, panes.2.2.2.1, panes.2.2.2.2.1, panes.2.2.2.2.2.1, panes.2.2.2.2.2.2.1)).1).2.2.2.2.2.2.2.2.2.2.2.2.2.1, ()), (((kern_conv n_ (panes.1, panes.2.1, panes.2.2.1, panes.2.2.2.1, panes.2.2.2.2.1, panes.2.2.2.2.2.1, panes.2.2.2.2.2.2.1)).2.1).1, ((kern_conv n_ (panes.1, panes.2.1, panes.2.2.1, panes.2.2.2.1, panes.2.2.2.2.1, panes.2.2.2.2.2.1, panes.2.2.2.2.2.2.1)).2.1).2.1, ((kern_conv n_ (panes.1, panes.2.1, panes.2.2.1, panes.2.2.2.1, panes.2.2.2.2.1, panes.2.2.2.2.2.1, panes.2.2.2.2.2.2.1)).2.1).2.2.1, ((kern_conv n_ (panes.1, panes.2.1, panes.2.2.1, panes.2.2.2.1, panes.2.2.2.2.1, panes.2.2.2.2.2.1, panes.2.2.2.2.2.2.1)).2.1).2.2.2.1, ((kern_conv n_ (panes.1, panes.2.1, panes.2.2.1, panes.2.2.2.1, panes.2.2.2.2.1, panes.2.2.2.2.2.1, panes.2.2.2.2.2.2.1)).2.1).2.2.2.2.1, ((kern_conv n_ (panes.1, panes.2.1, panes.2.2.1, panes.2.2.2.1, panes.2.2.2.2.1, panes.2.2.2.2.2.1, panes.2.2.2.2.2.2.1)).2.1).2.2.2.2.2.1, ((kern_conv n_ (panes.1, panes.2.1, panes.2.2.1, panes.2.2.2.1, panes.2.2.2.2.1, panes.2.2.2.2.2.1, panes.2.2.2.2.2.2.1)).2.1).2.2.2.2.2.2.1, ()), ()))
def kern_made_r5_p : U14 := kern_made_r5_q n_ panes (fun y => y)
theorem kern_made_r5_n (K : U14 → β) : kern_made_r5_q n_ panes K = K (kern_made_r5_p n_ panes) := rfl
theorem kern_made_r5 : P41 1 C41.r.r.l.r.b.r.t (S41_4 n_ v_ panes) k = k ⟨[(6, .one (.fn 81 [.cell [di (((kern_made_r5_p n_ panes).1).1), dl (.one (.int .i64)) (((kern_made_r5_p n_ panes).1).2.1), di (((kern_made_r5_p n_ panes).1).2.2.1), di (((kern_made_r5_p n_ panes).1).2.2.2.1), di (((kern_made_r5_p n_ panes).1).2.2.2.2.1), di (((kern_made_r5_p n_ panes).1).2.2.2.2.2.1), di (((kern_made_r5_p n_ panes).1).2.2.2.2.2.2.1), di (((kern_made_r5_p n_ panes).1).2.2.2.2.2.2.2.1), di (((kern_made_r5_p n_ panes).1).2.2.2.2.2.2.2.2.1), di (((kern_made_r5_p n_ panes).1).2.2.2.2.2.2.2.2.2.1), di (((kern_made_r5_p n_ panes).1).2.2.2.2.2.2.2.2.2.2.1), di (((kern_made_r5_p n_ panes).1).2.2.2.2.2.2.2.2.2.2.2.1), dl (.one (.int .i8)) (((kern_made_r5_p n_ panes).1).2.2.2.2.2.2.2.2.2.2.2.2.1), dl (.one (.int .i32)) (((kern_made_r5_p n_ panes).1).2.2.2.2.2.2.2.2.2.2.2.2.2.1)], .cell [di (((kern_made_r5_p n_ panes).2.1).1), di (((kern_made_r5_p n_ panes).2.1).2.1), di (((kern_made_r5_p n_ panes).2.1).2.2.1), di (((kern_made_r5_p n_ panes).2.1).2.2.2.1), di (((kern_made_r5_p n_ panes).2.1).2.2.2.2.1), di (((kern_made_r5_p n_ panes).2.1).2.2.2.2.2.1), dl (.one (.int .i8)) (((kern_made_r5_p n_ panes).2.1).2.2.2.2.2.2.1)]]))], [[di panes.1, di panes.2.1, di panes.2.2.1, di panes.2.2.2.1, di panes.2.2.2.2.1, di panes.2.2.2.2.2.1, dl (.one (.int .i8)) panes.2.2.2.2.2.2.1]], [], 50⟩ := Eq.trans (by kernel_rfl) (kern_made_r5_n n_ panes (fun y490 : U14 => k ⟨[(6, .one (.fn 81 [.cell [di y490.1.1, dl (.one (.int .i64)) y490.1.2.1, di y490.1.2.2.1, di y490.1.2.2.2.1, di y490.1.2.2.2.2.1, di y490.1.2.2.2.2.2.1, di y490.1.2.2.2.2.2.2.1, di y490.1.2.2.2.2.2.2.2.1, di y490.1.2.2.2.2.2.2.2.2.1, di y490.1.2.2.2.2.2.2.2.2.2.1, di y490.1.2.2.2.2.2.2.2.2.2.2.1, di y490.1.2.2.2.2.2.2.2.2.2.2.2.1, dl (.one (.int .i8)) y490.1.2.2.2.2.2.2.2.2.2.2.2.2.1, dl (.one (.int .i32)) y490.1.2.2.2.2.2.2.2.2.2.2.2.2.2.1], .cell [di y490.2.1.1, di y490.2.1.2.1, di y490.2.1.2.2.1, di y490.2.1.2.2.2.1, di y490.2.1.2.2.2.2.1, di y490.2.1.2.2.2.2.2.1, dl (.one (.int .i8)) y490.2.1.2.2.2.2.2.2.1]]))], [[di panes.1, di panes.2.1, di panes.2.2.1, di panes.2.2.2.1, di panes.2.2.2.2.1, di panes.2.2.2.2.2.1, dl (.one (.int .i8)) panes.2.2.2.2.2.2.1]], [], 50⟩))
theorem kern_made_f1000007 : P41 1 C41.r.r.l.r.b.r.e (S41_4 n_ v_ panes) k = k ⟨[(3, rC tsNode n_), (4, rC tsI4 v_), (5, rC tsA9 panes), (7, rF 0), (11, ri n_.1), (18, rb (n_.1 == 3))], [[di panes.1, di panes.2.1, di panes.2.2.1, di panes.2.2.2.1, di panes.2.2.2.2.1, di panes.2.2.2.2.2.1, dl (.one (.int .i8)) panes.2.2.2.2.2.2.1]], [], 50⟩ := by kernel_rfl
def kern_made_r7_q (K : U14 → β) : β := (K ((((kern_full n_ (panes.1, panes.2.1, panes.2.2.1, panes.2.2.2.1, panes.2.2.2.2.1, panes.2.2.2.2.2.1, panes.2.2.2.2.2.2.1)).1).1, ((kern_full n_ (panes.1, panes.2.1, panes.2.2.1, panes.2.2.2.1, panes.2.2.2.2.1, panes.2.2.2.2.2.1, panes.2.2.2.2.2.2.1)).1).2.1, ((kern_full n_ (panes.1, panes.2.1, panes.2.2.1, panes.2.2.2.1, panes.2.2.2.2.1, panes.2.2.2.2.2.1, panes.2.2.2.2.2.2.1)).1).2.2.1, ((kern_full n_ (panes.1, panes.2.1, panes.2.2.1, panes.2.2.2.1, panes.2.2.2.2.1, panes.2.2.2.2.2.1, panes.2.2.2.2.2.2.1)).1).2.2.2.1, ((kern_full n_ (panes.1, panes.2.1, panes.2.2.1, panes.2.2.2.1, panes.2.2.2.2.1, panes.2.2.2.2.2.1, panes.2.2.2.2.2.2.1)).1).2.2.2.2.1, ((kern_full n_ (panes.1, panes.2.1, panes.2.2.1, panes.2.2.2.1, panes.2.2.2.2.1, panes.2.2.2.2.2.1, panes.2.2.2.2.2.2.1)).1).2.2.2.2.2.1, ((kern_full n_ (panes.1, panes.2.1, panes.2.2.1, panes.2.2.2.1, panes.2.2.2.2.1, panes.2.2.2.2.2.1, panes.2.2.2.2.2.2.1)).1).2.2.2.2.2.2.1, ((kern_full n_ (panes.1, panes.2.1, panes.2.2.1, panes.2.2.2.1, panes.2.2.2.2.1, panes.2.2.2.2.2.1, panes.2.2.2.2.2.2.1)).1).2.2.2.2.2.2.2.1, ((kern_full n_ (panes.1, panes.2.1, panes.2.2.1, panes.2.2.2.1, panes.2.2.2.2.1, panes.2.2.2.2.2.1, panes.2.2.2.2.2.2.1)).1).2.2.2.2.2.2.2.2.1, ((kern_full n_ (panes.1, panes.2.1, panes.2.2.1, panes.2.2.2.1, panes.2.2.2.2.1, panes.2.2.2.2.2.1, panes.2.2.2.2.2.2.1)).1).2.2.2.2.2.2.2.2.2.1, ((kern_full n_ (panes.1, panes.2.1, panes.2.2.1, panes.2.2.2.1, panes.2.2.2.2.1, panes.2.2.2.2.2.1, panes.2.2.2.2.2.2.1)).1).2.2.2.2.2.2.2.2.2.2.1, ((kern_full n_ (panes.1, panes.2.1, panes.2.2.1, panes.2.2.2.1, panes.2.2.2.2.1, panes.2.2.2.2.2.1, panes.2.2.2.2.2.2.1)).1).2.2.2.2.2.2.2.2.2.2.2.1, ((kern_full n_ (panes.1, panes.2.1, panes.2.2.1, panes.2.2.2.1, panes.2.2.2.2.1, panes.2.2.2.2.2.1, panes.2.2.2.2.2.2.1)).1).2.2.2.2.2.2.2.2.2.2.2.2.1, ((kern_full n_ (panes.1, panes.2.1, panes.2.2.1, panes.2.2.2.1, panes.2.2.2.2.1, panes.2.2.2.2.2.1, panes.2.2.2.2.2.2.1)).1).2.2.2.2.2.2.2.2.2.2.2.2.2.1, ()), (((kern_full n_ (panes.1, panes.2.1, panes.2.2.1, panes.2.2.2.1, panes.2.2.2.2.1, panes.2.2.2.2.2.1, panes.2.2.2.2.2.2.1)).2.1).1, ((kern_full n_ (panes.1, panes.2.1, panes.2.2.1, panes.2.2.2.1, panes.2.2.2.2.1, panes.2.2.2.2.2.1, panes.2.2.2.2.2.2.1)).2.1).2.1, ((kern_full n_ (panes.1, panes.2.1, panes.2.2.1, panes.2.2.2.1, panes.2.2.2.2.1, panes.2.2.2.2.2.1, panes.2.2.2.2.2.2.1)).2.1).2.2.1, ((kern_full n_ (panes.1, panes.2.1, panes.2.2.1, panes.2.2.2.1, panes.2.2.2.2.1, panes.2.2.2.2.2.1, panes.2.2.2.2.2.2.1)).2.1).2.2.2.1, ((kern_full n_ (panes.1, panes.2.1, panes.2.2.1, panes.2.2.2.1, panes.2.2.2.2.1, panes.2.2.2.2.2.1, panes.2.2.2.2.2.2.1)).2.1).2.2.2.2.1, ((kern_full n_ (panes.1, panes.2.1, panes.2.2.1, panes.2.2.2.1, panes.2.2.2.2.1, panes.2.2.2.2.2.1, panes.2.2.2.2.2.2.1)).2.1).2.2.2.2.2.1, ((kern_full n_ (panes.1, panes.2.1, panes.2.2.1, panes.2.2.2.1, panes.2.2.2.2.1, panes.2.2.2.2.2.1, panes.2.2.2.2.2.2.1)).2.1).2.2.2.2.2.2.1, ()), ()))
def kern_made_r7_p : U14 := kern_made_r7_q n_ panes (fun y => y)
theorem kern_made_r7_n (K : U14 → β) : kern_made_r7_q n_ panes K = K (kern_made_r7_p n_ panes) := rfl
theorem kern_made_r7 : P41 1 C41.r.r.l.r.b.r.e.r.t (S41_1 n_ v_ panes) k = k ⟨[(6, .one (.fn 85 [.cell [di (((kern_made_r7_p n_ panes).1).1), dl (.one (.int .i64)) (((kern_made_r7_p n_ panes).1).2.1), di (((kern_made_r7_p n_ panes).1).2.2.1), di (((kern_made_r7_p n_ panes).1).2.2.2.1), di (((kern_made_r7_p n_ panes).1).2.2.2.2.1), di (((kern_made_r7_p n_ panes).1).2.2.2.2.2.1), di (((kern_made_r7_p n_ panes).1).2.2.2.2.2.2.1), di (((kern_made_r7_p n_ panes).1).2.2.2.2.2.2.2.1), di (((kern_made_r7_p n_ panes).1).2.2.2.2.2.2.2.2.1), di (((kern_made_r7_p n_ panes).1).2.2.2.2.2.2.2.2.2.1), di (((kern_made_r7_p n_ panes).1).2.2.2.2.2.2.2.2.2.2.1), di (((kern_made_r7_p n_ panes).1).2.2.2.2.2.2.2.2.2.2.2.1), dl (.one (.int .i8)) (((kern_made_r7_p n_ panes).1).2.2.2.2.2.2.2.2.2.2.2.2.1), dl (.one (.int .i32)) (((kern_made_r7_p n_ panes).1).2.2.2.2.2.2.2.2.2.2.2.2.2.1)], .cell [di (((kern_made_r7_p n_ panes).2.1).1), di (((kern_made_r7_p n_ panes).2.1).2.1), di (((kern_made_r7_p n_ panes).2.1).2.2.1), di (((kern_made_r7_p n_ panes).2.1).2.2.2.1), di (((kern_made_r7_p n_ panes).2.1).2.2.2.2.1), di (((kern_made_r7_p n_ panes).2.1).2.2.2.2.2.1), dl (.one (.int .i8)) (((kern_made_r7_p n_ panes).2.1).2.2.2.2.2.2.1)]]))], [[di panes.1, di panes.2.1, di panes.2.2.1, di panes.2.2.2.1, di panes.2.2.2.2.1, di panes.2.2.2.2.2.1, dl (.one (.int .i8)) panes.2.2.2.2.2.2.1]], [], 50⟩ := Eq.trans (by kernel_rfl) (kern_made_r7_n n_ panes (fun y491 : U14 => k ⟨[(6, .one (.fn 85 [.cell [di y491.1.1, dl (.one (.int .i64)) y491.1.2.1, di y491.1.2.2.1, di y491.1.2.2.2.1, di y491.1.2.2.2.2.1, di y491.1.2.2.2.2.2.1, di y491.1.2.2.2.2.2.2.1, di y491.1.2.2.2.2.2.2.2.1, di y491.1.2.2.2.2.2.2.2.2.1, di y491.1.2.2.2.2.2.2.2.2.2.1, di y491.1.2.2.2.2.2.2.2.2.2.2.1, di y491.1.2.2.2.2.2.2.2.2.2.2.2.1, dl (.one (.int .i8)) y491.1.2.2.2.2.2.2.2.2.2.2.2.2.1, dl (.one (.int .i32)) y491.1.2.2.2.2.2.2.2.2.2.2.2.2.2.1], .cell [di y491.2.1.1, di y491.2.1.2.1, di y491.2.1.2.2.1, di y491.2.1.2.2.2.1, di y491.2.1.2.2.2.2.1, di y491.2.1.2.2.2.2.2.1, dl (.one (.int .i8)) y491.2.1.2.2.2.2.2.2.1]]))], [[di panes.1, di panes.2.1, di panes.2.2.1, di panes.2.2.2.1, di panes.2.2.2.2.1, di panes.2.2.2.2.2.1, dl (.one (.int .i8)) panes.2.2.2.2.2.2.1]], [], 50⟩))
abbrev S41_5 : St := ⟨[(3, rC tsNode n_), (4, rC tsI4 v_), (5, rC tsA9 panes), (7, rF 0), (11, ri n_.1), (23, rb (n_.1 == 4))], [[di panes.1, di panes.2.1, di panes.2.2.1, di panes.2.2.2.1, di panes.2.2.2.2.1, di panes.2.2.2.2.2.1, dl (.one (.int .i8)) panes.2.2.2.2.2.2.1]], [], 50⟩
theorem kern_made_f2000009 : P41 1 C41.r.r.l.r.b.r.e.r.e.l (S41_1 n_ v_ panes) k = k (S41_5 n_ v_ panes) := by kernel_rfl
abbrev S41_6 : St := ⟨[(3, rC tsNode n_), (4, rC tsI4 v_), (5, rC tsA9 panes), (7, rF 0), (11, ri n_.1), (23, rb (n_.1 == 5))], [[di panes.1, di panes.2.1, di panes.2.2.1, di panes.2.2.2.1, di panes.2.2.2.2.1, di panes.2.2.2.2.2.1, dl (.one (.int .i8)) panes.2.2.2.2.2.2.1]], [], 50⟩
theorem kern_made_r9 : R41 C41.r.r.l.r.b.r.e.r.e.l.r.e (S41_5 n_ v_ panes) q = q .normal (S41_6 n_ v_ panes) := by kernel_rfl
def kern_made_j8_q (K : Bool → β) : β := (bif (n_.1 == 4) then (K (n_.1 == 4)) else (K (n_.1 == 5)))
def kern_made_j8_p : Bool := kern_made_j8_q n_ (fun y => y)
theorem kern_made_j8_n (K : Bool → β) : kern_made_j8_q n_ K = K (kern_made_j8_p n_) := (bif_k K rfl rfl)
abbrev S41_7 : St := ⟨[(3, rC tsNode n_), (4, rC tsI4 v_), (5, rC tsA9 panes), (7, rF 0), (11, ri n_.1), (23, rb (kern_made_j8_p n_))], [[di panes.1, di panes.2.1, di panes.2.2.1, di panes.2.2.2.1, di panes.2.2.2.2.1, di panes.2.2.2.2.2.1, dl (.one (.int .i8)) panes.2.2.2.2.2.2.1]], [], 50⟩
theorem kern_made_j8 : R41 C41.r.r.l.r.b.r.e.r.e.l (S41_1 n_ v_ panes) (Q41 C41.r.r.l.r.b.r.e.r.e.r q) = R41 C41.r.r.l.r.b.r.e.r.e.r (S41_7 n_ v_ panes) q := by
  refine Eq.trans ?_ (kern_made_j8_n n_ (fun y492 : Bool => R41 C41.r.r.l.r.b.r.e.r.e.r ⟨[(3, rC tsNode n_), (4, rC tsI4 v_), (5, rC tsA9 panes), (7, rF 0), (11, ri n_.1), (23, rb y492)], [[di panes.1, di panes.2.1, di panes.2.2.1, di panes.2.2.2.1, di panes.2.2.2.2.1, di panes.2.2.2.2.2.1, dl (.one (.int .i8)) panes.2.2.2.2.2.2.1]], [], 50⟩ q))
  unfold kern_made_j8_q
  refine (pre1 (kern_made_f2000009 n_ v_ panes _)).trans ?_
  refine (cond_s (b := (n_.1 == 4)) ).trans (bif_g ?_ ?_)
  · refine (skip_eq).trans ?_
    refine (seqC_normal (st' := (S41_5 n_ v_ panes))).trans ?_
    kernel_rfl
  · refine (kern_made_r9 n_ v_ panes _).trans ?_
    refine (seqC_normal (st' := (S41_6 n_ v_ panes))).trans ?_
    kernel_rfl
def kern_made_r10_q (K : U14 → β) : β := (K ((((kern_pool n_ (panes.1, panes.2.1, panes.2.2.1, panes.2.2.2.1, panes.2.2.2.2.1, panes.2.2.2.2.2.1, panes.2.2.2.2.2.2.1)).1).1, ((kern_pool n_ (panes.1, panes.2.1, panes.2.2.1, panes.2.2.2.1, panes.2.2.2.2.1, panes.2.2.2.2.2.1, panes.2.2.2.2.2.2.1)).1).2.1, ((kern_pool n_ (panes.1, panes.2.1, panes.2.2.1, panes.2.2.2.1, panes.2.2.2.2.1, panes.2.2.2.2.2.1, panes.2.2.2.2.2.2.1)).1).2.2.1, ((kern_pool n_ (panes.1, panes.2.1, panes.2.2.1, panes.2.2.2.1, panes.2.2.2.2.1, panes.2.2.2.2.2.1, panes.2.2.2.2.2.2.1)).1).2.2.2.1, ((kern_pool n_ (panes.1, panes.2.1, panes.2.2.1, panes.2.2.2.1, panes.2.2.2.2.1, panes.2.2.2.2.2.1, panes.2.2.2.2.2.2.1)).1).2.2.2.2.1, ((kern_pool n_ (panes.1, panes.2.1, panes.2.2.1, panes.2.2.2.1, panes.2.2.2.2.1, panes.2.2.2.2.2.1, panes.2.2.2.2.2.2.1)).1).2.2.2.2.2.1, ((kern_pool n_ (panes.1, panes.2.1, panes.2.2.1, panes.2.2.2.1, panes.2.2.2.2.1, panes.2.2.2.2.2.1, panes.2.2.2.2.2.2.1)).1).2.2.2.2.2.2.1, ((kern_pool n_ (panes.1, panes.2.1, panes.2.2.1, panes.2.2.2.1, panes.2.2.2.2.1, panes.2.2.2.2.2.1, panes.2.2.2.2.2.2.1)).1).2.2.2.2.2.2.2.1, ((kern_pool n_ (panes.1, panes.2.1, panes.2.2.1, panes.2.2.2.1, panes.2.2.2.2.1, panes.2.2.2.2.2.1, panes.2.2.2.2.2.2.1)).1).2.2.2.2.2.2.2.2.1, ((kern_pool n_ (panes.1, panes.2.1, panes.2.2.1, panes.2.2.2.1, panes.2.2.2.2.1, panes.2.2.2.2.2.1, panes.2.2.2.2.2.2.1)).1).2.2.2.2.2.2.2.2.2.1, ((kern_pool n_ (panes.1, panes.2.1, panes.2.2.1, panes.2.2.2.1, panes.2.2.2.2.1, panes.2.2.2.2.2.1, panes.2.2.2.2.2.2.1)).1).2.2.2.2.2.2.2.2.2.2.1, ((kern_pool n_ (panes.1, panes.2.1, panes.2.2.1, panes.2.2.2.1, panes.2.2.2.2.1, panes.2.2.2.2.2.1, panes.2.2.2.2.2.2.1)).1).2.2.2.2.2.2.2.2.2.2.2.1, ((kern_pool n_ (panes.1, panes.2.1, panes.2.2.1, panes.2.2.2.1, panes.2.2.2.2.1, panes.2.2.2.2.2.1, panes.2.2.2.2.2.2.1)).1).2.2.2.2.2.2.2.2.2.2.2.2.1, ((kern_pool n_ (panes.1, panes.2.1, panes.2.2.1, panes.2.2.2.1, panes.2.2.2.2.1, panes.2.2.2.2.2.1, panes.2.2.2.2.2.2.1)).1).2.2.2.2.2.2.2.2.2.2.2.2.2.1, ()), (((kern_pool n_ (panes.1, panes.2.1, panes.2.2.1, panes.2.2.2.1, panes.2.2.2.2.1, panes.2.2.2.2.2.1, panes.2.2.2.2.2.2.1)).2.1).1, ((kern_pool n_ (panes.1, panes.2.1, panes.2.2.1, panes.2.2.2.1, panes.2.2.2.2.1, panes.2.2.2.2.2.1, panes.2.2.2.2.2.2.1)).2.1).2.1, ((kern_pool n_ (panes.1, panes.2.1, panes.2.2.1, panes.2.2.2.1, panes.2.2.2.2.1, panes.2.2.2.2.2.1, panes.2.2.2.2.2.2.1)).2.1).2.2.1, ((kern_pool n_ (panes.1, panes.2.1, panes.2.2.1, panes.2.2.2.1, panes.2.2.2.2.1, panes.2.2.2.2.2.1, panes.2.2.2.2.2.2.1)).2.1).2.2.2.1, ((kern_pool n_ (panes.1, panes.2.1, panes.2.2.1, panes.2.2.2.1, panes.2.2.2.2.1, panes.2.2.2.2.2.1, panes.2.2.2.2.2.2.1)).2.1).2.2.2.2.1, ((kern_pool n_ (panes.1, panes.2.1, panes.2.2.1, panes.2.2.2.1, panes.2.2.2.2.1, panes.2.2.2.2.2.1, panes.2.2.2.2.2.2.1)).2.1).2.2.2.2.2.1, ((kern_pool n_ (panes.1, panes.2.1, panes.2.2.1, panes.2.2.2.1, panes.2.2.2.2.1, panes.2.2.2.2.2.1, panes.2.2.2.2.2.2.1)).2.1).2.2.2.2.2.2.1, ()), ()))
def kern_made_r10_p : U14 := kern_made_r10_q n_ panes (fun y => y)
theorem kern_made_r10_n (K : U14 → β) : kern_made_r10_q n_ panes K = K (kern_made_r10_p n_ panes) := rfl
theorem kern_made_r10 : P41 1 C41.r.r.l.r.b.r.e.r.e.r.t (S41_7 n_ v_ panes) k = k ⟨[(6, .one (.fn 86 [.cell [di (((kern_made_r10_p n_ panes).1).1), dl (.one (.int .i64)) (((kern_made_r10_p n_ panes).1).2.1), di (((kern_made_r10_p n_ panes).1).2.2.1), di (((kern_made_r10_p n_ panes).1).2.2.2.1), di (((kern_made_r10_p n_ panes).1).2.2.2.2.1), di (((kern_made_r10_p n_ panes).1).2.2.2.2.2.1), di (((kern_made_r10_p n_ panes).1).2.2.2.2.2.2.1), di (((kern_made_r10_p n_ panes).1).2.2.2.2.2.2.2.1), di (((kern_made_r10_p n_ panes).1).2.2.2.2.2.2.2.2.1), di (((kern_made_r10_p n_ panes).1).2.2.2.2.2.2.2.2.2.1), di (((kern_made_r10_p n_ panes).1).2.2.2.2.2.2.2.2.2.2.1), di (((kern_made_r10_p n_ panes).1).2.2.2.2.2.2.2.2.2.2.2.1), dl (.one (.int .i8)) (((kern_made_r10_p n_ panes).1).2.2.2.2.2.2.2.2.2.2.2.2.1), dl (.one (.int .i32)) (((kern_made_r10_p n_ panes).1).2.2.2.2.2.2.2.2.2.2.2.2.2.1)], .cell [di (((kern_made_r10_p n_ panes).2.1).1), di (((kern_made_r10_p n_ panes).2.1).2.1), di (((kern_made_r10_p n_ panes).2.1).2.2.1), di (((kern_made_r10_p n_ panes).2.1).2.2.2.1), di (((kern_made_r10_p n_ panes).2.1).2.2.2.2.1), di (((kern_made_r10_p n_ panes).2.1).2.2.2.2.2.1), dl (.one (.int .i8)) (((kern_made_r10_p n_ panes).2.1).2.2.2.2.2.2.1)]]))], [[di panes.1, di panes.2.1, di panes.2.2.1, di panes.2.2.2.1, di panes.2.2.2.2.1, di panes.2.2.2.2.2.1, dl (.one (.int .i8)) panes.2.2.2.2.2.2.1]], [], 50⟩ := Eq.trans (by kernel_rfl) (kern_made_r10_n n_ panes (fun y493 : U14 => k ⟨[(6, .one (.fn 86 [.cell [di y493.1.1, dl (.one (.int .i64)) y493.1.2.1, di y493.1.2.2.1, di y493.1.2.2.2.1, di y493.1.2.2.2.2.1, di y493.1.2.2.2.2.2.1, di y493.1.2.2.2.2.2.2.1, di y493.1.2.2.2.2.2.2.2.1, di y493.1.2.2.2.2.2.2.2.2.1, di y493.1.2.2.2.2.2.2.2.2.2.1, di y493.1.2.2.2.2.2.2.2.2.2.2.1, di y493.1.2.2.2.2.2.2.2.2.2.2.2.1, dl (.one (.int .i8)) y493.1.2.2.2.2.2.2.2.2.2.2.2.2.1, dl (.one (.int .i32)) y493.1.2.2.2.2.2.2.2.2.2.2.2.2.2.1], .cell [di y493.2.1.1, di y493.2.1.2.1, di y493.2.1.2.2.1, di y493.2.1.2.2.2.1, di y493.2.1.2.2.2.2.1, di y493.2.1.2.2.2.2.2.1, dl (.one (.int .i8)) y493.2.1.2.2.2.2.2.2.1]]))], [[di panes.1, di panes.2.1, di panes.2.2.1, di panes.2.2.2.1, di panes.2.2.2.2.1, di panes.2.2.2.2.2.1, dl (.one (.int .i8)) panes.2.2.2.2.2.2.1]], [], 50⟩))
abbrev S41_8 : St := ⟨[(3, rC tsNode n_), (4, rC tsI4 v_), (5, rC tsA9 panes), (7, rF 0), (11, ri n_.1), (29, rb (n_.1 == 6))], [[di panes.1, di panes.2.1, di panes.2.2.1, di panes.2.2.2.1, di panes.2.2.2.2.1, di panes.2.2.2.2.2.1, dl (.one (.int .i8)) panes.2.2.2.2.2.2.1]], [], 50⟩
theorem kern_made_f2000012 : P41 1 C41.r.r.l.r.b.r.e.r.e.r.e.l (S41_7 n_ v_ panes) k = k (S41_8 n_ v_ panes) := by kernel_rfl
abbrev S41_9 : St := ⟨[(3, rC tsNode n_), (4, rC tsI4 v_), (5, rC tsA9 panes), (7, rF 0), (11, ri n_.1), (29, rb (n_.1 == 7))], [[di panes.1, di panes.2.1, di panes.2.2.1, di panes.2.2.2.1, di panes.2.2.2.2.1, di panes.2.2.2.2.2.1, dl (.one (.int .i8)) panes.2.2.2.2.2.2.1]], [], 50⟩
theorem kern_made_r12 : R41 C41.r.r.l.r.b.r.e.r.e.r.e.l.r.e (S41_8 n_ v_ panes) q = q .normal (S41_9 n_ v_ panes) := by kernel_rfl
def kern_made_j11_q (K : Bool → β) : β := (bif (n_.1 == 6) then (K (n_.1 == 6)) else (K (n_.1 == 7)))
def kern_made_j11_p : Bool := kern_made_j11_q n_ (fun y => y)
theorem kern_made_j11_n (K : Bool → β) : kern_made_j11_q n_ K = K (kern_made_j11_p n_) := (bif_k K rfl rfl)
abbrev S41_10 : St := ⟨[(3, rC tsNode n_), (4, rC tsI4 v_), (5, rC tsA9 panes), (7, rF 0), (11, ri n_.1), (29, rb (kern_made_j11_p n_))], [[di panes.1, di panes.2.1, di panes.2.2.1, di panes.2.2.2.1, di panes.2.2.2.2.1, di panes.2.2.2.2.2.1, dl (.one (.int .i8)) panes.2.2.2.2.2.2.1]], [], 50⟩
theorem kern_made_j11 : R41 C41.r.r.l.r.b.r.e.r.e.r.e.l (S41_7 n_ v_ panes) (Q41 C41.r.r.l.r.b.r.e.r.e.r.e.r q) = R41 C41.r.r.l.r.b.r.e.r.e.r.e.r (S41_10 n_ v_ panes) q := by
  refine Eq.trans ?_ (kern_made_j11_n n_ (fun y494 : Bool => R41 C41.r.r.l.r.b.r.e.r.e.r.e.r ⟨[(3, rC tsNode n_), (4, rC tsI4 v_), (5, rC tsA9 panes), (7, rF 0), (11, ri n_.1), (29, rb y494)], [[di panes.1, di panes.2.1, di panes.2.2.1, di panes.2.2.2.1, di panes.2.2.2.2.1, di panes.2.2.2.2.2.1, dl (.one (.int .i8)) panes.2.2.2.2.2.2.1]], [], 50⟩ q))
  unfold kern_made_j11_q
  refine (pre1 (kern_made_f2000012 n_ v_ panes _)).trans ?_
  refine (cond_s (b := (n_.1 == 6)) ).trans (bif_g ?_ ?_)
  · refine (skip_eq).trans ?_
    refine (seqC_normal (st' := (S41_8 n_ v_ panes))).trans ?_
    kernel_rfl
  · refine (kern_made_r12 n_ v_ panes _).trans ?_
    refine (seqC_normal (st' := (S41_9 n_ v_ panes))).trans ?_
    kernel_rfl
def kern_made_r13_q (K : U18 → β) : β := (K ((((kern_pair n_ (panes.1, panes.2.1, panes.2.2.1, panes.2.2.2.1, panes.2.2.2.2.1, panes.2.2.2.2.2.1, panes.2.2.2.2.2.2.1) panes.2.2.2.2.2.2.2).1).1, ((kern_pair n_ (panes.1, panes.2.1, panes.2.2.1, panes.2.2.2.1, panes.2.2.2.2.1, panes.2.2.2.2.2.1, panes.2.2.2.2.2.2.1) panes.2.2.2.2.2.2.2).1).2.1, ((kern_pair n_ (panes.1, panes.2.1, panes.2.2.1, panes.2.2.2.1, panes.2.2.2.2.1, panes.2.2.2.2.2.1, panes.2.2.2.2.2.2.1) panes.2.2.2.2.2.2.2).1).2.2.1, ((kern_pair n_ (panes.1, panes.2.1, panes.2.2.1, panes.2.2.2.1, panes.2.2.2.2.1, panes.2.2.2.2.2.1, panes.2.2.2.2.2.2.1) panes.2.2.2.2.2.2.2).1).2.2.2.1, ((kern_pair n_ (panes.1, panes.2.1, panes.2.2.1, panes.2.2.2.1, panes.2.2.2.2.1, panes.2.2.2.2.2.1, panes.2.2.2.2.2.2.1) panes.2.2.2.2.2.2.2).1).2.2.2.2.1, ((kern_pair n_ (panes.1, panes.2.1, panes.2.2.1, panes.2.2.2.1, panes.2.2.2.2.1, panes.2.2.2.2.2.1, panes.2.2.2.2.2.2.1) panes.2.2.2.2.2.2.2).1).2.2.2.2.2.1, ((kern_pair n_ (panes.1, panes.2.1, panes.2.2.1, panes.2.2.2.1, panes.2.2.2.2.1, panes.2.2.2.2.2.1, panes.2.2.2.2.2.2.1) panes.2.2.2.2.2.2.2).1).2.2.2.2.2.2.1, ()), (((kern_pair n_ (panes.1, panes.2.1, panes.2.2.1, panes.2.2.2.1, panes.2.2.2.2.1, panes.2.2.2.2.2.1, panes.2.2.2.2.2.2.1) panes.2.2.2.2.2.2.2).2.1).1, ((kern_pair n_ (panes.1, panes.2.1, panes.2.2.1, panes.2.2.2.1, panes.2.2.2.2.1, panes.2.2.2.2.2.1, panes.2.2.2.2.2.2.1) panes.2.2.2.2.2.2.2).2.1).2.1, ((kern_pair n_ (panes.1, panes.2.1, panes.2.2.1, panes.2.2.2.1, panes.2.2.2.2.1, panes.2.2.2.2.2.1, panes.2.2.2.2.2.2.1) panes.2.2.2.2.2.2.2).2.1).2.2.1, ((kern_pair n_ (panes.1, panes.2.1, panes.2.2.1, panes.2.2.2.1, panes.2.2.2.2.1, panes.2.2.2.2.2.1, panes.2.2.2.2.2.2.1) panes.2.2.2.2.2.2.2).2.1).2.2.2.1, ((kern_pair n_ (panes.1, panes.2.1, panes.2.2.1, panes.2.2.2.1, panes.2.2.2.2.1, panes.2.2.2.2.2.1, panes.2.2.2.2.2.2.1) panes.2.2.2.2.2.2.2).2.1).2.2.2.2.1, ((kern_pair n_ (panes.1, panes.2.1, panes.2.2.1, panes.2.2.2.1, panes.2.2.2.2.1, panes.2.2.2.2.2.1, panes.2.2.2.2.2.2.1) panes.2.2.2.2.2.2.2).2.1).2.2.2.2.2.1, ((kern_pair n_ (panes.1, panes.2.1, panes.2.2.1, panes.2.2.2.1, panes.2.2.2.2.1, panes.2.2.2.2.2.1, panes.2.2.2.2.2.2.1) panes.2.2.2.2.2.2.2).2.1).2.2.2.2.2.2.1, ()), (((kern_pair n_ (panes.1, panes.2.1, panes.2.2.1, panes.2.2.2.1, panes.2.2.2.2.1, panes.2.2.2.2.2.1, panes.2.2.2.2.2.2.1) panes.2.2.2.2.2.2.2).2.2.1).1, ((kern_pair n_ (panes.1, panes.2.1, panes.2.2.1, panes.2.2.2.1, panes.2.2.2.2.1, panes.2.2.2.2.2.1, panes.2.2.2.2.2.2.1) panes.2.2.2.2.2.2.2).2.2.1).2.1, ((kern_pair n_ (panes.1, panes.2.1, panes.2.2.1, panes.2.2.2.1, panes.2.2.2.2.1, panes.2.2.2.2.2.1, panes.2.2.2.2.2.2.1) panes.2.2.2.2.2.2.2).2.2.1).2.2.1, ((kern_pair n_ (panes.1, panes.2.1, panes.2.2.1, panes.2.2.2.1, panes.2.2.2.2.1, panes.2.2.2.2.2.1, panes.2.2.2.2.2.2.1) panes.2.2.2.2.2.2.2).2.2.1).2.2.2.1, ((kern_pair n_ (panes.1, panes.2.1, panes.2.2.1, panes.2.2.2.1, panes.2.2.2.2.1, panes.2.2.2.2.2.1, panes.2.2.2.2.2.2.1) panes.2.2.2.2.2.2.2).2.2.1).2.2.2.2.1, ((kern_pair n_ (panes.1, panes.2.1, panes.2.2.1, panes.2.2.2.1, panes.2.2.2.2.1, panes.2.2.2.2.2.1, panes.2.2.2.2.2.2.1) panes.2.2.2.2.2.2.2).2.2.1).2.2.2.2.2.1, ((kern_pair n_ (panes.1, panes.2.1, panes.2.2.1, panes.2.2.2.1, panes.2.2.2.2.1, panes.2.2.2.2.2.1, panes.2.2.2.2.2.2.1) panes.2.2.2.2.2.2.2).2.2.1).2.2.2.2.2.2.1, ((kern_pair n_ (panes.1, panes.2.1, panes.2.2.1, panes.2.2.2.1, panes.2.2.2.2.1, panes.2.2.2.2.2.1, panes.2.2.2.2.2.2.1) panes.2.2.2.2.2.2.2).2.2.1).2.2.2.2.2.2.2.1, ((kern_pair n_ (panes.1, panes.2.1, panes.2.2.1, panes.2.2.2.1, panes.2.2.2.2.1, panes.2.2.2.2.2.1, panes.2.2.2.2.2.2.1) panes.2.2.2.2.2.2.2).2.2.1).2.2.2.2.2.2.2.2.1, ((kern_pair n_ (panes.1, panes.2.1, panes.2.2.1, panes.2.2.2.1, panes.2.2.2.2.1, panes.2.2.2.2.2.1, panes.2.2.2.2.2.2.1) panes.2.2.2.2.2.2.2).2.2.1).2.2.2.2.2.2.2.2.2.1, ((kern_pair n_ (panes.1, panes.2.1, panes.2.2.1, panes.2.2.2.1, panes.2.2.2.2.1, panes.2.2.2.2.2.1, panes.2.2.2.2.2.2.1) panes.2.2.2.2.2.2.2).2.2.1).2.2.2.2.2.2.2.2.2.2.1, ((kern_pair n_ (panes.1, panes.2.1, panes.2.2.1, panes.2.2.2.1, panes.2.2.2.2.1, panes.2.2.2.2.2.1, panes.2.2.2.2.2.2.1) panes.2.2.2.2.2.2.2).2.2.1).2.2.2.2.2.2.2.2.2.2.2.1, ((kern_pair n_ (panes.1, panes.2.1, panes.2.2.1, panes.2.2.2.1, panes.2.2.2.2.1, panes.2.2.2.2.2.1, panes.2.2.2.2.2.2.1) panes.2.2.2.2.2.2.2).2.2.1).2.2.2.2.2.2.2.2.2.2.2.2.1, ((kern_pair n_ (panes.1, panes.2.1, panes.2.2.1, panes.2.2.2.1, panes.2.2.2.2.1, panes.2.2.2.2.2.1, panes.2.2.2.2.2.2.1) panes.2.2.2.2.2.2.2).2.2.1).2.2.2.2.2.2.2.2.2.2.2.2.2.1, ()), ()))
def kern_made_r13_p : U18 := kern_made_r13_q n_ panes (fun y => y)
theorem kern_made_r13_n (K : U18 → β) : kern_made_r13_q n_ panes K = K (kern_made_r13_p n_ panes) := rfl
theorem kern_made_r13 : P41 1 C41.r.r.l.r.b.r.e.r.e.r.e.r.t (S41_10 n_ v_ panes) k = k ⟨[(6, .one (.fn 89 [.cell [di (((kern_made_r13_p n_ panes).1).1), di (((kern_made_r13_p n_ panes).1).2.1), di (((kern_made_r13_p n_ panes).1).2.2.1), di (((kern_made_r13_p n_ panes).1).2.2.2.1), di (((kern_made_r13_p n_ panes).1).2.2.2.2.1), di (((kern_made_r13_p n_ panes).1).2.2.2.2.2.1), dl (.one (.int .i8)) (((kern_made_r13_p n_ panes).1).2.2.2.2.2.2.1)], .cell [di (((kern_made_r13_p n_ panes).2.1).1), di (((kern_made_r13_p n_ panes).2.1).2.1), di (((kern_made_r13_p n_ panes).2.1).2.2.1), di (((kern_made_r13_p n_ panes).2.1).2.2.2.1), di (((kern_made_r13_p n_ panes).2.1).2.2.2.2.1), di (((kern_made_r13_p n_ panes).2.1).2.2.2.2.2.1), dl (.one (.int .i8)) (((kern_made_r13_p n_ panes).2.1).2.2.2.2.2.2.1)], .cell [di (((kern_made_r13_p n_ panes).2.2.1).1), dl (.one (.int .i64)) (((kern_made_r13_p n_ panes).2.2.1).2.1), di (((kern_made_r13_p n_ panes).2.2.1).2.2.1), di (((kern_made_r13_p n_ panes).2.2.1).2.2.2.1), di (((kern_made_r13_p n_ panes).2.2.1).2.2.2.2.1), di (((kern_made_r13_p n_ panes).2.2.1).2.2.2.2.2.1), di (((kern_made_r13_p n_ panes).2.2.1).2.2.2.2.2.2.1), di (((kern_made_r13_p n_ panes).2.2.1).2.2.2.2.2.2.2.1), di (((kern_made_r13_p n_ panes).2.2.1).2.2.2.2.2.2.2.2.1), di (((kern_made_r13_p n_ panes).2.2.1).2.2.2.2.2.2.2.2.2.1), di (((kern_made_r13_p n_ panes).2.2.1).2.2.2.2.2.2.2.2.2.2.1), di (((kern_made_r13_p n_ panes).2.2.1).2.2.2.2.2.2.2.2.2.2.2.1), dl (.one (.int .i8)) (((kern_made_r13_p n_ panes).2.2.1).2.2.2.2.2.2.2.2.2.2.2.2.1), dl (.one (.int .i32)) (((kern_made_r13_p n_ panes).2.2.1).2.2.2.2.2.2.2.2.2.2.2.2.2.1)]]))], [[di panes.1, di panes.2.1, di panes.2.2.1, di panes.2.2.2.1, di panes.2.2.2.2.1, di panes.2.2.2.2.2.1, dl (.one (.int .i8)) panes.2.2.2.2.2.2.1]], [], 50⟩ := Eq.trans (by kernel_rfl) (kern_made_r13_n n_ panes (fun y495 : U18 => k ⟨[(6, .one (.fn 89 [.cell [di y495.1.1, di y495.1.2.1, di y495.1.2.2.1, di y495.1.2.2.2.1, di y495.1.2.2.2.2.1, di y495.1.2.2.2.2.2.1, dl (.one (.int .i8)) y495.1.2.2.2.2.2.2.1], .cell [di y495.2.1.1, di y495.2.1.2.1, di y495.2.1.2.2.1, di y495.2.1.2.2.2.1, di y495.2.1.2.2.2.2.1, di y495.2.1.2.2.2.2.2.1, dl (.one (.int .i8)) y495.2.1.2.2.2.2.2.2.1], .cell [di y495.2.2.1.1, dl (.one (.int .i64)) y495.2.2.1.2.1, di y495.2.2.1.2.2.1, di y495.2.2.1.2.2.2.1, di y495.2.2.1.2.2.2.2.1, di y495.2.2.1.2.2.2.2.2.1, di y495.2.2.1.2.2.2.2.2.2.1, di y495.2.2.1.2.2.2.2.2.2.2.1, di y495.2.2.1.2.2.2.2.2.2.2.2.1, di y495.2.2.1.2.2.2.2.2.2.2.2.2.1, di y495.2.2.1.2.2.2.2.2.2.2.2.2.2.1, di y495.2.2.1.2.2.2.2.2.2.2.2.2.2.2.1, dl (.one (.int .i8)) y495.2.2.1.2.2.2.2.2.2.2.2.2.2.2.2.1, dl (.one (.int .i32)) y495.2.2.1.2.2.2.2.2.2.2.2.2.2.2.2.2.1]]))], [[di panes.1, di panes.2.1, di panes.2.2.1, di panes.2.2.2.1, di panes.2.2.2.2.1, di panes.2.2.2.2.2.1, dl (.one (.int .i8)) panes.2.2.2.2.2.2.1]], [], 50⟩))
theorem kern_made_f1000015 : P41 1 C41.r.r.l.r.b.r.e.r.e.r.e.r.e (S41_10 n_ v_ panes) k = k ⟨[(3, rC tsNode n_), (4, rC tsI4 v_), (5, rC tsA9 panes), (7, rF 0), (11, ri n_.1), (37, rb (n_.1 == 8))], [[di panes.1, di panes.2.1, di panes.2.2.1, di panes.2.2.2.1, di panes.2.2.2.2.1, di panes.2.2.2.2.2.1, dl (.one (.int .i8)) panes.2.2.2.2.2.2.1]], [], 50⟩ := by kernel_rfl
theorem kern_made_fz : P41 1 C41.r.r.l.r.b.r.e.r.e.r.e.r.e.r.t (S41_1 n_ v_ panes) k = k ⟨[(6, .one (.fn 73 [.ref 0 0, .cell (tsNode.leaves n_)]))], [[di panes.1, di panes.2.1, di panes.2.2.1, di panes.2.2.2.1, di panes.2.2.2.2.1, di panes.2.2.2.2.2.1, dl (.one (.int .i8)) panes.2.2.2.2.2.2.1]], [], 50⟩ := by kernel_rfl
theorem kern_made_f1000017 : P41 1 C41.r.r.l.r.b.r.e.r.e.r.e.r.e.r.e (S41_1 n_ v_ panes) k = k ⟨[(3, rC tsNode n_), (4, rC tsI4 v_), (5, rC tsA9 panes), (7, rF 0), (11, ri n_.1), (40, rb (n_.1 == 9))], [[di panes.1, di panes.2.1, di panes.2.2.1, di panes.2.2.2.1, di panes.2.2.2.2.1, di panes.2.2.2.2.2.1, dl (.one (.int .i8)) panes.2.2.2.2.2.2.1]], [], 50⟩ := by kernel_rfl
theorem kern_made_fzx1 : P41 1 C41.r.r.l.r.b.r.e.r.e.r.e.r.e.r.e.r.t (S41_1 n_ v_ panes) k = k ⟨[(6, .one (.fn 75 [.ref 0 0]))], [[di panes.1, di panes.2.1, di panes.2.2.1, di panes.2.2.2.1, di panes.2.2.2.2.1, di panes.2.2.2.2.2.1, dl (.one (.int .i8)) panes.2.2.2.2.2.2.1]], [], 50⟩ := by kernel_rfl
theorem kern_made_f1000019 : P41 1 C41.r.r.l.r.b.r.e.r.e.r.e.r.e.r.e.r.e (S41_1 n_ v_ panes) k = k ⟨[(3, rC tsNode n_), (4, rC tsI4 v_), (5, rC tsA9 panes), (7, rF 0), (11, ri n_.1), (43, rb (n_.1 == 10))], [[di panes.1, di panes.2.1, di panes.2.2.1, di panes.2.2.2.1, di panes.2.2.2.2.1, di panes.2.2.2.2.2.1, dl (.one (.int .i8)) panes.2.2.2.2.2.2.1]], [], 50⟩ := by kernel_rfl
theorem kern_made_fzx2 : P41 1 C41.r.r.l.r.b.r.e.r.e.r.e.r.e.r.e.r.e.r.t (S41_1 n_ v_ panes) k = k ⟨[(6, .one (.fn 76 [.ref 0 0, .cell (tsA9.leaves panes)]))], [[di panes.1, di panes.2.1, di panes.2.2.1, di panes.2.2.2.1, di panes.2.2.2.2.1, di panes.2.2.2.2.2.1, dl (.one (.int .i8)) panes.2.2.2.2.2.2.1]], [], 50⟩ := by kernel_rfl
theorem kern_made_f1000021 : P41 1 C41.r.r.l.r.b.r.e.r.e.r.e.r.e.r.e.r.e.r.e (S41_1 n_ v_ panes) k = k ⟨[(3, rC tsNode n_), (4, rC tsI4 v_), (7, rF 0), (46, rb (n_.1 == 11))], [[di panes.1, di panes.2.1, di panes.2.2.1, di panes.2.2.2.1, di panes.2.2.2.2.1, di panes.2.2.2.2.2.1, dl (.one (.int .i8)) panes.2.2.2.2.2.2.1]], [], 50⟩ := by kernel_rfl
abbrev S41_11 : St := ⟨[(3, rC tsNode n_), (4, rC tsI4 v_), (7, rF 0)], [[di panes.1, di panes.2.1, di panes.2.2.1, di panes.2.2.2.1, di panes.2.2.2.2.1, di panes.2.2.2.2.2.1, dl (.one (.int .i8)) panes.2.2.2.2.2.2.1]], [], 50⟩
theorem kern_made_fzx3 : P41 1 C41.r.r.l.r.b.r.e.r.e.r.e.r.e.r.e.r.e.r.e.r.t (S41_11 n_ v_ panes) k = k ⟨[(6, .one (.fn 77 [.ref 0 0, .cell (tsI4.leaves v_)]))], [[di panes.1, di panes.2.1, di panes.2.2.1, di panes.2.2.2.1, di panes.2.2.2.2.1, di panes.2.2.2.2.2.1, dl (.one (.int .i8)) panes.2.2.2.2.2.2.1]], [], 50⟩ := by kernel_rfl
abbrev S41_12 : St := ⟨[(3, rC tsNode n_), (7, rF 0)], [[di panes.1, di panes.2.1, di panes.2.2.1, di panes.2.2.2.1, di panes.2.2.2.2.1, di panes.2.2.2.2.2.1, dl (.one (.int .i8)) panes.2.2.2.2.2.2.1]], [], 50⟩
theorem kern_made_fzx4 : P41 1 C41.r.r.r (S41_12 n_ panes) k = k ⟨[(6, .one (.fn 79 [.cell (tsNode.leaves n_), .ref 0 0]))], [[di panes.1, di panes.2.1, di panes.2.2.1, di panes.2.2.2.1, di panes.2.2.2.2.1, di panes.2.2.2.2.2.1, dl (.one (.int .i8)) panes.2.2.2.2.2.2.1]], [], 50⟩ := by kernel_rfl
/-- quilt/kern.made -/
def kern_made_q (K : U26 → β) : β := (bif (kern_made_j3_p n_) then (K (Sum.inr (Sum.inr (Sum.inr (Sum.inr (Sum.inr (Sum.inl ((((kern_made_r5_p n_ panes).1).1, ((kern_made_r5_p n_ panes).1).2.1, ((kern_made_r5_p n_ panes).1).2.2.1, ((kern_made_r5_p n_ panes).1).2.2.2.1, ((kern_made_r5_p n_ panes).1).2.2.2.2.1, ((kern_made_r5_p n_ panes).1).2.2.2.2.2.1, ((kern_made_r5_p n_ panes).1).2.2.2.2.2.2.1, ((kern_made_r5_p n_ panes).1).2.2.2.2.2.2.2.1, ((kern_made_r5_p n_ panes).1).2.2.2.2.2.2.2.2.1, ((kern_made_r5_p n_ panes).1).2.2.2.2.2.2.2.2.2.1, ((kern_made_r5_p n_ panes).1).2.2.2.2.2.2.2.2.2.2.1, ((kern_made_r5_p n_ panes).1).2.2.2.2.2.2.2.2.2.2.2.1, ((kern_made_r5_p n_ panes).1).2.2.2.2.2.2.2.2.2.2.2.2.1, ((kern_made_r5_p n_ panes).1).2.2.2.2.2.2.2.2.2.2.2.2.2.1, ()), (((kern_made_r5_p n_ panes).2.1).1, ((kern_made_r5_p n_ panes).2.1).2.1, ((kern_made_r5_p n_ panes).2.1).2.2.1, ((kern_made_r5_p n_ panes).2.1).2.2.2.1, ((kern_made_r5_p n_ panes).2.1).2.2.2.2.1, ((kern_made_r5_p n_ panes).2.1).2.2.2.2.2.1, ((kern_made_r5_p n_ panes).2.1).2.2.2.2.2.2.1, ()), ())))))))) else (bif (n_.1 == 3) then (K (Sum.inr (Sum.inr (Sum.inr (Sum.inr (Sum.inr (Sum.inr (Sum.inl ((((kern_made_r7_p n_ panes).1).1, ((kern_made_r7_p n_ panes).1).2.1, ((kern_made_r7_p n_ panes).1).2.2.1, ((kern_made_r7_p n_ panes).1).2.2.2.1, ((kern_made_r7_p n_ panes).1).2.2.2.2.1, ((kern_made_r7_p n_ panes).1).2.2.2.2.2.1, ((kern_made_r7_p n_ panes).1).2.2.2.2.2.2.1, ((kern_made_r7_p n_ panes).1).2.2.2.2.2.2.2.1, ((kern_made_r7_p n_ panes).1).2.2.2.2.2.2.2.2.1, ((kern_made_r7_p n_ panes).1).2.2.2.2.2.2.2.2.2.1, ((kern_made_r7_p n_ panes).1).2.2.2.2.2.2.2.2.2.2.1, ((kern_made_r7_p n_ panes).1).2.2.2.2.2.2.2.2.2.2.2.1, ((kern_made_r7_p n_ panes).1).2.2.2.2.2.2.2.2.2.2.2.2.1, ((kern_made_r7_p n_ panes).1).2.2.2.2.2.2.2.2.2.2.2.2.2.1, ()), (((kern_made_r7_p n_ panes).2.1).1, ((kern_made_r7_p n_ panes).2.1).2.1, ((kern_made_r7_p n_ panes).2.1).2.2.1, ((kern_made_r7_p n_ panes).2.1).2.2.2.1, ((kern_made_r7_p n_ panes).2.1).2.2.2.2.1, ((kern_made_r7_p n_ panes).2.1).2.2.2.2.2.1, ((kern_made_r7_p n_ panes).2.1).2.2.2.2.2.2.1, ()), ()))))))))) else (bif (kern_made_j8_p n_) then (K (Sum.inr (Sum.inr (Sum.inr (Sum.inr (Sum.inr (Sum.inr (Sum.inr (Sum.inl ((((kern_made_r10_p n_ panes).1).1, ((kern_made_r10_p n_ panes).1).2.1, ((kern_made_r10_p n_ panes).1).2.2.1, ((kern_made_r10_p n_ panes).1).2.2.2.1, ((kern_made_r10_p n_ panes).1).2.2.2.2.1, ((kern_made_r10_p n_ panes).1).2.2.2.2.2.1, ((kern_made_r10_p n_ panes).1).2.2.2.2.2.2.1, ((kern_made_r10_p n_ panes).1).2.2.2.2.2.2.2.1, ((kern_made_r10_p n_ panes).1).2.2.2.2.2.2.2.2.1, ((kern_made_r10_p n_ panes).1).2.2.2.2.2.2.2.2.2.1, ((kern_made_r10_p n_ panes).1).2.2.2.2.2.2.2.2.2.2.1, ((kern_made_r10_p n_ panes).1).2.2.2.2.2.2.2.2.2.2.2.1, ((kern_made_r10_p n_ panes).1).2.2.2.2.2.2.2.2.2.2.2.2.1, ((kern_made_r10_p n_ panes).1).2.2.2.2.2.2.2.2.2.2.2.2.2.1, ()), (((kern_made_r10_p n_ panes).2.1).1, ((kern_made_r10_p n_ panes).2.1).2.1, ((kern_made_r10_p n_ panes).2.1).2.2.1, ((kern_made_r10_p n_ panes).2.1).2.2.2.1, ((kern_made_r10_p n_ panes).2.1).2.2.2.2.1, ((kern_made_r10_p n_ panes).2.1).2.2.2.2.2.1, ((kern_made_r10_p n_ panes).2.1).2.2.2.2.2.2.1, ()), ())))))))))) else (bif (kern_made_j11_p n_) then (K (Sum.inr (Sum.inr (Sum.inr (Sum.inr (Sum.inr (Sum.inr (Sum.inr (Sum.inr ((((kern_made_r13_p n_ panes).1).1, ((kern_made_r13_p n_ panes).1).2.1, ((kern_made_r13_p n_ panes).1).2.2.1, ((kern_made_r13_p n_ panes).1).2.2.2.1, ((kern_made_r13_p n_ panes).1).2.2.2.2.1, ((kern_made_r13_p n_ panes).1).2.2.2.2.2.1, ((kern_made_r13_p n_ panes).1).2.2.2.2.2.2.1, ()), (((kern_made_r13_p n_ panes).2.1).1, ((kern_made_r13_p n_ panes).2.1).2.1, ((kern_made_r13_p n_ panes).2.1).2.2.1, ((kern_made_r13_p n_ panes).2.1).2.2.2.1, ((kern_made_r13_p n_ panes).2.1).2.2.2.2.1, ((kern_made_r13_p n_ panes).2.1).2.2.2.2.2.1, ((kern_made_r13_p n_ panes).2.1).2.2.2.2.2.2.1, ()), (((kern_made_r13_p n_ panes).2.2.1).1, ((kern_made_r13_p n_ panes).2.2.1).2.1, ((kern_made_r13_p n_ panes).2.2.1).2.2.1, ((kern_made_r13_p n_ panes).2.2.1).2.2.2.1, ((kern_made_r13_p n_ panes).2.2.1).2.2.2.2.1, ((kern_made_r13_p n_ panes).2.2.1).2.2.2.2.2.1, ((kern_made_r13_p n_ panes).2.2.1).2.2.2.2.2.2.1, ((kern_made_r13_p n_ panes).2.2.1).2.2.2.2.2.2.2.1, ((kern_made_r13_p n_ panes).2.2.1).2.2.2.2.2.2.2.2.1, ((kern_made_r13_p n_ panes).2.2.1).2.2.2.2.2.2.2.2.2.1, ((kern_made_r13_p n_ panes).2.2.1).2.2.2.2.2.2.2.2.2.2.1, ((kern_made_r13_p n_ panes).2.2.1).2.2.2.2.2.2.2.2.2.2.2.1, ((kern_made_r13_p n_ panes).2.2.1).2.2.2.2.2.2.2.2.2.2.2.2.1, ((kern_made_r13_p n_ panes).2.2.1).2.2.2.2.2.2.2.2.2.2.2.2.2.1, ()), ())))))))))) else (bif (n_.1 == 8) then (K (Sum.inl ((panes.1, panes.2.1, panes.2.2.1, panes.2.2.2.1, panes.2.2.2.2.1, panes.2.2.2.2.2.1, panes.2.2.2.2.2.2.1, ()), (n_.1, n_.2.1, n_.2.2.1, n_.2.2.2.1, n_.2.2.2.2.1, n_.2.2.2.2.2.1, n_.2.2.2.2.2.2.1, n_.2.2.2.2.2.2.2.1, n_.2.2.2.2.2.2.2.2.1, n_.2.2.2.2.2.2.2.2.2.1, n_.2.2.2.2.2.2.2.2.2.2.1, n_.2.2.2.2.2.2.2.2.2.2.2.1, n_.2.2.2.2.2.2.2.2.2.2.2.2.1, n_.2.2.2.2.2.2.2.2.2.2.2.2.2, ()), ()))) else (bif (n_.1 == 9) then (K (Sum.inr (Sum.inl ((panes.1, panes.2.1, panes.2.2.1, panes.2.2.2.1, panes.2.2.2.2.1, panes.2.2.2.2.2.1, panes.2.2.2.2.2.2.1, ()), ())))) else (bif (n_.1 == 10) then (K (Sum.inr (Sum.inr (Sum.inl ((panes.1, panes.2.1, panes.2.2.1, panes.2.2.2.1, panes.2.2.2.2.1, panes.2.2.2.2.2.1, panes.2.2.2.2.2.2.1, ()), (panes.1, panes.2.1, panes.2.2.1, panes.2.2.2.1, panes.2.2.2.2.1, panes.2.2.2.2.2.1, panes.2.2.2.2.2.2.1, panes.2.2.2.2.2.2.2.1, panes.2.2.2.2.2.2.2.2.1, panes.2.2.2.2.2.2.2.2.2.1, panes.2.2.2.2.2.2.2.2.2.2.1, panes.2.2.2.2.2.2.2.2.2.2.2.1, panes.2.2.2.2.2.2.2.2.2.2.2.2.1, panes.2.2.2.2.2.2.2.2.2.2.2.2.2, ()), ()))))) else (bif (n_.1 == 11) then (K (Sum.inr (Sum.inr (Sum.inr (Sum.inl ((panes.1, panes.2.1, panes.2.2.1, panes.2.2.2.1, panes.2.2.2.2.1, panes.2.2.2.2.2.1, panes.2.2.2.2.2.2.1, ()), (v_.1, v_.2.1, v_.2.2.1, v_.2.2.2, ()), ())))))) else (K (Sum.inr (Sum.inr (Sum.inr (Sum.inr (Sum.inl ((n_.1, n_.2.1, n_.2.2.1, n_.2.2.2.1, n_.2.2.2.2.1, n_.2.2.2.2.2.1, n_.2.2.2.2.2.2.1, n_.2.2.2.2.2.2.2.1, n_.2.2.2.2.2.2.2.2.1, n_.2.2.2.2.2.2.2.2.2.1, n_.2.2.2.2.2.2.2.2.2.2.1, n_.2.2.2.2.2.2.2.2.2.2.2.1, n_.2.2.2.2.2.2.2.2.2.2.2.2.1, n_.2.2.2.2.2.2.2.2.2.2.2.2.2, ()), (panes.1, panes.2.1, panes.2.2.1, panes.2.2.2.1, panes.2.2.2.2.1, panes.2.2.2.2.2.1, panes.2.2.2.2.2.2.1, ()), ())))))))))))))))
def kern_made : U26 := kern_made_q n_ v_ panes (fun y => y)
theorem kern_made_n (K : U26 → β) : kern_made_q n_ v_ panes K = K (kern_made n_ v_ panes) := (bif_k K rfl (bif_k K rfl (bif_k K rfl (bif_k K rfl (bif_k K rfl (bif_k K rfl (bif_k K rfl (bif_k K rfl rfl))))))))
theorem kern_made_is : stepS E cp41 noE 48 [rA tsNode n_, rA tsI4 v_, rA tsA9 panes] = (fun y : U26 => some (Po.enc (.one (.one Z9)) ((fun y : U26 => y) y))) (kern_made n_ v_ panes) := by
  refine Eq.trans ?_ (kern_made_n n_ v_ panes (fun y : U26 => some (Po.enc (.one (.one Z9)) ((fun y : U26 => y) y))))
  refine (stepG_is (nt := 50) (regs := [(0, rA tsNode n_), (1, rA tsI4 v_), (2, rA tsA9 panes)])).trans ?_
  unfold kern_made_q
  refine (pre2 (kern_made_f2 n_ v_ panes _)).trans ?_
  refine .trans seq_push ?_
  refine (pre1 (kern_made_f3 n_ v_ panes _)).trans ?_
  refine (block_push (id := 0)).trans ?_
  refine .trans seq_push ?_
  refine (kern_made_j3 n_ v_ panes _).trans ?_
  refine (cond_s (b := (kern_made_j3_p n_)) ).trans (bif_g ?_ ?_)
  · refine (pre1 (kern_made_r5 n_ v_ panes _)).trans ?_
    refine (ret_eq).trans ?_
    refine block_ret.trans ?_
    refine seqC_ret.trans ?_
    kernel_rfl
  · refine (pre1 (kern_made_f1000007 n_ v_ panes _)).trans ?_
    refine (cond_e (b := (n_.1 == 3)) (st' := (S41_1 n_ v_ panes)) ).trans (bif_g ?_ ?_)
    · refine (pre1 (kern_made_r7 n_ v_ panes _)).trans ?_
      refine (ret_eq).trans ?_
      refine block_ret.trans ?_
      refine seqC_ret.trans ?_
      kernel_rfl
    · refine .trans seq_push ?_
      refine (kern_made_j8 n_ v_ panes _).trans ?_
      refine (cond_s (b := (kern_made_j8_p n_)) ).trans (bif_g ?_ ?_)
      · refine (pre1 (kern_made_r10 n_ v_ panes _)).trans ?_
        refine (ret_eq).trans ?_
        refine block_ret.trans ?_
        refine seqC_ret.trans ?_
        kernel_rfl
      · refine .trans seq_push ?_
        refine (kern_made_j11 n_ v_ panes _).trans ?_
        refine (cond_s (b := (kern_made_j11_p n_)) ).trans (bif_g ?_ ?_)
        · refine (pre1 (kern_made_r13 n_ v_ panes _)).trans ?_
          refine (ret_eq).trans ?_
          refine block_ret.trans ?_
          refine seqC_ret.trans ?_
          kernel_rfl
        · refine (pre1 (kern_made_f1000015 n_ v_ panes _)).trans ?_
          refine (cond_e (b := (n_.1 == 8)) (st' := (S41_1 n_ v_ panes)) ).trans (bif_g ?_ ?_)
          · refine (pre1 (kern_made_fz n_ v_ panes _)).trans ?_
            refine (ret_eq).trans ?_
            refine block_ret.trans ?_
            refine seqC_ret.trans ?_
            kernel_rfl
          · refine (pre1 (kern_made_f1000017 n_ v_ panes _)).trans ?_
            refine (cond_e (b := (n_.1 == 9)) (st' := (S41_1 n_ v_ panes)) ).trans (bif_g ?_ ?_)
            · refine (pre1 (kern_made_fzx1 n_ v_ panes _)).trans ?_
              refine (ret_eq).trans ?_
              refine block_ret.trans ?_
              refine seqC_ret.trans ?_
              kernel_rfl
            · refine (pre1 (kern_made_f1000019 n_ v_ panes _)).trans ?_
              refine (cond_e (b := (n_.1 == 10)) (st' := (S41_1 n_ v_ panes)) ).trans (bif_g ?_ ?_)
              · refine (pre1 (kern_made_fzx2 n_ v_ panes _)).trans ?_
                refine (ret_eq).trans ?_
                refine block_ret.trans ?_
                refine seqC_ret.trans ?_
                kernel_rfl
              · refine (pre1 (kern_made_f1000021 n_ v_ panes _)).trans ?_
                refine (cond_e (b := (n_.1 == 11)) (st' := (S41_11 n_ v_ panes)) ).trans (bif_g ?_ ?_)
                · refine (pre1 (kern_made_fzx3 n_ v_ panes _)).trans ?_
                  refine (ret_eq).trans ?_
                  refine block_ret.trans ?_
                  refine seqC_ret.trans ?_
                  kernel_rfl
                · refine (skip_eq).trans ?_
                  refine block_normal.trans ?_
                  refine (seqC_normal (st' := (S41_12 n_ panes))).trans ?_
                  refine (pre1 (kern_made_fzx4 n_ panes _)).trans ?_
                  refine (ret_eq).trans ?_
                  kernel_rfl
noncomputable def cp42 : CallP := withC cp41 48 [(.agg tsNode), (.agg tsI4), (.agg tsA9)] (.one (.one Z9)) (fun y : U26 => y) (fun x => some (kern_made x.1 x.2.1 x.2.2.1))
theorem cp42_ok : PureOK E cp42 := conS eok cp41_ok noE_ok fun x => Eq.mp (by kernel_rfl) (kern_made_is x.1 x.2.1 x.2.2.1)
end
section
variable {α β : Type} (p_ : pane) (y_ : Int) (x_ : Int) (c_ : Int) (k : St → Option α)
noncomputable abbrev C42 := codeOf E.P 74
noncomputable abbrev P42 := @preK α E 74 cp42 noE
abbrev S42_0 : St := ⟨[(1, ri y_), (2, ri x_), (3, ri c_), (4, rC tspane p_), (9, rF 0)], [[di p_.1, di p_.2.1, di p_.2.2.1]], [], 56⟩
theorem kern_pane_at_f2 : P42 2 C42 ⟨[(0, rA tspane p_), (1, ri y_), (2, ri x_), (3, ri c_)], [], [], 56⟩ k = k (S42_0 p_ y_ x_ c_) := by kernel_rfl
def kern_pane_at_r2_q (K : Bool → β) : β := (bif (decide (y_ < 0)) then (K true) else (bif (decide (y_ ≥ p_.1)) then (K true) else (bif (decide (x_ < 0)) then (K true) else (K (decide (x_ ≥ p_.2.1))))))
def kern_pane_at_r2_p : Bool := kern_pane_at_r2_q p_ y_ x_ (fun y => y)
theorem kern_pane_at_r2_n (K : Bool → β) : kern_pane_at_r2_q p_ y_ x_ K = K (kern_pane_at_r2_p p_ y_ x_) := (bif_k K rfl (bif_k K rfl (bif_k K rfl rfl)))
theorem kern_pane_at_r2 : P42 1 C42.r.r.l (S42_0 p_ y_ x_ c_) k = k ⟨[(1, ri y_), (2, ri x_), (3, ri c_), (4, rC tspane p_), (9, rF 0), (30, rb (kern_pane_at_r2_p p_ y_ x_))], [[di p_.1, di p_.2.1, di p_.2.2.1]], [], 56⟩ := Eq.trans (by kernel_rfl) (kern_pane_at_r2_n p_ y_ x_ (fun y511 : Bool => k ⟨[(1, ri y_), (2, ri x_), (3, ri c_), (4, rC tspane p_), (9, rF 0), (30, rb y511)], [[di p_.1, di p_.2.1, di p_.2.2.1]], [], 56⟩))
theorem kern_pane_at_fz : P42 1 C42.r.r.l.r.t (S42_0 p_ y_ x_ c_) k = k ⟨[(8, ri 0)], [[]], [], 56⟩ := by kernel_rfl
def kern_pane_at_r4_p : Option Int := (bif (decide ((0 : Int) ≤ (IntKind.wrap .i64 ((IntKind.wrap .i64 ((IntKind.wrap .i64 ((IntKind.wrap .i64 ((IntKind.wrap .i64 (y_ - p_.2.2.2.2.1)) * p_.2.1)) + x_)) * p_.2.2.1)) + c_)))) then (bif (decide ((IntKind.wrap .i64 ((IntKind.wrap .i64 ((IntKind.wrap .i64 ((IntKind.wrap .i64 ((IntKind.wrap .i64 (y_ - p_.2.2.2.2.1)) * p_.2.1)) + x_)) * p_.2.2.1)) + c_)) < (p_.2.2.2.2.2.2.length : Int))) then (some (IntKind.wrap .i64 ((IntKind.wrap .i64 (gt p_.2.2.2.2.2.2 (IntKind.wrap .i64 ((IntKind.wrap .i64 ((IntKind.wrap .i64 ((IntKind.wrap .i64 ((IntKind.wrap .i64 (y_ - p_.2.2.2.2.1)) * p_.2.1)) + x_)) * p_.2.2.1)) + c_)) (0 : Int))) - p_.2.2.2.1))) else none) else none)
theorem kern_pane_at_r4 : P42 1 C42.r.r.r (S42_0 p_ y_ x_ c_) k = Option.bind (kern_pane_at_r4_p p_ y_ x_ c_) (fun y512 : Int => k ⟨[(8, ri y512)], [[]], [], 56⟩) := .trans (by kernel_rfl) (bif_b (bif_b some_b none_b) none_b)
/-- (quilt/kern.pane).at -/
def kern_pane_at : Option Int := (bif (kern_pane_at_r2_p p_ y_ x_) then (some (0 : Int)) else (Option.bind (kern_pane_at_r4_p p_ y_ x_ c_) (fun y512 : Int => (some y512))))
theorem kern_pane_at_is : stepS E cp42 noE 74 [rA tspane p_, ri y_, ri x_, ri c_] = Option.bind (kern_pane_at p_ y_ x_ c_) (fun y : Int => some (ri y : R)) := by
  refine .trans ?_ (bif_b some_b (bind_b fun y512 => some_b))
  refine (stepG_is (nt := 56) (regs := [(0, rA tspane p_), (1, ri y_), (2, ri x_), (3, ri c_)])).trans ?_
  refine (pre2 (kern_pane_at_f2 p_ y_ x_ c_ _)).trans ?_
  refine .trans seq_push ?_
  refine (pre1 (kern_pane_at_r2 p_ y_ x_ c_ _)).trans ?_
  refine (cond_e (b := (kern_pane_at_r2_p p_ y_ x_)) (st' := (S42_0 p_ y_ x_ c_)) ).trans (bif_g ?_ ?_)
  · refine (pre1 (kern_pane_at_fz p_ y_ x_ c_ _)).trans ?_
    refine (ret_eq).trans ?_
    refine seqC_ret.trans ?_
    kernel_rfl
  · refine (skip_eq).trans ?_
    refine (seqC_normal (st' := (S42_0 p_ y_ x_ c_))).trans ?_
    refine (pre1 (kern_pane_at_r4 p_ y_ x_ c_ _)).trans (bind_g fun y512 => ?_)
    refine (ret_eq).trans ?_
    kernel_rfl
noncomputable def cp43 : CallP := withC cp42 74 [(.agg tspane), pI, pI, pI] (.one pI) (fun y : Int => y) (fun x => kern_pane_at x.1 x.2.1 x.2.2.1 x.2.2.2.1)
theorem cp43_ok : PureOK E cp43 := conS eok cp42_ok noE_ok fun x => Eq.mp (by kernel_rfl) (kern_pane_at_is x.1 x.2.1 x.2.2.1 x.2.2.2.1)
end
end Go.V.P
