/- What functions compute. -/
import Derived.Test.YtelfooangijedaaHa3
namespace Go.V.P
open Go.RowKit Go.V Go.Proofs
set_option linter.unusedVariables false
set_option maxRecDepth 100000
section
variable {α β : Type} (first : Int) (rows : Int) (k_ : Int) (stride : Int) (pad : Int) (size : Int) (y558 : Int) (s649 : (Int × Int × Int)) (s670 : (Int × Int × Int)) (y677 : (Int × Int × Int)) (y678 : (Int × Int × Int)) (k : St → Option α) (q : Kont α)
noncomputable abbrev C55 := codeOf E.P 42
noncomputable abbrev P55 := @preK α E 42 cp55 noE
noncomputable abbrev R55 := @runCode α E 42 cp55 noE
noncomputable abbrev Q55 := @seqC α E 42 cp55 noE
theorem ref02_Reach_r1 : P55 2 C55 ⟨[(0, ri first), (1, ri rows), (2, ri k_), (3, ri stride), (4, ri pad), (5, ri size)], [], [], 82⟩ k = Option.bind (ref02_Out size k_ stride pad) fun y558 : Int => k ⟨[(0, ri first), (1, ri rows), (2, ri k_), (3, ri stride), (4, ri pad), (5, ri size), (14, ri y558)], [], [], 82⟩ := by kernel_rfl
abbrev S55_0 : St := ⟨[(0, ri first), (1, ri rows), (2, ri k_), (3, ri stride), (4, ri pad), (5, ri size), (14, ri y558), (15, ri 0), (16, ri 0)], [], [], 82⟩
theorem ref02_Reach_f4 : P55 2 C55.r.r ⟨[(0, ri first), (1, ri rows), (2, ri k_), (3, ri stride), (4, ri pad), (5, ri size), (14, ri y558)], [], [], 82⟩ k = k (S55_0 first rows k_ stride pad size y558) := by kernel_rfl
def ref02_Reach_r4_q (K : Bool → β) : β := (bif (decide (first < 0)) then (K true) else (bif (decide (rows < 1)) then (K true) else (bif (decide (first > y558)) then (K true) else (K (decide (rows > (IntKind.wrap .i64 (y558 - first))))))))
def ref02_Reach_r4_p : Bool := ref02_Reach_r4_q first rows y558 (fun y => y)
theorem ref02_Reach_r4_n (K : Bool → β) : ref02_Reach_r4_q first rows y558 K = K (ref02_Reach_r4_p first rows y558) := (bif_k K rfl (bif_k K rfl (bif_k K rfl rfl)))
theorem ref02_Reach_r4 : P55 1 C55.r.r.r.r.l (S55_0 first rows k_ stride pad size y558) k = k ⟨[(0, ri first), (1, ri rows), (2, ri k_), (3, ri stride), (4, ri pad), (5, ri size), (15, ri 0), (16, ri 0), (42, rb (ref02_Reach_r4_p first rows y558))], [], [], 82⟩ := Eq.trans (by kernel_rfl) (ref02_Reach_r4_n first rows y558 (fun y560 : Bool => k ⟨[(0, ri first), (1, ri rows), (2, ri k_), (3, ri stride), (4, ri pad), (5, ri size), (15, ri 0), (16, ri 0), (42, rb y560)], [], [], 82⟩))
abbrev S55_1 : St := ⟨[(0, ri first), (1, ri rows), (2, ri k_), (3, ri stride), (4, ri pad), (5, ri size), (15, ri 0), (16, ri 0)], [], [], 82⟩
theorem ref02_Reach_fz : P55 1 C55.r.r.r.r.l.r.t (S55_1 first rows k_ stride pad size) k = k ⟨[(12, ri 0), (13, ri 0)], [], [], 82⟩ := by kernel_rfl
abbrev S55_2 : St := ⟨[(0, ri first), (1, ri rows), (2, ri k_), (3, ri stride), (4, ri pad), (5, ri size), (15, ri 0), (16, ri 0), (17, ri first)], [], [], 82⟩
theorem ref02_Reach_f7 : P55 1 C55.r.r.r.r.r.l (S55_1 first rows k_ stride pad size) k = k (S55_2 first rows k_ stride pad size) := by kernel_rfl
abbrev S55_3 : St := ⟨[(0, ri first), (1, ri rows), (2, ri k_), (3, ri stride), (4, ri pad), (5, ri size), (15, ri s649.1), (16, ri s649.2.1), (17, ri s649.2.2)], [], [], 82⟩
theorem ref02_Reach_fzx1 : P55 1 C55.r.r.r.r.r.l.r.b.b.l (S55_3 first rows k_ stride pad size s649) k = k ⟨[(0, ri first), (1, ri rows), (2, ri k_), (3, ri stride), (4, ri pad), (5, ri size), (15, ri s649.1), (16, ri s649.2.1), (17, ri s649.2.2), (48, rb (decide (s649.2.2 < (IntKind.wrap .i64 (first + rows)))))], [], [], 82⟩ := by kernel_rfl
abbrev S55_4 : St := ⟨[(0, ri first), (1, ri rows), (2, ri k_), (3, ri stride), (4, ri pad), (5, ri size), (15, ri s649.1), (16, ri s649.2.1), (17, ri s649.2.2), (18, ri 0)], [], [], 82⟩
theorem ref02_Reach_f10 : P55 1 C55.r.r.r.r.r.l.r.b.b.r.l.b (S55_3 first rows k_ stride pad size s649) k = k (S55_4 first rows k_ stride pad size s649) := by kernel_rfl
abbrev S55_5 : St := ⟨[(0, ri first), (1, ri rows), (2, ri k_), (3, ri stride), (4, ri pad), (5, ri size), (15, ri s670.1), (16, ri s670.2.1), (17, ri s649.2.2), (18, ri s670.2.2)], [], [], 82⟩
theorem ref02_Reach_fzx2 : P55 1 C55.r.r.r.r.r.l.r.b.b.r.l.b.r.b.b.l (S55_5 first rows k_ stride pad size s649 s670) k = k ⟨[(0, ri first), (1, ri rows), (2, ri k_), (3, ri stride), (4, ri pad), (5, ri size), (15, ri s670.1), (16, ri s670.2.1), (17, ri s649.2.2), (18, ri s670.2.2), (53, rb (decide (s670.2.2 < k_)))], [], [], 82⟩ := by kernel_rfl
def ref02_Reach_r12_q (K : Int → β) : β := (K (IntKind.wrap .i64 ((IntKind.wrap .i64 ((IntKind.wrap .i64 (s649.2.2 * stride)) - pad)) + s670.2.2)))
def ref02_Reach_r12_p : Int := ref02_Reach_r12_q stride pad s649 s670 (fun y => y)
theorem ref02_Reach_r12_n (K : Int → β) : ref02_Reach_r12_q stride pad s649 s670 K = K (ref02_Reach_r12_p stride pad s649 s670) := rfl
abbrev S55_6 : St := ⟨[(0, ri first), (1, ri rows), (2, ri k_), (3, ri stride), (4, ri pad), (5, ri size), (15, ri s670.1), (16, ri s670.2.1), (17, ri s649.2.2), (18, ri s670.2.2), (19, ri (ref02_Reach_r12_p stride pad s649 s670))], [], [], 82⟩
theorem ref02_Reach_r12 : P55 1 C55.r.r.r.r.r.l.r.b.b.r.l.b.r.b.b.r.l.b (S55_5 first rows k_ stride pad size s649 s670) k = k (S55_6 first rows k_ stride pad size s649 s670) := Eq.trans (by kernel_rfl) (ref02_Reach_r12_n stride pad s649 s670 (fun y671 : Int => k ⟨[(0, ri first), (1, ri rows), (2, ri k_), (3, ri stride), (4, ri pad), (5, ri size), (15, ri s670.1), (16, ri s670.2.1), (17, ri s649.2.2), (18, ri s670.2.2), (19, ri y671)], [], [], 82⟩))
def ref02_Reach_r13_q (K : Bool → β) : β := (bif (decide ((ref02_Reach_r12_p stride pad s649 s670) < 0)) then (K true) else (K (decide ((ref02_Reach_r12_p stride pad s649 s670) ≥ size))))
def ref02_Reach_r13_p : Bool := ref02_Reach_r13_q stride pad size s649 s670 (fun y => y)
theorem ref02_Reach_r13_n (K : Bool → β) : ref02_Reach_r13_q stride pad size s649 s670 K = K (ref02_Reach_r13_p stride pad size s649 s670) := (bif_k K rfl rfl)
theorem ref02_Reach_r13 : P55 1 C55.r.r.r.r.r.l.r.b.b.r.l.b.r.b.b.r.l.b.r.l (S55_6 first rows k_ stride pad size s649 s670) k = k ⟨[(0, ri first), (1, ri rows), (2, ri k_), (3, ri stride), (4, ri pad), (5, ri size), (15, ri s670.1), (16, ri s670.2.1), (17, ri s649.2.2), (18, ri s670.2.2), (19, ri (ref02_Reach_r12_p stride pad s649 s670)), (69, rb (ref02_Reach_r13_p stride pad size s649 s670))], [], [], 82⟩ := Eq.trans (by kernel_rfl) (ref02_Reach_r13_n stride pad size s649 s670 (fun y673 : Bool => k ⟨[(0, ri first), (1, ri rows), (2, ri k_), (3, ri stride), (4, ri pad), (5, ri size), (15, ri s670.1), (16, ri s670.2.1), (17, ri s649.2.2), (18, ri s670.2.2), (19, ri (ref02_Reach_r12_p stride pad s649 s670)), (69, rb y673)], [], [], 82⟩))
theorem ref02_Reach_f1000015 : P55 1 C55.r.r.r.r.r.l.r.b.b.r.l.b.r.b.b.r.l.b.r.r.l (S55_6 first rows k_ stride pad size s649 s670) k = k ⟨[(0, ri first), (1, ri rows), (2, ri k_), (3, ri stride), (4, ri pad), (5, ri size), (15, ri s670.1), (16, ri s670.2.1), (17, ri s649.2.2), (18, ri s670.2.2), (19, ri (ref02_Reach_r12_p stride pad s649 s670)), (71, rb (s670.2.1 == 0))], [], [], 82⟩ := by kernel_rfl
abbrev S55_7 : St := ⟨[(0, ri first), (1, ri rows), (2, ri k_), (3, ri stride), (4, ri pad), (5, ri size), (15, ri (ref02_Reach_r12_p stride pad s649 s670)), (16, ri s670.2.1), (17, ri s649.2.2), (18, ri s670.2.2), (19, ri (ref02_Reach_r12_p stride pad s649 s670))], [], [], 82⟩
theorem ref02_Reach_r15 : R55 C55.r.r.r.r.r.l.r.b.b.r.l.b.r.b.b.r.l.b.r.r.l.r.t (S55_6 first rows k_ stride pad size s649 s670) q = q .normal (S55_7 first rows k_ stride pad size s649 s670) := by kernel_rfl
def ref02_Reach_j14_q (K : Int → β) : β := (bif (s670.2.1 == 0) then (K (ref02_Reach_r12_p stride pad s649 s670)) else (K s670.1))
def ref02_Reach_j14_p : Int := ref02_Reach_j14_q stride pad s649 s670 (fun y => y)
theorem ref02_Reach_j14_n (K : Int → β) : ref02_Reach_j14_q stride pad s649 s670 K = K (ref02_Reach_j14_p stride pad s649 s670) := (bif_k K rfl rfl)
abbrev S55_8 : St := ⟨[(0, ri first), (1, ri rows), (2, ri k_), (3, ri stride), (4, ri pad), (5, ri size), (15, ri (ref02_Reach_j14_p stride pad s649 s670)), (16, ri s670.2.1), (17, ri s649.2.2), (18, ri s670.2.2), (19, ri (ref02_Reach_r12_p stride pad s649 s670))], [], [], 82⟩
theorem ref02_Reach_j14 : R55 C55.r.r.r.r.r.l.r.b.b.r.l.b.r.b.b.r.l.b.r.r.l (S55_6 first rows k_ stride pad size s649 s670) (Q55 C55.r.r.r.r.r.l.r.b.b.r.l.b.r.b.b.r.l.b.r.r.r q) = R55 C55.r.r.r.r.r.l.r.b.b.r.l.b.r.b.b.r.l.b.r.r.r (S55_8 first rows k_ stride pad size s649 s670) q := by
  refine Eq.trans ?_ (ref02_Reach_j14_n stride pad s649 s670 (fun y674 : Int => R55 C55.r.r.r.r.r.l.r.b.b.r.l.b.r.b.b.r.l.b.r.r.r ⟨[(0, ri first), (1, ri rows), (2, ri k_), (3, ri stride), (4, ri pad), (5, ri size), (15, ri y674), (16, ri s670.2.1), (17, ri s649.2.2), (18, ri s670.2.2), (19, ri (ref02_Reach_r12_p stride pad s649 s670))], [], [], 82⟩ q))
  unfold ref02_Reach_j14_q
  refine (pre1 (ref02_Reach_f1000015 first rows k_ stride pad size s649 s670 _)).trans ?_
  refine (cond_e (b := (s670.2.1 == 0)) (st' := (S55_6 first rows k_ stride pad size s649 s670)) ).trans (bif_g ?_ ?_)
  · refine (ref02_Reach_r15 first rows k_ stride pad size s649 s670 _).trans ?_
    refine (seqC_normal (st' := (S55_7 first rows k_ stride pad size s649 s670))).trans ?_
    kernel_rfl
  · refine (skip_eq).trans ?_
    refine (seqC_normal (st' := (S55_6 first rows k_ stride pad size s649 s670))).trans ?_
    kernel_rfl
abbrev S55_9 : St := ⟨[(0, ri first), (1, ri rows), (2, ri k_), (3, ri stride), (4, ri pad), (5, ri size), (15, ri (min (ref02_Reach_j14_p stride pad s649 s670) (ref02_Reach_r12_p stride pad s649 s670))), (16, ri s670.2.1), (17, ri s649.2.2), (18, ri s670.2.2), (19, ri (ref02_Reach_r12_p stride pad s649 s670))], [], [], 82⟩
theorem ref02_Reach_f17 : P55 1 C55.r.r.r.r.r.l.r.b.b.r.l.b.r.b.b.r.l.b.r.r.r (S55_8 first rows k_ stride pad size s649 s670) k = k (S55_9 first rows k_ stride pad size s649 s670) := by kernel_rfl
def ref02_Reach_r17_q (K : Int → β) : β := (K (max s670.2.1 (IntKind.wrap .i64 ((ref02_Reach_r12_p stride pad s649 s670) + 1))))
def ref02_Reach_r17_p : Int := ref02_Reach_r17_q stride pad s649 s670 (fun y => y)
theorem ref02_Reach_r17_n (K : Int → β) : ref02_Reach_r17_q stride pad s649 s670 K = K (ref02_Reach_r17_p stride pad s649 s670) := rfl
abbrev S55_10 : St := ⟨[(0, ri first), (1, ri rows), (2, ri k_), (3, ri stride), (4, ri pad), (5, ri size), (15, ri (min (ref02_Reach_j14_p stride pad s649 s670) (ref02_Reach_r12_p stride pad s649 s670))), (16, ri (ref02_Reach_r17_p stride pad s649 s670)), (17, ri s649.2.2), (18, ri s670.2.2)], [], [], 82⟩
theorem ref02_Reach_r17 : R55 C55.r.r.r.r.r.l.r.b.b.r.l.b.r.b.b.r.l.b.r.r.r.r (S55_9 first rows k_ stride pad size s649 s670) q = q .normal (S55_10 first rows k_ stride pad size s649 s670) := Eq.trans (by kernel_rfl) (ref02_Reach_r17_n stride pad s649 s670 (fun y675 : Int => q .normal ⟨[(0, ri first), (1, ri rows), (2, ri k_), (3, ri stride), (4, ri pad), (5, ri size), (15, ri (min (ref02_Reach_j14_p stride pad s649 s670) (ref02_Reach_r12_p stride pad s649 s670))), (16, ri y675), (17, ri s649.2.2), (18, ri s670.2.2)], [], [], 82⟩))
def ref02_Reach_j12_q (K : (Int × Int) → β) : β := (bif (ref02_Reach_r13_p stride pad size s649 s670) then (K (s670.1, s670.2.1)) else (K ((min (ref02_Reach_j14_p stride pad s649 s670) (ref02_Reach_r12_p stride pad s649 s670)), (ref02_Reach_r17_p stride pad s649 s670))))
def ref02_Reach_j12_p : (Int × Int) := ref02_Reach_j12_q stride pad size s649 s670 (fun y => y)
theorem ref02_Reach_j12_n (K : (Int × Int) → β) : ref02_Reach_j12_q stride pad size s649 s670 K = K (ref02_Reach_j12_p stride pad size s649 s670) := (bif_k K rfl rfl)
abbrev S55_11 : St := ⟨[(0, ri first), (1, ri rows), (2, ri k_), (3, ri stride), (4, ri pad), (5, ri size), (15, ri ((ref02_Reach_j12_p stride pad size s649 s670).1)), (16, ri ((ref02_Reach_j12_p stride pad size s649 s670).2)), (17, ri s649.2.2), (18, ri s670.2.2)], [], [], 82⟩
theorem ref02_Reach_j12 : R55 C55.r.r.r.r.r.l.r.b.b.r.l.b.r.b.b.r.l (S55_5 first rows k_ stride pad size s649 s670) (Q55 C55.r.r.r.r.r.l.r.b.b.r.l.b.r.b.b.r.r q) = R55 C55.r.r.r.r.r.l.r.b.b.r.l.b.r.b.b.r.r (S55_11 first rows k_ stride pad size s649 s670) q := by
  refine Eq.trans ?_ (ref02_Reach_j12_n stride pad size s649 s670 (fun y676 : (Int × Int) => R55 C55.r.r.r.r.r.l.r.b.b.r.l.b.r.b.b.r.r ⟨[(0, ri first), (1, ri rows), (2, ri k_), (3, ri stride), (4, ri pad), (5, ri size), (15, ri y676.1), (16, ri y676.2), (17, ri s649.2.2), (18, ri s670.2.2)], [], [], 82⟩ q))
  unfold ref02_Reach_j12_q
  refine (block_push (id := 3)).trans ?_
  refine (pre1 (ref02_Reach_r12 first rows k_ stride pad size s649 s670 _)).trans ?_
  refine .trans seq_push ?_
  refine (pre1 (ref02_Reach_r13 first rows k_ stride pad size s649 s670 _)).trans ?_
  refine (cond_e (b := (ref02_Reach_r13_p stride pad size s649 s670)) (st' := (S55_6 first rows k_ stride pad size s649 s670)) ).trans (bif_g ?_ ?_)
  · refine ((exit_eq (j := 3))).trans ?_
    refine seqC_exit.trans ?_
    refine block_same.trans ?_
    refine (seqC_normal (st' := (S55_5 first rows k_ stride pad size s649 s670))).trans ?_
    kernel_rfl
  · refine (skip_eq).trans ?_
    refine (seqC_normal (st' := (S55_6 first rows k_ stride pad size s649 s670))).trans ?_
    refine .trans seq_push ?_
    refine (ref02_Reach_j14 first rows k_ stride pad size s649 s670 _).trans ?_
    refine (pre1 (ref02_Reach_f17 first rows k_ stride pad size s649 s670 _)).trans ?_
    refine (ref02_Reach_r17 first rows k_ stride pad size s649 s670 _).trans ?_
    refine block_normal.trans ?_
    refine (seqC_normal (st' := (S55_10 first rows k_ stride pad size s649 s670))).trans ?_
    kernel_rfl
theorem ref02_Reach_r11 : R55 C55.r.r.r.r.r.l.r.b.b.r.l.b.r.b.b.r.r (S55_11 first rows k_ stride pad size s649 s670) q = q .normal ⟨[(0, ri first), (1, ri rows), (2, ri k_), (3, ri stride), (4, ri pad), (5, ri size), (15, ri ((ref02_Reach_j12_p stride pad size s649 s670).1)), (16, ri ((ref02_Reach_j12_p stride pad size s649 s670).2)), (17, ri s649.2.2), (18, ri (IntKind.wrap .i64 (s670.2.2 + 1)))], [], [], 82⟩ := by kernel_rfl
def ref02_Reach_l10_p : Option ((Int × Int × Int) ⊕ (Int × Int × Int)) := (bif (decide (s670.2.2 < k_)) then (some (Sum.inl ((ref02_Reach_j12_p stride pad size s649 s670).1, (ref02_Reach_j12_p stride pad size s649 s670).2, (IntKind.wrap .i64 (s670.2.2 + 1))))) else (some (Sum.inr s670)))
abbrev S55_12 : St := ⟨[(0, ri first), (1, ri rows), (2, ri k_), (3, ri stride), (4, ri pad), (5, ri size), (15, ri y677.1), (16, ri y677.2.1), (17, ri s649.2.2), (18, ri y677.2.2)], [], [], 82⟩
theorem ref02_Reach_l10_b : R55 C55.r.r.r.r.r.l.r.b.b.r.l.b.r.b.b (S55_5 first rows k_ stride pad size s649 s670) (loopKont 0 q) = Option.bind (ref02_Reach_l10_p k_ stride pad size s649 s670) (either (fun y : (Int × Int × Int) => q .normal ⟨[(0, ri first), (1, ri rows), (2, ri k_), (3, ri stride), (4, ri pad), (5, ri size), (15, ri y.1), (16, ri y.2.1), (17, ri s649.2.2), (18, ri y.2.2)], [], [], 82⟩) (fun y677 : (Int × Int × Int) => q (.exit 2) (S55_12 first rows k_ stride pad size s649 y677))) := by
  refine .trans ?_ (bif_b e2_0 e2_1)
  refine .trans seq_push ?_
  refine (pre1 (ref02_Reach_fzx2 first rows k_ stride pad size s649 s670 _)).trans ?_
  refine (cond_e (b := (decide (s670.2.2 < k_))) (st' := (S55_5 first rows k_ stride pad size s649 s670)) ).trans (bif_g ?_ ?_)
  · refine (skip_eq).trans ?_
    refine (seqC_normal (st' := (S55_5 first rows k_ stride pad size s649 s670))).trans ?_
    refine .trans seq_push ?_
    refine (ref02_Reach_j12 first rows k_ stride pad size s649 s670 _).trans ?_
    refine (ref02_Reach_r11 first rows k_ stride pad size s649 s670 _).trans ?_
    kernel_rfl
  · refine ((exit_eq (j := 2))).trans ?_
    refine seqC_exit.trans ?_
    kernel_rfl
theorem ref02_Reach_l10 : R55 C55.r.r.r.r.r.l.r.b.b.r.l.b.r.b (S55_4 first rows k_ stride pad size s649) q = Option.bind (iterN (ref02_Reach_l10_p k_ stride pad size s649) LL (s649.1, s649.2.1, (0 : Int))) (fun y677 : (Int × Int × Int) => q (.exit 2) (S55_12 first rows k_ stride pad size s649 y677)) :=
  Eq.trans (by kernel_rfl) (loop_iter1 (S := fun s670 : (Int × Int × Int) => (S55_5 first rows k_ stride pad size s649 s670)) (Y1 := fun y677 : (Int × Int × Int) => ((.exit 2), (S55_12 first rows k_ stride pad size s649 y677))) (fun s q => ref02_Reach_l10_b first rows k_ stride pad size s649 s q) (fun z => rfl) LL (s649.1, s649.2.1, (0 : Int)))
abbrev S55_13 : St := ⟨[(0, ri first), (1, ri rows), (2, ri k_), (3, ri stride), (4, ri pad), (5, ri size), (15, ri y677.1), (16, ri y677.2.1), (17, ri s649.2.2)], [], [], 82⟩
theorem ref02_Reach_r8 : R55 C55.r.r.r.r.r.l.r.b.b.r.r (S55_13 first rows k_ stride pad size s649 y677) q = q .normal ⟨[(0, ri first), (1, ri rows), (2, ri k_), (3, ri stride), (4, ri pad), (5, ri size), (15, ri y677.1), (16, ri y677.2.1), (17, ri (IntKind.wrap .i64 (s649.2.2 + 1)))], [], [], 82⟩ := by kernel_rfl
def ref02_Reach_l7_p : Option ((Int × Int × Int) ⊕ (Int × Int × Int)) := (bif (decide (s649.2.2 < (IntKind.wrap .i64 (first + rows)))) then (Option.bind (iterN (ref02_Reach_l10_p k_ stride pad size s649) LL (s649.1, s649.2.1, (0 : Int))) (fun y677 : (Int × Int × Int) => (some (Sum.inl (y677.1, y677.2.1, (IntKind.wrap .i64 (s649.2.2 + 1))))))) else (some (Sum.inr s649)))
abbrev S55_14 : St := ⟨[(0, ri first), (1, ri rows), (2, ri k_), (3, ri stride), (4, ri pad), (5, ri size), (15, ri y678.1), (16, ri y678.2.1), (17, ri y678.2.2)], [], [], 82⟩
theorem ref02_Reach_l7_b : R55 C55.r.r.r.r.r.l.r.b.b (S55_3 first rows k_ stride pad size s649) (loopKont 0 q) = Option.bind (ref02_Reach_l7_p first rows k_ stride pad size s649) (either (fun y : (Int × Int × Int) => q .normal ⟨[(0, ri first), (1, ri rows), (2, ri k_), (3, ri stride), (4, ri pad), (5, ri size), (15, ri y.1), (16, ri y.2.1), (17, ri y.2.2)], [], [], 82⟩) (fun y678 : (Int × Int × Int) => q (.exit 0) (S55_14 first rows k_ stride pad size y678))) := by
  refine .trans ?_ (bif_b (bind_b fun y677 => e2_0) e2_1)
  refine .trans seq_push ?_
  refine (pre1 (ref02_Reach_fzx1 first rows k_ stride pad size s649 _)).trans ?_
  refine (cond_e (b := (decide (s649.2.2 < (IntKind.wrap .i64 (first + rows))))) (st' := (S55_3 first rows k_ stride pad size s649)) ).trans (bif_g ?_ ?_)
  · refine (skip_eq).trans ?_
    refine (seqC_normal (st' := (S55_3 first rows k_ stride pad size s649))).trans ?_
    refine .trans seq_push ?_
    refine (block_push (id := 1)).trans ?_
    refine (pre1 (ref02_Reach_f10 first rows k_ stride pad size s649 _)).trans ?_
    refine (block_push (id := 2)).trans ?_
    refine (ref02_Reach_l10 first rows k_ stride pad size s649 _).trans (bind_g fun y677 => ?_)
    refine block_same.trans ?_
    refine block_normal.trans ?_
    refine (seqC_normal (st' := (S55_13 first rows k_ stride pad size s649 y677))).trans ?_
    refine (ref02_Reach_r8 first rows k_ stride pad size s649 y677 _).trans ?_
    kernel_rfl
  · refine ((exit_eq (j := 0))).trans ?_
    refine seqC_exit.trans ?_
    kernel_rfl
theorem ref02_Reach_l7 : R55 C55.r.r.r.r.r.l.r.b (S55_2 first rows k_ stride pad size) q = Option.bind (iterN (ref02_Reach_l7_p first rows k_ stride pad size) LL ((0 : Int), (0 : Int), first)) (fun y678 : (Int × Int × Int) => q (.exit 0) (S55_14 first rows k_ stride pad size y678)) :=
  Eq.trans (by kernel_rfl) (loop_iter1 (S := fun s649 : (Int × Int × Int) => (S55_3 first rows k_ stride pad size s649)) (Y1 := fun y678 : (Int × Int × Int) => ((.exit 0), (S55_14 first rows k_ stride pad size y678))) (fun s q => ref02_Reach_l7_b first rows k_ stride pad size s q) (fun z => rfl) LL ((0 : Int), (0 : Int), first))
theorem ref02_Reach_fzx3 : P55 1 C55.r.r.r.r.r.r ⟨[(15, ri y678.1), (16, ri y678.2.1)], [], [], 82⟩ k = k ⟨[(12, ri y678.1), (13, ri y678.2.1)], [], [], 82⟩ := by kernel_rfl
/-- quilt/quiltref02.Reach -/
def ref02_Reach : Option (Int × Int) := (Option.bind (ref02_Out size k_ stride pad) (fun y558 : Int => (bif (ref02_Reach_r4_p first rows y558) then (some ((0 : Int), (0 : Int))) else (Option.bind (iterN (ref02_Reach_l7_p first rows k_ stride pad size) LL ((0 : Int), (0 : Int), first)) (fun y678 : (Int × Int × Int) => (some (y678.1, y678.2.1)))))))
theorem ref02_Reach_is : stepS E cp55 noE 42 [ri first, ri rows, ri k_, ri stride, ri pad, ri size] = Option.bind (ref02_Reach first rows k_ stride pad size) (fun y : (Int × Int) => some (.tup [ri y.1, ri y.2] : R)) := by
  refine .trans ?_ (bind_b fun y558 => (bif_b some_b (bind_b fun y678 => some_b)))
  refine (stepG_is (nt := 82) (regs := [(0, ri first), (1, ri rows), (2, ri k_), (3, ri stride), (4, ri pad), (5, ri size)])).trans ?_
  refine (pre2 (ref02_Reach_r1 first rows k_ stride pad size _)).trans (bind_g fun y558 => ?_)
  refine (pre2 (ref02_Reach_f4 first rows k_ stride pad size y558 _)).trans ?_
  refine .trans seq_push ?_
  refine (pre1 (ref02_Reach_r4 first rows k_ stride pad size y558 _)).trans ?_
  refine (cond_e (b := (ref02_Reach_r4_p first rows y558)) (st' := (S55_1 first rows k_ stride pad size)) ).trans (bif_g ?_ ?_)
  · refine (pre1 (ref02_Reach_fz first rows k_ stride pad size _)).trans ?_
    refine (ret_eq).trans ?_
    refine seqC_ret.trans ?_
    kernel_rfl
  · refine (skip_eq).trans ?_
    refine (seqC_normal (st' := (S55_1 first rows k_ stride pad size))).trans ?_
    refine .trans seq_push ?_
    refine (pre1 (ref02_Reach_f7 first rows k_ stride pad size _)).trans ?_
    refine (block_push (id := 0)).trans ?_
    refine (ref02_Reach_l7 first rows k_ stride pad size _).trans (bind_g fun y678 => ?_)
    refine block_same.trans ?_
    refine (seqC_normal (st' := ⟨[(15, ri y678.1), (16, ri y678.2.1)], [], [], 82⟩)).trans ?_
    refine (pre1 (ref02_Reach_fzx3 y678 _)).trans ?_
    refine (ret_eq).trans ?_
    kernel_rfl
noncomputable def cp56 : CallP := withC cp55 42 [pI, pI, pI, pI, pI, pI] (.tup [pI, pI]) (fun y : (Int × Int) => (y.1, y.2, ())) (fun x => ref02_Reach x.1 x.2.1 x.2.2.1 x.2.2.2.1 x.2.2.2.2.1 x.2.2.2.2.2.1)
theorem cp56_ok : PureOK E cp56 := conS eok cp55_ok noE_ok fun x => Eq.mp (by kernel_rfl) (ref02_Reach_is x.1 x.2.1 x.2.2.1 x.2.2.2.1 x.2.2.2.2.1 x.2.2.2.2.2.1)
end
section
variable {α β : Type} (n_ : Node) (in_ : (List I4)) (first : Int) (rows : Int) (y552 : (I4 × Int)) (s758 : (Int × Int × Int × Int × Int)) (y773 : (Int × Int)) (y774 : (Int × Int × Int × Int)) (y775 : (Int × Int × Int × Int × Int)) (k : St → Option α) (q : Kont α)
noncomputable abbrev C56 := codeOf E.P 22
noncomputable abbrev P56 := @preK α E 22 cp56 noE
noncomputable abbrev R56 := @runCode α E 22 cp56 noE
noncomputable abbrev Q56 := @seqC α E 22 cp56 noE
abbrev S56_0 : St := ⟨[(1, rl tsI4 in_), (2, ri first), (3, ri rows), (4, rC tsNode n_), (8, rF 0), (10, rF 1), (11, rF 2), (12, ri y552.2)], [[di 0, di 0, di 0, di 0], [di 0, di 0, di 0, di 0], (tsI4.leaves y552.1)], [], 111⟩
theorem ref05_Needs_r2 : P56 3 C56 ⟨[(0, rA tsNode n_), (1, rl tsI4 in_), (2, ri first), (3, ri rows)], [], [], 111⟩ k = Option.bind (ref03_Value n_ in_) fun y552 : (I4 × Int) => k (S56_0 n_ in_ first rows y552) := by kernel_rfl
theorem ref05_Needs_f1000004 : P56 1 C56.r.r.r.l (S56_0 n_ in_ first rows y552) k = k ⟨[(1, rl tsI4 in_), (2, ri first), (3, ri rows), (4, rC tsNode n_), (8, rF 0), (10, rF 1), (11, rF 2), (12, ri y552.2), (25, rb (y552.2 != 0))], [[di 0, di 0, di 0, di 0], [di 0, di 0, di 0, di 0], (tsI4.leaves y552.1)], [], 111⟩ := by kernel_rfl
theorem ref05_Needs_fz : P56 1 C56.r.r.r.l.r.t (S56_0 n_ in_ first rows y552) k = k ⟨[(8, rF 0), (9, ri y552.2)], [[di 0, di 0, di 0, di 0], [], []], [], 111⟩ := by kernel_rfl
def ref05_Needs_r5_q (K : Bool → β) : β := (bif (decide (first < 0)) then (K true) else (bif (decide (rows < 1)) then (K true) else (bif (decide (first > y552.1.1)) then (K true) else (K (decide (rows > (IntKind.wrap .i64 (y552.1.1 - first))))))))
def ref05_Needs_r5_p : Bool := ref05_Needs_r5_q first rows y552 (fun y => y)
theorem ref05_Needs_r5_n (K : Bool → β) : ref05_Needs_r5_q first rows y552 K = K (ref05_Needs_r5_p first rows y552) := (bif_k K rfl (bif_k K rfl (bif_k K rfl rfl)))
abbrev S56_1 : St := ⟨[(1, rl tsI4 in_), (2, ri first), (3, ri rows), (4, rC tsNode n_), (8, rF 0), (10, rF 1), (11, rF 2)], [[di 0, di 0, di 0, di 0], [di 0, di 0, di 0, di 0], (tsI4.leaves y552.1)], [], 111⟩
theorem ref05_Needs_r5 : P56 1 C56.r.r.r.r.l (S56_1 n_ in_ first rows y552) k = k ⟨[(1, rl tsI4 in_), (2, ri first), (3, ri rows), (4, rC tsNode n_), (8, rF 0), (10, rF 1), (49, rb (ref05_Needs_r5_p first rows y552))], [[di 0, di 0, di 0, di 0], [di 0, di 0, di 0, di 0], []], [], 111⟩ := Eq.trans (by kernel_rfl) (ref05_Needs_r5_n first rows y552 (fun y554 : Bool => k ⟨[(1, rl tsI4 in_), (2, ri first), (3, ri rows), (4, rC tsNode n_), (8, rF 0), (10, rF 1), (49, rb y554)], [[di 0, di 0, di 0, di 0], [di 0, di 0, di 0, di 0], []], [], 111⟩))
abbrev S56_2 : St := ⟨[(1, rl tsI4 in_), (2, ri first), (3, ri rows), (4, rC tsNode n_), (8, rF 0), (10, rF 1)], [[di 0, di 0, di 0, di 0], [di 0, di 0, di 0, di 0], []], [], 111⟩
theorem ref05_Needs_fzx1 : P56 1 C56.r.r.r.r.l.r.t (S56_2 n_ in_ first rows) k = k ⟨[(8, rF 0), (9, ri 1)], [[di 0, di 0, di 0, di 0], [], []], [], 111⟩ := by kernel_rfl
abbrev S56_3 : St := ⟨[(1, rl tsI4 in_), (2, ri first), (3, ri rows), (4, rC tsNode n_), (8, rF 0), (10, rF 1), (13, ri 0)], [[di 0, di 0, di 0, di 0], [di 0, di 0, di 0, di 0], []], [], 111⟩
theorem ref05_Needs_f8 : P56 1 C56.r.r.r.r.r.l (S56_2 n_ in_ first rows) k = k (S56_3 n_ in_ first rows) := by kernel_rfl
abbrev S56_4 : St := ⟨[(1, rl tsI4 in_), (2, ri first), (3, ri rows), (4, rC tsNode n_), (8, rF 0), (10, rF 1), (13, ri s758.1)], [[di 0, di 0, di 0, di 0], (tsI4.leaves s758.2), []], [], 111⟩
theorem ref05_Needs_fzx2 : P56 1 C56.r.r.r.r.r.l.r.b.b.l (S56_4 n_ in_ first rows s758) k = k ⟨[(1, rl tsI4 in_), (2, ri first), (3, ri rows), (4, rC tsNode n_), (8, rF 0), (10, rF 1), (13, ri s758.1), (54, rb (decide (s758.1 < (in_.length : Int))))], [[di 0, di 0, di 0, di 0], (tsI4.leaves s758.2), []], [], 111⟩ := by kernel_rfl
def ref05_Needs_r10_p : Option Unit := (bif (decide ((0 : Int) ≤ s758.1)) then (bif (decide (s758.1 < (in_.length : Int))) then (some ()) else none) else none)
abbrev S56_5 : St := ⟨[(1, rl tsI4 in_), (2, ri first), (3, ri rows), (4, rC tsNode n_), (8, rF 0), (10, rF 1), (13, ri s758.1), (14, ri ((gt in_ s758.1 dI4).1))], [[di 0, di 0, di 0, di 0], (tsI4.leaves s758.2), []], [], 111⟩
theorem ref05_Needs_r10 : P56 1 C56.r.r.r.r.r.l.r.b.b.r.l.b (S56_4 n_ in_ first rows s758) k = Option.bind (ref05_Needs_r10_p in_ s758) (fun y767 : Unit => k (S56_5 n_ in_ first rows s758)) := .trans (by kernel_rfl) (bif_b (bif_b some_b none_b) none_b)
abbrev S56_6 : St := ⟨[(1, rl tsI4 in_), (2, ri first), (3, ri rows), (4, rC tsNode n_), (8, rF 0), (10, rF 1), (13, ri s758.1), (14, ri ((gt in_ s758.1 dI4).1)), (15, ri first), (16, ri (IntKind.wrap .i64 (first + rows)))], [[di 0, di 0, di 0, di 0], (tsI4.leaves s758.2), []], [], 111⟩
theorem ref05_Needs_f13 : P56 2 C56.r.r.r.r.r.l.r.b.b.r.l.b.r (S56_5 n_ in_ first rows s758) k = k (S56_6 n_ in_ first rows s758) := by kernel_rfl
abbrev S56_7 : St := ⟨[(1, rl tsI4 in_), (2, ri first), (3, ri rows), (4, rC tsNode n_), (8, rF 0), (10, rF 1), (13, ri s758.1), (14, ri ((gt in_ s758.1 dI4).1)), (15, ri first), (16, ri (IntKind.wrap .i64 (first + rows))), (68, ri n_.1)], [[di 0, di 0, di 0, di 0], (tsI4.leaves s758.2), []], [], 111⟩
theorem ref05_Needs_f14 : P56 1 C56.r.r.r.r.r.l.r.b.b.r.l.b.r.r.r.l (S56_6 n_ in_ first rows s758) k = k (S56_7 n_ in_ first rows s758) := by kernel_rfl
abbrev S56_8 : St := ⟨[(1, rl tsI4 in_), (2, ri first), (3, ri rows), (4, rC tsNode n_), (8, rF 0), (10, rF 1), (13, ri s758.1), (14, ri ((gt in_ s758.1 dI4).1)), (15, ri first), (16, ri (IntKind.wrap .i64 (first + rows))), (68, ri n_.1), (69, rb (n_.1 == 1))], [[di 0, di 0, di 0, di 0], (tsI4.leaves s758.2), []], [], 111⟩
theorem ref05_Needs_f2000015 : P56 1 C56.r.r.r.r.r.l.r.b.b.r.l.b.r.r.r.l.r.b.l (S56_7 n_ in_ first rows s758) k = k (S56_8 n_ in_ first rows s758) := by kernel_rfl
abbrev S56_9 : St := ⟨[(1, rl tsI4 in_), (2, ri first), (3, ri rows), (4, rC tsNode n_), (8, rF 0), (10, rF 1), (13, ri s758.1), (14, ri ((gt in_ s758.1 dI4).1)), (15, ri first), (16, ri (IntKind.wrap .i64 (first + rows))), (68, ri n_.1), (69, rb (n_.1 == 2))], [[di 0, di 0, di 0, di 0], (tsI4.leaves s758.2), []], [], 111⟩
theorem ref05_Needs_f2000016 : P56 1 C56.r.r.r.r.r.l.r.b.b.r.l.b.r.r.r.l.r.b.l.r.e (S56_8 n_ in_ first rows s758) k = k (S56_9 n_ in_ first rows s758) := by kernel_rfl
abbrev S56_10 : St := ⟨[(1, rl tsI4 in_), (2, ri first), (3, ri rows), (4, rC tsNode n_), (8, rF 0), (10, rF 1), (13, ri s758.1), (14, ri ((gt in_ s758.1 dI4).1)), (15, ri first), (16, ri (IntKind.wrap .i64 (first + rows))), (68, ri n_.1), (69, rb (n_.1 == 4))], [[di 0, di 0, di 0, di 0], (tsI4.leaves s758.2), []], [], 111⟩
theorem ref05_Needs_f2000017 : P56 1 C56.r.r.r.r.r.l.r.b.b.r.l.b.r.r.r.l.r.b.l.r.e.r.e (S56_9 n_ in_ first rows s758) k = k (S56_10 n_ in_ first rows s758) := by kernel_rfl
abbrev S56_11 : St := ⟨[(1, rl tsI4 in_), (2, ri first), (3, ri rows), (4, rC tsNode n_), (8, rF 0), (10, rF 1), (13, ri s758.1), (14, ri ((gt in_ s758.1 dI4).1)), (15, ri first), (16, ri (IntKind.wrap .i64 (first + rows))), (68, ri n_.1), (69, rb (n_.1 == 5))], [[di 0, di 0, di 0, di 0], (tsI4.leaves s758.2), []], [], 111⟩
theorem ref05_Needs_r17 : R56 C56.r.r.r.r.r.l.r.b.b.r.l.b.r.r.r.l.r.b.l.r.e.r.e.r.e (S56_10 n_ in_ first rows s758) q = q .normal (S56_11 n_ in_ first rows s758) := by kernel_rfl
def ref05_Needs_j14_q (K : Bool → β) : β := (bif (n_.1 == 1) then (K (n_.1 == 1)) else (bif (n_.1 == 2) then (K (n_.1 == 2)) else (bif (n_.1 == 4) then (K (n_.1 == 4)) else (K (n_.1 == 5)))))
def ref05_Needs_j14_p : Bool := ref05_Needs_j14_q n_ (fun y => y)
theorem ref05_Needs_j14_n (K : Bool → β) : ref05_Needs_j14_q n_ K = K (ref05_Needs_j14_p n_) := (bif_k K rfl (bif_k K rfl (bif_k K rfl rfl)))
abbrev S56_12 : St := ⟨[(1, rl tsI4 in_), (2, ri first), (3, ri rows), (4, rC tsNode n_), (8, rF 0), (10, rF 1), (13, ri s758.1), (14, ri ((gt in_ s758.1 dI4).1)), (15, ri first), (16, ri (IntKind.wrap .i64 (first + rows))), (68, ri n_.1), (69, rb (ref05_Needs_j14_p n_))], [[di 0, di 0, di 0, di 0], (tsI4.leaves s758.2), []], [], 111⟩
theorem ref05_Needs_j14 : R56 C56.r.r.r.r.r.l.r.b.b.r.l.b.r.r.r.l.r.b.l (S56_7 n_ in_ first rows s758) (Q56 C56.r.r.r.r.r.l.r.b.b.r.l.b.r.r.r.l.r.b.r q) = R56 C56.r.r.r.r.r.l.r.b.b.r.l.b.r.r.r.l.r.b.r (S56_12 n_ in_ first rows s758) q := by
  refine Eq.trans ?_ (ref05_Needs_j14_n n_ (fun y768 : Bool => R56 C56.r.r.r.r.r.l.r.b.b.r.l.b.r.r.r.l.r.b.r ⟨[(1, rl tsI4 in_), (2, ri first), (3, ri rows), (4, rC tsNode n_), (8, rF 0), (10, rF 1), (13, ri s758.1), (14, ri ((gt in_ s758.1 dI4).1)), (15, ri first), (16, ri (IntKind.wrap .i64 (first + rows))), (68, ri n_.1), (69, rb y768)], [[di 0, di 0, di 0, di 0], (tsI4.leaves s758.2), []], [], 111⟩ q))
  unfold ref05_Needs_j14_q
  refine (pre1 (ref05_Needs_f2000015 n_ in_ first rows s758 _)).trans ?_
  refine (cond_s (b := (n_.1 == 1)) ).trans (bif_g ?_ ?_)
  · refine (skip_eq).trans ?_
    refine (seqC_normal (st' := (S56_8 n_ in_ first rows s758))).trans ?_
    kernel_rfl
  · refine (pre1 (ref05_Needs_f2000016 n_ in_ first rows s758 _)).trans ?_
    refine (cond_s (b := (n_.1 == 2)) ).trans (bif_g ?_ ?_)
    · refine (skip_eq).trans ?_
      refine (seqC_normal (st' := (S56_9 n_ in_ first rows s758))).trans ?_
      kernel_rfl
    · refine (pre1 (ref05_Needs_f2000017 n_ in_ first rows s758 _)).trans ?_
      refine (cond_s (b := (n_.1 == 4)) ).trans (bif_g ?_ ?_)
      · refine (skip_eq).trans ?_
        refine (seqC_normal (st' := (S56_10 n_ in_ first rows s758))).trans ?_
        kernel_rfl
      · refine (ref05_Needs_r17 n_ in_ first rows s758 _).trans ?_
        refine (seqC_normal (st' := (S56_11 n_ in_ first rows s758))).trans ?_
        kernel_rfl
abbrev S56_13 (y769 : (Int × Int)) : St := ⟨[(1, rl tsI4 in_), (2, ri first), (3, ri rows), (4, rC tsNode n_), (8, rF 0), (10, rF 1), (13, ri s758.1), (15, ri y769.1), (16, ri y769.2)], [[di 0, di 0, di 0, di 0], (tsI4.leaves s758.2), []], [], 111⟩
theorem ref05_Needs_r18 : R56 C56.r.r.r.r.r.l.r.b.b.r.l.b.r.r.r.l.r.b.r.t (S56_12 n_ in_ first rows s758) q = Option.bind (ref02_Reach first rows n_.2.2.1 n_.2.2.2.1 n_.2.2.2.2.1 ((gt in_ s758.1 dI4).1)) fun y769 : (Int × Int) => q .normal (S56_13 n_ in_ first rows s758 y769) := by kernel_rfl
theorem ref05_Needs_f1000020 : P56 1 C56.r.r.r.r.r.l.r.b.b.r.l.b.r.r.r.l.r.b.r.e (S56_12 n_ in_ first rows s758) k = k ⟨[(1, rl tsI4 in_), (2, ri first), (3, ri rows), (4, rC tsNode n_), (8, rF 0), (10, rF 1), (13, ri s758.1), (14, ri ((gt in_ s758.1 dI4).1)), (15, ri first), (16, ri (IntKind.wrap .i64 (first + rows))), (68, ri n_.1), (87, rb (n_.1 == 9))], [[di 0, di 0, di 0, di 0], (tsI4.leaves s758.2), []], [], 111⟩ := by kernel_rfl
def ref05_Needs_r21_q (K : Int → β) : β := (K (min (IntKind.wrap .i64 ((IntKind.wrap .i64 (first + rows)) - 1)) ((gt in_ s758.1 dI4).1)))
def ref05_Needs_r21_p : Int := ref05_Needs_r21_q in_ first rows s758 (fun y => y)
theorem ref05_Needs_r21_n (K : Int → β) : ref05_Needs_r21_q in_ first rows s758 K = K (ref05_Needs_r21_p in_ first rows s758) := rfl
abbrev S56_14 : St := ⟨[(1, rl tsI4 in_), (2, ri first), (3, ri rows), (4, rC tsNode n_), (8, rF 0), (10, rF 1), (13, ri s758.1), (15, ri (max (IntKind.wrap .i64 (first - 1)) (0 : Int))), (16, ri (ref05_Needs_r21_p in_ first rows s758))], [[di 0, di 0, di 0, di 0], (tsI4.leaves s758.2), []], [], 111⟩
theorem ref05_Needs_r21 : P56 2 C56.r.r.r.r.r.l.r.b.b.r.l.b.r.r.r.l.r.b.r.e.r.t (S56_7 n_ in_ first rows s758) k = k (S56_14 n_ in_ first rows s758) := Eq.trans (by kernel_rfl) (ref05_Needs_r21_n in_ first rows s758 (fun y770 : Int => k ⟨[(1, rl tsI4 in_), (2, ri first), (3, ri rows), (4, rC tsNode n_), (8, rF 0), (10, rF 1), (13, ri s758.1), (15, ri (max (IntKind.wrap .i64 (first - 1)) (0 : Int))), (16, ri y770)], [[di 0, di 0, di 0, di 0], (tsI4.leaves s758.2), []], [], 111⟩))
def ref05_Needs_r22_q (K : Bool → β) : β := (K (decide ((max (IntKind.wrap .i64 (first - 1)) (0 : Int)) ≥ (ref05_Needs_r21_p in_ first rows s758))))
def ref05_Needs_r22_p : Bool := ref05_Needs_r22_q in_ first rows s758 (fun y => y)
theorem ref05_Needs_r22_n (K : Bool → β) : ref05_Needs_r22_q in_ first rows s758 K = K (ref05_Needs_r22_p in_ first rows s758) := rfl
theorem ref05_Needs_r22 : P56 1 C56.r.r.r.r.r.l.r.b.b.r.l.b.r.r.r.l.r.b.r.e.r.t.r.r (S56_14 n_ in_ first rows s758) k = k ⟨[(1, rl tsI4 in_), (2, ri first), (3, ri rows), (4, rC tsNode n_), (8, rF 0), (10, rF 1), (13, ri s758.1), (15, ri (max (IntKind.wrap .i64 (first - 1)) (0 : Int))), (16, ri (ref05_Needs_r21_p in_ first rows s758)), (100, rb (ref05_Needs_r22_p in_ first rows s758))], [[di 0, di 0, di 0, di 0], (tsI4.leaves s758.2), []], [], 111⟩ := Eq.trans (by kernel_rfl) (ref05_Needs_r22_n in_ first rows s758 (fun y771 : Bool => k ⟨[(1, rl tsI4 in_), (2, ri first), (3, ri rows), (4, rC tsNode n_), (8, rF 0), (10, rF 1), (13, ri s758.1), (15, ri (max (IntKind.wrap .i64 (first - 1)) (0 : Int))), (16, ri (ref05_Needs_r21_p in_ first rows s758)), (100, rb y771)], [[di 0, di 0, di 0, di 0], (tsI4.leaves s758.2), []], [], 111⟩))
abbrev S56_15 : St := ⟨[(1, rl tsI4 in_), (2, ri first), (3, ri rows), (4, rC tsNode n_), (8, rF 0), (10, rF 1), (13, ri s758.1), (15, ri 0)], [[di 0, di 0, di 0, di 0], (tsI4.leaves s758.2), []], [], 111⟩
theorem ref05_Needs_f24 : P56 1 C56.r.r.r.r.r.l.r.b.b.r.l.b.r.r.r.l.r.b.r.e.r.t.r.r.r.t (S56_14 n_ in_ first rows s758) k = k (S56_15 n_ in_ first rows s758) := by kernel_rfl
abbrev S56_16 : St := ⟨[(1, rl tsI4 in_), (2, ri first), (3, ri rows), (4, rC tsNode n_), (8, rF 0), (10, rF 1), (13, ri s758.1), (15, ri 0), (16, ri 0)], [[di 0, di 0, di 0, di 0], (tsI4.leaves s758.2), []], [], 111⟩
theorem ref05_Needs_r24 : R56 C56.r.r.r.r.r.l.r.b.b.r.l.b.r.r.r.l.r.b.r.e.r.t.r.r.r.t.r (S56_15 n_ in_ first rows s758) q = q .normal (S56_16 n_ in_ first rows s758) := by kernel_rfl
abbrev S56_17 : St := ⟨[(1, rl tsI4 in_), (2, ri first), (3, ri rows), (4, rC tsNode n_), (8, rF 0), (10, rF 1), (13, ri s758.1), (14, ri ((gt in_ s758.1 dI4).1)), (15, ri first), (16, ri (IntKind.wrap .i64 (first + rows))), (68, ri n_.1), (101, rb (n_.1 == 3))], [[di 0, di 0, di 0, di 0], (tsI4.leaves s758.2), []], [], 111⟩
theorem ref05_Needs_f2000026 : P56 1 C56.r.r.r.r.r.l.r.b.b.r.l.b.r.r.r.l.r.b.r.e.r.e.l (S56_7 n_ in_ first rows s758) k = k (S56_17 n_ in_ first rows s758) := by kernel_rfl
abbrev S56_18 : St := ⟨[(1, rl tsI4 in_), (2, ri first), (3, ri rows), (4, rC tsNode n_), (8, rF 0), (10, rF 1), (13, ri s758.1), (14, ri ((gt in_ s758.1 dI4).1)), (15, ri first), (16, ri (IntKind.wrap .i64 (first + rows))), (101, rb (n_.1 == 11))], [[di 0, di 0, di 0, di 0], (tsI4.leaves s758.2), []], [], 111⟩
theorem ref05_Needs_r26 : R56 C56.r.r.r.r.r.l.r.b.b.r.l.b.r.r.r.l.r.b.r.e.r.e.l.r.e (S56_17 n_ in_ first rows s758) q = q .normal (S56_18 n_ in_ first rows s758) := by kernel_rfl
def ref05_Needs_j25_q (K : Bool → β) : β := (bif (n_.1 == 3) then (K (n_.1 == 3)) else (K (n_.1 == 11)))
def ref05_Needs_j25_p : Bool := ref05_Needs_j25_q n_ (fun y => y)
theorem ref05_Needs_j25_n (K : Bool → β) : ref05_Needs_j25_q n_ K = K (ref05_Needs_j25_p n_) := (bif_k K rfl rfl)
abbrev S56_19 : St := ⟨[(1, rl tsI4 in_), (2, ri first), (3, ri rows), (4, rC tsNode n_), (8, rF 0), (10, rF 1), (13, ri s758.1), (14, ri ((gt in_ s758.1 dI4).1)), (15, ri first), (16, ri (IntKind.wrap .i64 (first + rows))), (101, rb (ref05_Needs_j25_p n_))], [[di 0, di 0, di 0, di 0], (tsI4.leaves s758.2), []], [], 111⟩
theorem ref05_Needs_j25 : R56 C56.r.r.r.r.r.l.r.b.b.r.l.b.r.r.r.l.r.b.r.e.r.e.l (S56_7 n_ in_ first rows s758) (Q56 C56.r.r.r.r.r.l.r.b.b.r.l.b.r.r.r.l.r.b.r.e.r.e.r q) = R56 C56.r.r.r.r.r.l.r.b.b.r.l.b.r.r.r.l.r.b.r.e.r.e.r (S56_19 n_ in_ first rows s758) q := by
  refine Eq.trans ?_ (ref05_Needs_j25_n n_ (fun y772 : Bool => R56 C56.r.r.r.r.r.l.r.b.b.r.l.b.r.r.r.l.r.b.r.e.r.e.r ⟨[(1, rl tsI4 in_), (2, ri first), (3, ri rows), (4, rC tsNode n_), (8, rF 0), (10, rF 1), (13, ri s758.1), (14, ri ((gt in_ s758.1 dI4).1)), (15, ri first), (16, ri (IntKind.wrap .i64 (first + rows))), (101, rb y772)], [[di 0, di 0, di 0, di 0], (tsI4.leaves s758.2), []], [], 111⟩ q))
  unfold ref05_Needs_j25_q
  refine (pre1 (ref05_Needs_f2000026 n_ in_ first rows s758 _)).trans ?_
  refine (cond_s (b := (n_.1 == 3)) ).trans (bif_g ?_ ?_)
  · refine (skip_eq).trans ?_
    refine (seqC_normal (st' := ⟨[(1, rl tsI4 in_), (2, ri first), (3, ri rows), (4, rC tsNode n_), (8, rF 0), (10, rF 1), (13, ri s758.1), (14, ri ((gt in_ s758.1 dI4).1)), (15, ri first), (16, ri (IntKind.wrap .i64 (first + rows))), (101, rb (n_.1 == 3))], [[di 0, di 0, di 0, di 0], (tsI4.leaves s758.2), []], [], 111⟩)).trans ?_
    kernel_rfl
  · refine (ref05_Needs_r26 n_ in_ first rows s758 _).trans ?_
    refine (seqC_normal (st' := (S56_18 n_ in_ first rows s758))).trans ?_
    kernel_rfl
abbrev S56_20 : St := ⟨[(1, rl tsI4 in_), (2, ri first), (3, ri rows), (4, rC tsNode n_), (8, rF 0), (10, rF 1), (13, ri s758.1), (14, ri ((gt in_ s758.1 dI4).1)), (15, ri 0)], [[di 0, di 0, di 0, di 0], (tsI4.leaves s758.2), []], [], 111⟩
theorem ref05_Needs_f28 : P56 1 C56.r.r.r.r.r.l.r.b.b.r.l.b.r.r.r.l.r.b.r.e.r.e.r.t (S56_19 n_ in_ first rows s758) k = k (S56_20 n_ in_ first rows s758) := by kernel_rfl
abbrev S56_21 : St := ⟨[(1, rl tsI4 in_), (2, ri first), (3, ri rows), (4, rC tsNode n_), (8, rF 0), (10, rF 1), (13, ri s758.1), (15, ri 0), (16, ri ((gt in_ s758.1 dI4).1))], [[di 0, di 0, di 0, di 0], (tsI4.leaves s758.2), []], [], 111⟩
theorem ref05_Needs_r28 : R56 C56.r.r.r.r.r.l.r.b.b.r.l.b.r.r.r.l.r.b.r.e.r.e.r.t.r (S56_20 n_ in_ first rows s758) q = q .normal (S56_21 n_ in_ first rows s758) := by kernel_rfl
def ref05_Needs_j13_p : Option (Int × Int) := (bif (ref05_Needs_j14_p n_) then (Option.bind (ref02_Reach first rows n_.2.2.1 n_.2.2.2.1 n_.2.2.2.2.1 ((gt in_ s758.1 dI4).1)) (fun y769 : (Int × Int) => (some y769))) else (bif (n_.1 == 9) then (bif (ref05_Needs_r22_p in_ first rows s758) then (some ((0 : Int), (0 : Int))) else (some ((max (IntKind.wrap .i64 (first - 1)) (0 : Int)), (ref05_Needs_r21_p in_ first rows s758)))) else (bif (ref05_Needs_j25_p n_) then (some ((0 : Int), (gt in_ s758.1 dI4).1)) else (some (first, (IntKind.wrap .i64 (first + rows)))))))
abbrev S56_22 : St := ⟨[(1, rl tsI4 in_), (2, ri first), (3, ri rows), (4, rC tsNode n_), (8, rF 0), (10, rF 1), (13, ri s758.1), (15, ri y773.1), (16, ri y773.2)], [[di 0, di 0, di 0, di 0], (tsI4.leaves s758.2), []], [], 111⟩
theorem ref05_Needs_j13 : R56 C56.r.r.r.r.r.l.r.b.b.r.l.b.r.r.r.l (S56_6 n_ in_ first rows s758) (Q56 C56.r.r.r.r.r.l.r.b.b.r.l.b.r.r.r.r q) = Option.bind (ref05_Needs_j13_p n_ in_ first rows s758) (fun y773 : (Int × Int) => R56 C56.r.r.r.r.r.l.r.b.b.r.l.b.r.r.r.r (S56_22 n_ in_ first rows s758 y773) q) := by
  refine .trans ?_ (bif_b (bind_b fun y769 => some_b) (bif_b (bif_b some_b some_b) (bif_b some_b some_b)))
  refine (pre1 (ref05_Needs_f14 n_ in_ first rows s758 _)).trans ?_
  refine (block_push (id := 2)).trans ?_
  refine .trans seq_push ?_
  refine (ref05_Needs_j14 n_ in_ first rows s758 _).trans ?_
  refine (cond_s (b := (ref05_Needs_j14_p n_)) ).trans (bif_g ?_ ?_)
  · refine (ref05_Needs_r18 n_ in_ first rows s758 _).trans (bind_g fun y769 => ?_)
    refine block_normal.trans ?_
    refine (seqC_normal (st' := (S56_13 n_ in_ first rows s758 y769))).trans ?_
    kernel_rfl
  · refine (pre1 (ref05_Needs_f1000020 n_ in_ first rows s758 _)).trans ?_
    refine (cond_e (b := (n_.1 == 9)) (st' := (S56_7 n_ in_ first rows s758)) ).trans (bif_g ?_ ?_)
    · refine (pre2 (ref05_Needs_r21 n_ in_ first rows s758 _)).trans ?_
      refine (pre1 (ref05_Needs_r22 n_ in_ first rows s758 _)).trans ?_
      refine (cond_e (b := (ref05_Needs_r22_p in_ first rows s758)) (st' := (S56_14 n_ in_ first rows s758)) ).trans (bif_g ?_ ?_)
      · refine (pre1 (ref05_Needs_f24 n_ in_ first rows s758 _)).trans ?_
        refine (ref05_Needs_r24 n_ in_ first rows s758 _).trans ?_
        refine block_normal.trans ?_
        refine (seqC_normal (st' := (S56_16 n_ in_ first rows s758))).trans ?_
        kernel_rfl
      · refine (skip_eq).trans ?_
        refine block_normal.trans ?_
        refine (seqC_normal (st' := (S56_14 n_ in_ first rows s758))).trans ?_
        kernel_rfl
    · refine .trans seq_push ?_
      refine (ref05_Needs_j25 n_ in_ first rows s758 _).trans ?_
      refine (cond_s (b := (ref05_Needs_j25_p n_)) ).trans (bif_g ?_ ?_)
      · refine (pre1 (ref05_Needs_f28 n_ in_ first rows s758 _)).trans ?_
        refine (ref05_Needs_r28 n_ in_ first rows s758 _).trans ?_
        refine block_normal.trans ?_
        refine (seqC_normal (st' := (S56_21 n_ in_ first rows s758))).trans ?_
        kernel_rfl
      · refine (skip_eq).trans ?_
        refine block_normal.trans ?_
        refine (seqC_normal (st' := ⟨[(1, rl tsI4 in_), (2, ri first), (3, ri rows), (4, rC tsNode n_), (8, rF 0), (10, rF 1), (13, ri s758.1), (15, ri first), (16, ri (IntKind.wrap .i64 (first + rows)))], [[di 0, di 0, di 0, di 0], (tsI4.leaves s758.2), []], [], 111⟩)).trans ?_
        kernel_rfl
def ref05_Needs_r29_p : Option (Int × Int × Int × Int) := (bif (s758.1 == 0) then (some (y773.1, y773.2, s758.2.2.2.1, s758.2.2.2.2)) else (bif (s758.1 == 1) then (some (s758.2.1, s758.2.2.1, y773.1, y773.2)) else none))
abbrev S56_23 : St := ⟨[(1, rl tsI4 in_), (2, ri first), (3, ri rows), (4, rC tsNode n_), (8, rF 0), (10, rF 1), (13, ri s758.1)], [[di 0, di 0, di 0, di 0], (tsI4.leaves y774), []], [], 111⟩
theorem ref05_Needs_r29 : R56 C56.r.r.r.r.r.l.r.b.b.r.l.b.r.r.r.r (S56_22 n_ in_ first rows s758 y773) q = Option.bind (ref05_Needs_r29_p s758 y773) (fun y774 : (Int × Int × Int × Int) => q .normal (S56_23 n_ in_ first rows s758 y774)) := .trans (by kernel_rfl) (bif_b some_b (bif_b some_b none_b))
theorem ref05_Needs_r9 : R56 C56.r.r.r.r.r.l.r.b.b.r.r (S56_23 n_ in_ first rows s758 y774) q = q .normal ⟨[(1, rl tsI4 in_), (2, ri first), (3, ri rows), (4, rC tsNode n_), (8, rF 0), (10, rF 1), (13, ri (IntKind.wrap .i64 (s758.1 + 1)))], [[di 0, di 0, di 0, di 0], (tsI4.leaves y774), []], [], 111⟩ := by kernel_rfl
def ref05_Needs_l8_p : Option ((Int × Int × Int × Int × Int) ⊕ (Int × Int × Int × Int × Int)) := (bif (decide (s758.1 < (in_.length : Int))) then (Option.bind (ref05_Needs_r10_p in_ s758) (fun y767 : Unit => (Option.bind (ref05_Needs_j13_p n_ in_ first rows s758) (fun y773 : (Int × Int) => (Option.bind (ref05_Needs_r29_p s758 y773) (fun y774 : (Int × Int × Int × Int) => (some (Sum.inl ((IntKind.wrap .i64 (s758.1 + 1)), y774.1, y774.2.1, y774.2.2.1, y774.2.2.2))))))))) else (some (Sum.inr s758)))
abbrev S56_24 : St := ⟨[(1, rl tsI4 in_), (2, ri first), (3, ri rows), (4, rC tsNode n_), (8, rF 0), (10, rF 1), (13, ri y775.1)], [[di 0, di 0, di 0, di 0], (tsI4.leaves y775.2), []], [], 111⟩
theorem ref05_Needs_l8_b : R56 C56.r.r.r.r.r.l.r.b.b (S56_4 n_ in_ first rows s758) (loopKont 3 q) = Option.bind (ref05_Needs_l8_p n_ in_ first rows s758) (either (fun y : (Int × Int × Int × Int × Int) => q .normal ⟨[(1, rl tsI4 in_), (2, ri first), (3, ri rows), (4, rC tsNode n_), (8, rF 0), (10, rF 1), (13, ri y.1)], [[di 0, di 0, di 0, di 0], (tsI4.leaves y.2), []], [], 111⟩) (fun y775 : (Int × Int × Int × Int × Int) => q (.exit 0) (S56_24 n_ in_ first rows y775))) := by
  refine .trans ?_ (bif_b (bind_b fun y767 => (bind_b fun y773 => (bind_b fun y774 => e2_0))) e2_1)
  refine .trans seq_push ?_
  refine (pre1 (ref05_Needs_fzx2 n_ in_ first rows s758 _)).trans ?_
  refine (cond_e (b := (decide (s758.1 < (in_.length : Int)))) (st' := (S56_4 n_ in_ first rows s758)) ).trans (bif_g ?_ ?_)
  · refine (skip_eq).trans ?_
    refine (seqC_normal (st' := (S56_4 n_ in_ first rows s758))).trans ?_
    refine .trans seq_push ?_
    refine (block_push (id := 1)).trans ?_
    refine (pre1 (ref05_Needs_r10 n_ in_ first rows s758 _)).trans (bind_g fun y767 => ?_)
    refine (pre2 (ref05_Needs_f13 n_ in_ first rows s758 _)).trans ?_
    refine .trans seq_push ?_
    refine (ref05_Needs_j13 n_ in_ first rows s758 _).trans (bind_g fun y773 => ?_)
    refine (ref05_Needs_r29 n_ in_ first rows s758 y773 _).trans (bind_g fun y774 => ?_)
    refine block_normal.trans ?_
    refine (seqC_normal (st' := (S56_23 n_ in_ first rows s758 y774))).trans ?_
    refine (ref05_Needs_r9 n_ in_ first rows s758 y774 _).trans ?_
    kernel_rfl
  · refine ((exit_eq (j := 0))).trans ?_
    refine seqC_exit.trans ?_
    kernel_rfl
theorem ref05_Needs_l8 : R56 C56.r.r.r.r.r.l.r.b (S56_3 n_ in_ first rows) q = Option.bind (iterN (ref05_Needs_l8_p n_ in_ first rows) LL ((0 : Int), (0 : Int), (0 : Int), (0 : Int), (0 : Int))) (fun y775 : (Int × Int × Int × Int × Int) => q (.exit 0) (S56_24 n_ in_ first rows y775)) :=
  Eq.trans (by kernel_rfl) (loop_iter1 (S := fun s758 : (Int × Int × Int × Int × Int) => (S56_4 n_ in_ first rows s758)) (Y1 := fun y775 : (Int × Int × Int × Int × Int) => ((.exit 0), (S56_24 n_ in_ first rows y775))) (fun s q => ref05_Needs_l8_b n_ in_ first rows s q) (fun z => rfl) LL ((0 : Int), (0 : Int), (0 : Int), (0 : Int), (0 : Int)))
abbrev S56_25 : St := ⟨[(8, rF 0), (10, rF 1)], [[di 0, di 0, di 0, di 0], (tsI4.leaves y775.2), []], [], 111⟩
theorem ref05_Needs_fzx3 : P56 1 C56.r.r.r.r.r.r (S56_25 y775) k = k ⟨[(8, rF 0), (9, ri 0)], [(tsI4.leaves y775.2), [], []], [], 111⟩ := by kernel_rfl
/-- quilt/quiltref05.Needs -/
def ref05_Needs : Option (I4 × Int) := (Option.bind (ref03_Value n_ in_) (fun y552 : (I4 × Int) => (bif (y552.2 != 0) then (some (((0 : Int), (0 : Int), (0 : Int), (0 : Int)), y552.2)) else (bif (ref05_Needs_r5_p first rows y552) then (some (((0 : Int), (0 : Int), (0 : Int), (0 : Int)), (1 : Int))) else (Option.bind (iterN (ref05_Needs_l8_p n_ in_ first rows) LL ((0 : Int), (0 : Int), (0 : Int), (0 : Int), (0 : Int))) (fun y775 : (Int × Int × Int × Int × Int) => (some (y775.2, (0 : Int)))))))))
theorem ref05_Needs_is : stepS E cp56 noE 22 [rA tsNode n_, rl tsI4 in_, ri first, ri rows] = Option.bind (ref05_Needs n_ in_ first rows) (fun y : (I4 × Int) => some (.tup [rA tsI4 y.1, ri y.2] : R)) := by
  refine .trans ?_ (bind_b fun y552 => (bif_b some_b (bif_b some_b (bind_b fun y775 => some_b))))
  refine (stepG_is (nt := 111) (regs := [(0, rA tsNode n_), (1, rl tsI4 in_), (2, ri first), (3, ri rows)])).trans ?_
  refine (pre3 (ref05_Needs_r2 n_ in_ first rows _)).trans (bind_g fun y552 => ?_)
  refine .trans seq_push ?_
  refine (pre1 (ref05_Needs_f1000004 n_ in_ first rows y552 _)).trans ?_
  refine (cond_e (b := (y552.2 != 0)) (st' := (S56_0 n_ in_ first rows y552)) ).trans (bif_g ?_ ?_)
  · refine (pre1 (ref05_Needs_fz n_ in_ first rows y552 _)).trans ?_
    refine (ret_eq).trans ?_
    refine seqC_ret.trans ?_
    kernel_rfl
  · refine (skip_eq).trans ?_
    refine (seqC_normal (st' := (S56_1 n_ in_ first rows y552))).trans ?_
    refine .trans seq_push ?_
    refine (pre1 (ref05_Needs_r5 n_ in_ first rows y552 _)).trans ?_
    refine (cond_e (b := (ref05_Needs_r5_p first rows y552)) (st' := (S56_2 n_ in_ first rows)) ).trans (bif_g ?_ ?_)
    · refine (pre1 (ref05_Needs_fzx1 n_ in_ first rows _)).trans ?_
      refine (ret_eq).trans ?_
      refine seqC_ret.trans ?_
      kernel_rfl
    · refine (skip_eq).trans ?_
      refine (seqC_normal (st' := (S56_2 n_ in_ first rows))).trans ?_
      refine .trans seq_push ?_
      refine (pre1 (ref05_Needs_f8 n_ in_ first rows _)).trans ?_
      refine (block_push (id := 0)).trans ?_
      refine (ref05_Needs_l8 n_ in_ first rows _).trans (bind_g fun y775 => ?_)
      refine block_same.trans ?_
      refine (seqC_normal (st' := (S56_25 y775))).trans ?_
      refine (pre1 (ref05_Needs_fzx3 y775 _)).trans ?_
      refine (ret_eq).trans ?_
      kernel_rfl
noncomputable def cp57 : CallP := withC cp56 22 [(.agg tsNode), (pL tsI4), pI, pI] (.tup [(.agg tsI4), pI]) (fun y : (I4 × Int) => (y.1, y.2, ())) (fun x => ref05_Needs x.1 x.2.1 x.2.2.1 x.2.2.2.1)
theorem cp57_ok : PureOK E cp57 := conS eok cp56_ok noE_ok fun x => Eq.mp (by kernel_rfl) (ref05_Needs_is x.1 x.2.1 x.2.2.1 x.2.2.2.1)
end
noncomputable abbrev C57 := codeOf E.P 18
noncomputable abbrev P57 {α : Type} := @preK α E 18 cp57 noE
abbrev S57_0 (s_ : I3) : St := ⟨[(1, rC tsI3 s_)], [], [], 11⟩
theorem ref02_Row_f1 {α : Type} (s_ : I3) (k : St → Option α) : P57 1 C57 ⟨[(0, rA tsI3 s_)], [], [], 11⟩ k = k (S57_0 s_) := by kernel_rfl
theorem ref02_Row_f1000002 {α : Type} (s_ : I3) (k : St → Option α) : P57 1 C57.r.l (S57_0 s_) k = k ⟨[(1, rC tsI3 s_), (5, rb ((ref02_May s_) != 0))], [], [], 11⟩ := by kernel_rfl
theorem ref02_Row_fz {α : Type} (s_ : I3) (k : St → Option α) : P57 1 C57.r.l.r.t (S57_0 s_) k = k ⟨[(2, ri 0)], [], [], 11⟩ := by kernel_rfl
theorem ref02_Row_fzx1 {α : Type} (s_ : I3) (k : St → Option α) : P57 1 C57.r.r (S57_0 s_) k = k ⟨[(2, ri (IntKind.wrap .i64 (s_.2.1 * s_.2.2)))], [], [], 11⟩ := by kernel_rfl
/-- quilt/quiltref02.Row -/
def ref02_Row_q {β : Type} (s_ : I3) (K : Int → β) : β := (bif ((ref02_May s_) != 0) then (K (0 : Int)) else (K (IntKind.wrap .i64 (s_.2.1 * s_.2.2))))
def ref02_Row (s_ : I3) : Int := ref02_Row_q s_ (fun y => y)
theorem ref02_Row_n {β : Type} (s_ : I3) (K : Int → β) : ref02_Row_q s_ K = K (ref02_Row s_) := (bif_k K rfl rfl)
theorem ref02_Row_is (s_ : I3) : stepS E cp57 noE 18 [rA tsI3 s_] = (fun y : Int => some (ri y : R)) (ref02_Row s_) := by
  refine Eq.trans ?_ (ref02_Row_n s_ (fun y : Int => some (ri y : R)))
  refine (stepG_is (nt := 11) (regs := [(0, rA tsI3 s_)])).trans ?_
  unfold ref02_Row_q
  refine (pre1 (ref02_Row_f1 s_ _)).trans ?_
  refine .trans seq_push ?_
  refine (pre1 (ref02_Row_f1000002 s_ _)).trans ?_
  refine (cond_e (b := ((ref02_May s_) != 0)) (st' := (S57_0 s_)) ).trans (bif_g ?_ ?_)
  · refine (pre1 (ref02_Row_fz s_ _)).trans ?_
    refine (ret_eq).trans ?_
    refine seqC_ret.trans ?_
    kernel_rfl
  · refine (skip_eq).trans ?_
    refine (seqC_normal (st' := (S57_0 s_))).trans ?_
    refine (pre1 (ref02_Row_fzx1 s_ _)).trans ?_
    refine (ret_eq).trans ?_
    kernel_rfl
noncomputable def cp58 : CallP := withC cp57 18 [(.agg tsI3)] (.one pI) (fun y : Int => y) (fun x => some (ref02_Row x.1))
theorem cp58_ok : PureOK E cp58 := conS eok cp57_ok noE_ok fun x => Eq.mp (by kernel_rfl) (ref02_Row_is x.1)
section
variable {α : Type} (n_ : Node) (in_ : (List I4)) (first : Int) (rows : Int) (y776 : (I4 × Int)) (y777 : (I4 × Int)) (s794 : (Int × Int × Int × Int)) (y796 : (Int × Int × Int)) (y797 : (Int × Int × Int × Int)) (k : St → Option α) (q : Kont α)
noncomputable abbrev C58 := codeOf E.P 11
noncomputable abbrev P58 := @preK α E 11 cp58 noE
noncomputable abbrev R58 := @runCode α E 11 cp58 noE
abbrev S58_0 : St := ⟨[(1, rl tsI4 in_), (3, ri rows), (4, rC tsNode n_), (8, rF 0), (10, rF 1), (11, ri y776.2)], [[di 0, di 0, di 0], (tsI4.leaves y776.1)], [], 65⟩
theorem ref15_Sizes_r1 : P58 2 C58 ⟨[(0, rA tsNode n_), (1, rl tsI4 in_), (2, ri first), (3, ri rows)], [], [], 65⟩ k = Option.bind (ref05_Needs n_ in_ first rows) fun y776 : (I4 × Int) => k (S58_0 n_ in_ rows y776) := by kernel_rfl
theorem ref15_Sizes_f1000003 : P58 1 C58.r.r.l (S58_0 n_ in_ rows y776) k = k ⟨[(1, rl tsI4 in_), (3, ri rows), (4, rC tsNode n_), (8, rF 0), (10, rF 1), (11, ri y776.2), (25, rb (y776.2 != 0))], [[di 0, di 0, di 0], (tsI4.leaves y776.1)], [], 65⟩ := by kernel_rfl
theorem ref15_Sizes_fz : P58 1 C58.r.r.l.r.t (S58_0 n_ in_ rows y776) k = k ⟨[(8, rF 0), (9, ri y776.2)], [[di 0, di 0, di 0], []], [], 65⟩ := by kernel_rfl
abbrev S58_1 : St := ⟨[(1, rl tsI4 in_), (3, ri rows), (4, rC tsNode n_), (8, rF 0), (10, rF 1)], [[di 0, di 0, di 0], (tsI4.leaves y776.1)], [], 65⟩
abbrev S58_2 : St := ⟨[(1, rl tsI4 in_), (3, ri rows), (8, rF 0), (10, rF 1), (12, rF 2)], [[di 0, di 0, di 0], (tsI4.leaves y776.1), (tsI4.leaves y777.1)], [], 65⟩
theorem ref15_Sizes_r4 : P58 1 C58.r.r.r (S58_1 n_ in_ rows y776) k = Option.bind (ref03_Value n_ in_) fun y777 : (I4 × Int) => k (S58_2 in_ rows y776 y777) := by kernel_rfl
abbrev S58_3 : St := ⟨[(1, rl tsI4 in_), (8, rF 0), (10, rF 1), (14, rF 3)], [[di 0, di 0, di 0], (tsI4.leaves y776.1), [], [di 0, di 0, di (IntKind.wrap .i64 (rows * (ref02_Row (y777.1.1, y777.1.2.1, y777.1.2.2.1))))]], [], 65⟩
theorem ref15_Sizes_f6 : P58 1 C58.r.r.r.r (S58_2 in_ rows y776 y777) k = k (S58_3 in_ rows y776 y777) := by kernel_rfl
abbrev S58_4 : St := ⟨[(1, rl tsI4 in_), (8, rF 0), (10, rF 1), (14, rF 3), (15, ri 0)], [[di 0, di 0, di 0], (tsI4.leaves y776.1), [], [di 0, di 0, di (IntKind.wrap .i64 (rows * (ref02_Row (y777.1.1, y777.1.2.1, y777.1.2.2.1))))]], [], 65⟩
theorem ref15_Sizes_f7 : P58 1 C58.r.r.r.r.r.l (S58_3 in_ rows y776 y777) k = k (S58_4 in_ rows y776 y777) := by kernel_rfl
abbrev S58_5 : St := ⟨[(1, rl tsI4 in_), (8, rF 0), (10, rF 1), (14, rF 3), (15, ri s794.1)], [[di 0, di 0, di 0], (tsI4.leaves y776.1), [], (tsI3.leaves s794.2)], [], 65⟩
theorem ref15_Sizes_fzx1 : P58 1 C58.r.r.r.r.r.l.r.b.b.l (S58_5 in_ y776 s794) k = k ⟨[(1, rl tsI4 in_), (8, rF 0), (10, rF 1), (14, rF 3), (15, ri s794.1), (43, rb (decide (s794.1 < (in_.length : Int))))], [[di 0, di 0, di 0], (tsI4.leaves y776.1), [], (tsI3.leaves s794.2)], [], 65⟩ := by kernel_rfl
def ref15_Sizes_r9_p : Option (Int × Int × Int) := (bif (s794.1 == 0) then (bif (s794.1 == 0) then (bif (decide ((0 : Int) ≤ s794.1)) then (bif (decide (s794.1 < (in_.length : Int))) then (bif (s794.1 == 0) then (some ((IntKind.wrap .i64 ((IntKind.wrap .i64 (y776.1.2.1 - y776.1.1)) * (ref02_Row ((gt in_ s794.1 dI4).1, (gt in_ s794.1 dI4).2.1, (gt in_ s794.1 dI4).2.2.1)))), s794.2.2.1, s794.2.2.2)) else (bif (s794.1 == 1) then (some (s794.2.1, (IntKind.wrap .i64 ((IntKind.wrap .i64 (y776.1.2.1 - y776.1.1)) * (ref02_Row ((gt in_ s794.1 dI4).1, (gt in_ s794.1 dI4).2.1, (gt in_ s794.1 dI4).2.2.1)))), s794.2.2.2)) else (bif (s794.1 == 2) then (some (s794.2.1, s794.2.2.1, (IntKind.wrap .i64 ((IntKind.wrap .i64 (y776.1.2.1 - y776.1.1)) * (ref02_Row ((gt in_ s794.1 dI4).1, (gt in_ s794.1 dI4).2.1, (gt in_ s794.1 dI4).2.2.1)))))) else none))) else none) else none) else (bif (s794.1 == 1) then (bif (decide ((0 : Int) ≤ s794.1)) then (bif (decide (s794.1 < (in_.length : Int))) then (bif (s794.1 == 0) then (some ((IntKind.wrap .i64 ((IntKind.wrap .i64 (y776.1.2.1 - y776.1.2.2.1)) * (ref02_Row ((gt in_ s794.1 dI4).1, (gt in_ s794.1 dI4).2.1, (gt in_ s794.1 dI4).2.2.1)))), s794.2.2.1, s794.2.2.2)) else (bif (s794.1 == 1) then (some (s794.2.1, (IntKind.wrap .i64 ((IntKind.wrap .i64 (y776.1.2.1 - y776.1.2.2.1)) * (ref02_Row ((gt in_ s794.1 dI4).1, (gt in_ s794.1 dI4).2.1, (gt in_ s794.1 dI4).2.2.1)))), s794.2.2.2)) else (bif (s794.1 == 2) then (some (s794.2.1, s794.2.2.1, (IntKind.wrap .i64 ((IntKind.wrap .i64 (y776.1.2.1 - y776.1.2.2.1)) * (ref02_Row ((gt in_ s794.1 dI4).1, (gt in_ s794.1 dI4).2.1, (gt in_ s794.1 dI4).2.2.1)))))) else none))) else none) else none) else none)) else (bif (s794.1 == 1) then (bif (s794.1 == 0) then (bif (decide ((0 : Int) ≤ s794.1)) then (bif (decide (s794.1 < (in_.length : Int))) then (bif (s794.1 == 0) then (some ((IntKind.wrap .i64 ((IntKind.wrap .i64 (y776.1.2.2.2 - y776.1.1)) * (ref02_Row ((gt in_ s794.1 dI4).1, (gt in_ s794.1 dI4).2.1, (gt in_ s794.1 dI4).2.2.1)))), s794.2.2.1, s794.2.2.2)) else (bif (s794.1 == 1) then (some (s794.2.1, (IntKind.wrap .i64 ((IntKind.wrap .i64 (y776.1.2.2.2 - y776.1.1)) * (ref02_Row ((gt in_ s794.1 dI4).1, (gt in_ s794.1 dI4).2.1, (gt in_ s794.1 dI4).2.2.1)))), s794.2.2.2)) else (bif (s794.1 == 2) then (some (s794.2.1, s794.2.2.1, (IntKind.wrap .i64 ((IntKind.wrap .i64 (y776.1.2.2.2 - y776.1.1)) * (ref02_Row ((gt in_ s794.1 dI4).1, (gt in_ s794.1 dI4).2.1, (gt in_ s794.1 dI4).2.2.1)))))) else none))) else none) else none) else (bif (s794.1 == 1) then (bif (decide ((0 : Int) ≤ s794.1)) then (bif (decide (s794.1 < (in_.length : Int))) then (bif (s794.1 == 0) then (some ((IntKind.wrap .i64 ((IntKind.wrap .i64 (y776.1.2.2.2 - y776.1.2.2.1)) * (ref02_Row ((gt in_ s794.1 dI4).1, (gt in_ s794.1 dI4).2.1, (gt in_ s794.1 dI4).2.2.1)))), s794.2.2.1, s794.2.2.2)) else (bif (s794.1 == 1) then (some (s794.2.1, (IntKind.wrap .i64 ((IntKind.wrap .i64 (y776.1.2.2.2 - y776.1.2.2.1)) * (ref02_Row ((gt in_ s794.1 dI4).1, (gt in_ s794.1 dI4).2.1, (gt in_ s794.1 dI4).2.2.1)))), s794.2.2.2)) else (bif (s794.1 == 2) then (some (s794.2.1, s794.2.2.1, (IntKind.wrap .i64 ((IntKind.wrap .i64 (y776.1.2.2.2 - y776.1.2.2.1)) * (ref02_Row ((gt in_ s794.1 dI4).1, (gt in_ s794.1 dI4).2.1, (gt in_ s794.1 dI4).2.2.1)))))) else none))) else none) else none) else none)) else none))
abbrev S58_6 : St := ⟨[(1, rl tsI4 in_), (8, rF 0), (10, rF 1), (14, rF 3), (15, ri s794.1)], [[di 0, di 0, di 0], (tsI4.leaves y776.1), [], (tsI3.leaves y796)], [], 65⟩
theorem ref15_Sizes_r9 : R58 C58.r.r.r.r.r.l.r.b.b.r.l.b (S58_5 in_ y776 s794) q = Option.bind (ref15_Sizes_r9_p in_ y776 s794) (fun y796 : (Int × Int × Int) => q .normal (S58_6 in_ y776 s794 y796)) := .trans (by kernel_rfl) (bif_b (bif_b (bif_b (bif_b (bif_b some_b (bif_b some_b (bif_b some_b none_b))) none_b) none_b) (bif_b (bif_b (bif_b (bif_b some_b (bif_b some_b (bif_b some_b none_b))) none_b) none_b) none_b)) (bif_b (bif_b (bif_b (bif_b (bif_b some_b (bif_b some_b (bif_b some_b none_b))) none_b) none_b) (bif_b (bif_b (bif_b (bif_b some_b (bif_b some_b (bif_b some_b none_b))) none_b) none_b) none_b)) none_b))
theorem ref15_Sizes_r8 : R58 C58.r.r.r.r.r.l.r.b.b.r.r (S58_6 in_ y776 s794 y796) q = q .normal ⟨[(1, rl tsI4 in_), (8, rF 0), (10, rF 1), (14, rF 3), (15, ri (IntKind.wrap .i64 (s794.1 + 1)))], [[di 0, di 0, di 0], (tsI4.leaves y776.1), [], (tsI3.leaves y796)], [], 65⟩ := by kernel_rfl
def ref15_Sizes_l7_p : Option ((Int × Int × Int × Int) ⊕ (Int × Int × Int × Int)) := (bif (decide (s794.1 < (in_.length : Int))) then (Option.bind (ref15_Sizes_r9_p in_ y776 s794) (fun y796 : (Int × Int × Int) => (some (Sum.inl ((IntKind.wrap .i64 (s794.1 + 1)), y796.1, y796.2.1, y796.2.2))))) else (some (Sum.inr s794)))
abbrev S58_7 : St := ⟨[(1, rl tsI4 in_), (8, rF 0), (10, rF 1), (14, rF 3), (15, ri y797.1)], [[di 0, di 0, di 0], (tsI4.leaves y776.1), [], (tsI3.leaves y797.2)], [], 65⟩
theorem ref15_Sizes_l7_b : R58 C58.r.r.r.r.r.l.r.b.b (S58_5 in_ y776 s794) (loopKont 4 q) = Option.bind (ref15_Sizes_l7_p in_ y776 s794) (either (fun y : (Int × Int × Int × Int) => q .normal ⟨[(1, rl tsI4 in_), (8, rF 0), (10, rF 1), (14, rF 3), (15, ri y.1)], [[di 0, di 0, di 0], (tsI4.leaves y776.1), [], (tsI3.leaves y.2)], [], 65⟩) (fun y797 : (Int × Int × Int × Int) => q (.exit 0) (S58_7 in_ y776 y797))) := by
  refine .trans ?_ (bif_b (bind_b fun y796 => e2_0) e2_1)
  refine .trans seq_push ?_
  refine (pre1 (ref15_Sizes_fzx1 in_ y776 s794 _)).trans ?_
  refine (cond_e (b := (decide (s794.1 < (in_.length : Int)))) (st' := (S58_5 in_ y776 s794)) ).trans (bif_g ?_ ?_)
  · refine (skip_eq).trans ?_
    refine (seqC_normal (st' := (S58_5 in_ y776 s794))).trans ?_
    refine .trans seq_push ?_
    refine (block_push (id := 1)).trans ?_
    refine (ref15_Sizes_r9 in_ y776 s794 _).trans (bind_g fun y796 => ?_)
    refine block_normal.trans ?_
    refine (seqC_normal (st' := (S58_6 in_ y776 s794 y796))).trans ?_
    refine (ref15_Sizes_r8 in_ y776 s794 y796 _).trans ?_
    kernel_rfl
  · refine ((exit_eq (j := 0))).trans ?_
    refine seqC_exit.trans ?_
    kernel_rfl
theorem ref15_Sizes_l7 : R58 C58.r.r.r.r.r.l.r.b (S58_4 in_ rows y776 y777) q = Option.bind (iterN (ref15_Sizes_l7_p in_ y776) LL ((0 : Int), (0 : Int), (0 : Int), (IntKind.wrap .i64 (rows * (ref02_Row (y777.1.1, y777.1.2.1, y777.1.2.2.1)))))) (fun y797 : (Int × Int × Int × Int) => q (.exit 0) (S58_7 in_ y776 y797)) :=
  Eq.trans (by kernel_rfl) (loop_iter1 (S := fun s794 : (Int × Int × Int × Int) => (S58_5 in_ y776 s794)) (Y1 := fun y797 : (Int × Int × Int × Int) => ((.exit 0), (S58_7 in_ y776 y797))) (fun s q => ref15_Sizes_l7_b in_ y776 s q) (fun z => rfl) LL ((0 : Int), (0 : Int), (0 : Int), (IntKind.wrap .i64 (rows * (ref02_Row (y777.1.1, y777.1.2.1, y777.1.2.2.1))))))
abbrev S58_8 : St := ⟨[(8, rF 0), (14, rF 3)], [[di 0, di 0, di 0], (tsI4.leaves y776.1), [], (tsI3.leaves y797.2)], [], 65⟩
theorem ref15_Sizes_fzx2 : P58 1 C58.r.r.r.r.r.r (S58_8 y776 y797) k = k ⟨[(8, rF 0), (9, ri 0)], [(tsI3.leaves y797.2), (tsI4.leaves y776.1), [], []], [], 65⟩ := by kernel_rfl
/-- quilt/quiltref15.Sizes -/
def ref15_Sizes : Option (I3 × Int) := (Option.bind (ref05_Needs n_ in_ first rows) (fun y776 : (I4 × Int) => (bif (y776.2 != 0) then (some (((0 : Int), (0 : Int), (0 : Int)), y776.2)) else (Option.bind (ref03_Value n_ in_) (fun y777 : (I4 × Int) => (Option.bind (iterN (ref15_Sizes_l7_p in_ y776) LL ((0 : Int), (0 : Int), (0 : Int), (IntKind.wrap .i64 (rows * (ref02_Row (y777.1.1, y777.1.2.1, y777.1.2.2.1)))))) (fun y797 : (Int × Int × Int × Int) => (some (y797.2, (0 : Int))))))))))
theorem ref15_Sizes_is : stepS E cp58 noE 11 [rA tsNode n_, rl tsI4 in_, ri first, ri rows] = Option.bind (ref15_Sizes n_ in_ first rows) (fun y : (I3 × Int) => some (.tup [rA tsI3 y.1, ri y.2] : R)) := by
  refine .trans ?_ (bind_b fun y776 => (bif_b some_b (bind_b fun y777 => (bind_b fun y797 => some_b))))
  refine (stepG_is (nt := 65) (regs := [(0, rA tsNode n_), (1, rl tsI4 in_), (2, ri first), (3, ri rows)])).trans ?_
  refine (pre2 (ref15_Sizes_r1 n_ in_ first rows _)).trans (bind_g fun y776 => ?_)
  refine .trans seq_push ?_
  refine (pre1 (ref15_Sizes_f1000003 n_ in_ rows y776 _)).trans ?_
  refine (cond_e (b := (y776.2 != 0)) (st' := (S58_0 n_ in_ rows y776)) ).trans (bif_g ?_ ?_)
  · refine (pre1 (ref15_Sizes_fz n_ in_ rows y776 _)).trans ?_
    refine (ret_eq).trans ?_
    refine seqC_ret.trans ?_
    kernel_rfl
  · refine (skip_eq).trans ?_
    refine (seqC_normal (st' := (S58_1 n_ in_ rows y776))).trans ?_
    refine (pre1 (ref15_Sizes_r4 n_ in_ rows y776 _)).trans (bind_g fun y777 => ?_)
    refine (pre1 (ref15_Sizes_f6 in_ rows y776 y777 _)).trans ?_
    refine .trans seq_push ?_
    refine (pre1 (ref15_Sizes_f7 in_ rows y776 y777 _)).trans ?_
    refine (block_push (id := 0)).trans ?_
    refine (ref15_Sizes_l7 in_ rows y776 y777 _).trans (bind_g fun y797 => ?_)
    refine block_same.trans ?_
    refine (seqC_normal (st' := (S58_8 y776 y797))).trans ?_
    refine (pre1 (ref15_Sizes_fzx2 y776 y797 _)).trans ?_
    refine (ret_eq).trans ?_
    kernel_rfl
noncomputable def cp59 : CallP := withC cp58 11 [(.agg tsNode), (pL tsI4), pI, pI] (.tup [(.agg tsI3), pI]) (fun y : (I3 × Int) => (y.1, y.2, ())) (fun x => ref15_Sizes x.1 x.2.1 x.2.2.1 x.2.2.2.1)
theorem cp59_ok : PureOK E cp59 := conS eok cp58_ok noE_ok fun x => Eq.mp (by kernel_rfl) (ref15_Sizes_is x.1 x.2.1 x.2.2.1 x.2.2.2.1)
end
section
variable {α β : Type} (n_ : Node) (in_ : (List I4)) (rows : Int) (y802 : (I4 × Int)) (y865 : (List I2)) (s895 : (Int × Int × Int × Int)) (y911 : (I3 × Int)) (s918 : (Int × Int × Int × Int)) (y921 : Int) (y922 : (Int × Int × Int)) (y923 : (Int × Int × Int × Int)) (y924 : (Int × Int × Int × Int)) (k : St → Option α) (q : Kont α)
noncomputable abbrev C59 := codeOf E.P 12
noncomputable abbrev P59 := @preK α E 12 cp59 noE
noncomputable abbrev R59 := @runCode α E 12 cp59 noE
abbrev S59_0 : St := ⟨[(1, rl tsI4 in_), (2, ri rows), (3, rC tsNode n_), (6, rF 0), (8, rF 1), (9, ri y802.2)], [[di 0, di 0, di 0], (tsI4.leaves y802.1)], [], 74⟩
theorem halo_Most_r1 : P59 2 C59 ⟨[(0, rA tsNode n_), (1, rl tsI4 in_), (2, ri rows)], [], [], 74⟩ k = Option.bind (graph_Value n_ in_) fun y802 : (I4 × Int) => k (S59_0 n_ in_ rows y802) := by kernel_rfl
theorem halo_Most_f1000003 : P59 1 C59.r.r.l.b (S59_0 n_ in_ rows y802) k = k ⟨[(1, rl tsI4 in_), (2, ri rows), (3, rC tsNode n_), (6, rF 0), (8, rF 1), (9, ri y802.2), (23, rb (y802.2 != 0))], [[di 0, di 0, di 0], (tsI4.leaves y802.1)], [], 74⟩ := by kernel_rfl
theorem halo_Most_fz : P59 1 C59.r.r.l.b.r.t (S59_0 n_ in_ rows y802) k = k ⟨[(6, rF 0), (7, ri y802.2)], [[di 0, di 0, di 0], []], [], 74⟩ := by kernel_rfl
def halo_Most_r4_q (K : Bool → β) : β := (bif (decide (rows < 1)) then (K true) else (K (decide (rows > y802.1.1))))
def halo_Most_r4_p : Bool := halo_Most_r4_q rows y802 (fun y => y)
theorem halo_Most_r4_n (K : Bool → β) : halo_Most_r4_q rows y802 K = K (halo_Most_r4_p rows y802) := (bif_k K rfl rfl)
theorem halo_Most_r4 : P59 1 C59.r.r.l.b.r.e (S59_0 n_ in_ rows y802) k = k ⟨[(1, rl tsI4 in_), (2, ri rows), (3, rC tsNode n_), (6, rF 0), (8, rF 1), (28, rb (halo_Most_r4_p rows y802))], [[di 0, di 0, di 0], (tsI4.leaves y802.1)], [], 74⟩ := Eq.trans (by kernel_rfl) (halo_Most_r4_n rows y802 (fun y804 : Bool => k ⟨[(1, rl tsI4 in_), (2, ri rows), (3, rC tsNode n_), (6, rF 0), (8, rF 1), (28, rb y804)], [[di 0, di 0, di 0], (tsI4.leaves y802.1)], [], 74⟩))
abbrev S59_1 : St := ⟨[(1, rl tsI4 in_), (2, ri rows), (3, rC tsNode n_), (6, rF 0), (8, rF 1)], [[di 0, di 0, di 0], (tsI4.leaves y802.1)], [], 74⟩
theorem halo_Most_fzx1 : P59 1 C59.r.r.l.b.r.e.r.t (S59_1 n_ in_ rows y802) k = k ⟨[(6, rF 0), (7, ri 1)], [[di 0, di 0, di 0], []], [], 74⟩ := by kernel_rfl
abbrev S59_2 : St := ⟨[(1, rl tsI4 in_), (2, ri rows), (3, rC tsNode n_), (6, rF 0), (8, rF 1), (10, rF 2)], [[di 0, di 0, di 0], (tsI4.leaves y802.1), [di 0, di 0, di 0]], [], 74⟩
theorem halo_Most_f7 : P59 1 C59.r.r.r (S59_1 n_ in_ rows y802) k = k (S59_2 n_ in_ rows y802) := by kernel_rfl
abbrev S59_3 : St := ⟨[(1, rl tsI4 in_), (3, rC tsNode n_), (6, rF 0), (10, rF 2), (43, rO tsI2 y865 43), (44, ri (y865.length : Int)), (45, ri 0)], [[di 0, di 0, di 0], [], [di 0, di 0, di 0]], [], 74⟩
theorem halo_Most_r7 : P59 1 C59.r.r.r.r.l (S59_2 n_ in_ rows y802) k = Option.bind (halo_Tiles y802.1.1 rows) fun y865 : (List I2) => k (S59_3 n_ in_ y865) := by kernel_rfl
abbrev S59_4 : St := ⟨[(1, rl tsI4 in_), (3, rC tsNode n_), (6, rF 0), (10, rF 2), (43, rO tsI2 y865 43), (44, ri (y865.length : Int)), (45, ri s895.1)], [[di 0, di 0, di 0], [], (tsI3.leaves s895.2)], [], 74⟩
theorem halo_Most_fzx2 : P59 1 C59.r.r.r.r.l.r.b.b (S59_4 n_ in_ y865 s895) k = k ⟨[(1, rl tsI4 in_), (3, rC tsNode n_), (6, rF 0), (10, rF 2), (43, rO tsI2 y865 43), (44, ri (y865.length : Int)), (45, ri s895.1), (46, rb (decide (s895.1 < (y865.length : Int))))], [[di 0, di 0, di 0], [], (tsI3.leaves s895.2)], [], 74⟩ := by kernel_rfl
def halo_Most_r9_p : Option Unit := (bif (decide ((0 : Int) ≤ s895.1)) then (bif (decide (s895.1 < (y865.length : Int))) then (some ()) else none) else none)
abbrev S59_5 : St := ⟨[(1, rl tsI4 in_), (3, rC tsNode n_), (6, rF 0), (10, rF 2), (12, rF 3), (43, rO tsI2 y865 43), (44, ri (y865.length : Int)), (45, ri s895.1)], [[di 0, di 0, di 0], [], (tsI3.leaves s895.2), (tsI2.leaves (gt y865 s895.1 dI2))], [], 74⟩
theorem halo_Most_r9 : P59 1 C59.r.r.r.r.l.r.b.b.r.r.l.b (S59_4 n_ in_ y865 s895) k = Option.bind (halo_Most_r9_p y865 s895) (fun y910 : Unit => k (S59_5 n_ in_ y865 s895)) := .trans (by kernel_rfl) (bif_b (bif_b some_b none_b) none_b)
abbrev S59_6 : St := ⟨[(1, rl tsI4 in_), (3, rC tsNode n_), (6, rF 0), (10, rF 2), (13, rF 4), (43, rO tsI2 y865 43), (44, ri (y865.length : Int)), (45, ri s895.1)], [[di 0, di 0, di 0], [], (tsI3.leaves s895.2), [], (tsI3.leaves y911.1)], [], 74⟩
theorem halo_Most_r10 : P59 1 C59.r.r.r.r.l.r.b.b.r.r.l.b.r (S59_5 n_ in_ y865 s895) k = Option.bind (halo_Sizes n_ in_ ((gt y865 s895.1 dI2).1) ((gt y865 s895.1 dI2).2)) fun y911 : (I3 × Int) => k (S59_6 n_ in_ y865 s895 y911) := by kernel_rfl
abbrev S59_7 : St := ⟨[(1, rl tsI4 in_), (3, rC tsNode n_), (6, rF 0), (10, rF 2), (43, rO tsI2 y865 43), (44, ri (y865.length : Int)), (45, ri s895.1), (59, rA tsI3 y911.1), (60, ri 0)], [[di 0, di 0, di 0], [], (tsI3.leaves s895.2), [], []], [], 74⟩
theorem halo_Most_f12 : P59 1 C59.r.r.r.r.l.r.b.b.r.r.l.b.r.r (S59_6 n_ in_ y865 s895 y911) k = k (S59_7 n_ in_ y865 s895 y911) := by kernel_rfl
abbrev S59_8 : St := ⟨[(1, rl tsI4 in_), (3, rC tsNode n_), (6, rF 0), (10, rF 2), (43, rO tsI2 y865 43), (44, ri (y865.length : Int)), (45, ri s895.1), (59, rA tsI3 y911.1), (60, ri s918.1)], [[di 0, di 0, di 0], [], (tsI3.leaves s918.2), [], []], [], 74⟩
theorem halo_Most_fzx3 : P59 1 C59.r.r.r.r.l.r.b.b.r.r.l.b.r.r.r.b.b (S59_8 n_ in_ y865 s895 y911 s918) k = k ⟨[(1, rl tsI4 in_), (3, rC tsNode n_), (6, rF 0), (10, rF 2), (43, rO tsI2 y865 43), (44, ri (y865.length : Int)), (45, ri s895.1), (59, rA tsI3 y911.1), (60, ri s918.1), (61, rb (decide (s918.1 < 3)))], [[di 0, di 0, di 0], [], (tsI3.leaves s918.2), [], []], [], 74⟩ := by kernel_rfl
def halo_Most_r13_p : Option Int := (bif (s918.1 == 0) then (some y911.1.1) else (bif (s918.1 == 1) then (some y911.1.2.1) else (bif (s918.1 == 2) then (some y911.1.2.2) else none)))
abbrev S59_9 : St := ⟨[(1, rl tsI4 in_), (3, rC tsNode n_), (6, rF 0), (10, rF 2), (15, ri s918.1), (16, ri y921), (43, rO tsI2 y865 43), (44, ri (y865.length : Int)), (45, ri s895.1), (59, rA tsI3 y911.1), (60, ri s918.1)], [[di 0, di 0, di 0], [], (tsI3.leaves s918.2), [], []], [], 74⟩
theorem halo_Most_r13 : P59 1 C59.r.r.r.r.l.r.b.b.r.r.l.b.r.r.r.b.b.r.r.l.b (S59_8 n_ in_ y865 s895 y911 s918) k = Option.bind (halo_Most_r13_p y911 s918) (fun y921 : Int => k (S59_9 n_ in_ y865 s895 y911 s918 y921)) := .trans (by kernel_rfl) (bif_b some_b (bif_b some_b (bif_b some_b none_b)))
def halo_Most_r14_p : Option (Int × Int × Int) := (bif (s918.1 == 0) then (bif (s918.1 == 0) then (some ((max s918.2.1 y921), s918.2.2.1, s918.2.2.2)) else (bif (s918.1 == 1) then (some (s918.2.1, (max s918.2.1 y921), s918.2.2.2)) else (bif (s918.1 == 2) then (some (s918.2.1, s918.2.2.1, (max s918.2.1 y921))) else none))) else (bif (s918.1 == 1) then (bif (s918.1 == 0) then (some ((max s918.2.2.1 y921), s918.2.2.1, s918.2.2.2)) else (bif (s918.1 == 1) then (some (s918.2.1, (max s918.2.2.1 y921), s918.2.2.2)) else (bif (s918.1 == 2) then (some (s918.2.1, s918.2.2.1, (max s918.2.2.1 y921))) else none))) else (bif (s918.1 == 2) then (bif (s918.1 == 0) then (some ((max s918.2.2.2 y921), s918.2.2.1, s918.2.2.2)) else (bif (s918.1 == 1) then (some (s918.2.1, (max s918.2.2.2 y921), s918.2.2.2)) else (bif (s918.1 == 2) then (some (s918.2.1, s918.2.2.1, (max s918.2.2.2 y921))) else none))) else none)))
abbrev S59_10 : St := ⟨[(1, rl tsI4 in_), (3, rC tsNode n_), (6, rF 0), (10, rF 2), (43, rO tsI2 y865 43), (44, ri (y865.length : Int)), (45, ri s895.1), (59, rA tsI3 y911.1), (60, ri s918.1)], [[di 0, di 0, di 0], [], (tsI3.leaves y922), [], []], [], 74⟩
theorem halo_Most_r14 : R59 C59.r.r.r.r.l.r.b.b.r.r.l.b.r.r.r.b.b.r.r.l.b.r (S59_9 n_ in_ y865 s895 y911 s918 y921) q = Option.bind (halo_Most_r14_p s918 y921) (fun y922 : (Int × Int × Int) => q .normal (S59_10 n_ in_ y865 s895 y911 s918 y922)) := .trans (by kernel_rfl) (bif_b (bif_b some_b (bif_b some_b (bif_b some_b none_b))) (bif_b (bif_b some_b (bif_b some_b (bif_b some_b none_b))) (bif_b (bif_b some_b (bif_b some_b (bif_b some_b none_b))) none_b)))
theorem halo_Most_r15 : R59 C59.r.r.r.r.l.r.b.b.r.r.l.b.r.r.r.b.b.r.r.r (S59_10 n_ in_ y865 s895 y911 s918 y922) q = q .normal ⟨[(1, rl tsI4 in_), (3, rC tsNode n_), (6, rF 0), (10, rF 2), (43, rO tsI2 y865 43), (44, ri (y865.length : Int)), (45, ri s895.1), (59, rA tsI3 y911.1), (60, ri (IntKind.wrap .i64 (s918.1 + 1)))], [[di 0, di 0, di 0], [], (tsI3.leaves y922), [], []], [], 74⟩ := by kernel_rfl
def halo_Most_l12_p : Option ((Int × Int × Int × Int) ⊕ (Int × Int × Int × Int)) := (bif (decide (s918.1 < 3)) then (Option.bind (halo_Most_r13_p y911 s918) (fun y921 : Int => (Option.bind (halo_Most_r14_p s918 y921) (fun y922 : (Int × Int × Int) => (some (Sum.inl ((IntKind.wrap .i64 (s918.1 + 1)), y922.1, y922.2.1, y922.2.2))))))) else (some (Sum.inr s918)))
abbrev S59_11 : St := ⟨[(1, rl tsI4 in_), (3, rC tsNode n_), (6, rF 0), (10, rF 2), (43, rO tsI2 y865 43), (44, ri (y865.length : Int)), (45, ri s895.1), (59, rA tsI3 y911.1), (60, ri y923.1)], [[di 0, di 0, di 0], [], (tsI3.leaves y923.2), [], []], [], 74⟩
theorem halo_Most_l12_b : R59 C59.r.r.r.r.l.r.b.b.r.r.l.b.r.r.r.b.b (S59_8 n_ in_ y865 s895 y911 s918) (loopKont 5 q) = Option.bind (halo_Most_l12_p y911 s918) (either (fun y : (Int × Int × Int × Int) => q .normal ⟨[(1, rl tsI4 in_), (3, rC tsNode n_), (6, rF 0), (10, rF 2), (43, rO tsI2 y865 43), (44, ri (y865.length : Int)), (45, ri s895.1), (59, rA tsI3 y911.1), (60, ri y.1)], [[di 0, di 0, di 0], [], (tsI3.leaves y.2), [], []], [], 74⟩) (fun y923 : (Int × Int × Int × Int) => q (.exit 3) (S59_11 n_ in_ y865 s895 y911 y923))) := by
  refine .trans ?_ (bif_b (bind_b fun y921 => (bind_b fun y922 => e2_0)) e2_1)
  refine (pre1 (halo_Most_fzx3 n_ in_ y865 s895 y911 s918 _)).trans ?_
  refine .trans seq_push ?_
  refine (cond_e (b := (decide (s918.1 < 3))) (st' := (S59_8 n_ in_ y865 s895 y911 s918)) ).trans (bif_g ?_ ?_)
  · refine (skip_eq).trans ?_
    refine (seqC_normal (st' := (S59_8 n_ in_ y865 s895 y911 s918))).trans ?_
    refine .trans seq_push ?_
    refine (block_push (id := 4)).trans ?_
    refine (pre1 (halo_Most_r13 n_ in_ y865 s895 y911 s918 _)).trans (bind_g fun y921 => ?_)
    refine (halo_Most_r14 n_ in_ y865 s895 y911 s918 y921 _).trans (bind_g fun y922 => ?_)
    refine block_normal.trans ?_
    refine (seqC_normal (st' := (S59_10 n_ in_ y865 s895 y911 s918 y922))).trans ?_
    refine (halo_Most_r15 n_ in_ y865 s895 y911 s918 y922 _).trans ?_
    kernel_rfl
  · refine ((exit_eq (j := 3))).trans ?_
    refine seqC_exit.trans ?_
    kernel_rfl
theorem halo_Most_l12 : R59 C59.r.r.r.r.l.r.b.b.r.r.l.b.r.r.r.b (S59_7 n_ in_ y865 s895 y911) q = Option.bind (iterN (halo_Most_l12_p y911) LL ((0 : Int), s895.2.1, s895.2.2.1, s895.2.2.2)) (fun y923 : (Int × Int × Int × Int) => q (.exit 3) (S59_11 n_ in_ y865 s895 y911 y923)) :=
  Eq.trans (by kernel_rfl) (loop_iter1 (S := fun s918 : (Int × Int × Int × Int) => (S59_8 n_ in_ y865 s895 y911 s918)) (Y1 := fun y923 : (Int × Int × Int × Int) => ((.exit 3), (S59_11 n_ in_ y865 s895 y911 y923))) (fun s q => halo_Most_l12_b n_ in_ y865 s895 y911 s q) (fun z => rfl) LL ((0 : Int), s895.2.1, s895.2.2.1, s895.2.2.2))
abbrev S59_12 : St := ⟨[(1, rl tsI4 in_), (3, rC tsNode n_), (6, rF 0), (10, rF 2), (43, rO tsI2 y865 43), (44, ri (y865.length : Int)), (45, ri s895.1)], [[di 0, di 0, di 0], [], (tsI3.leaves y923.2), [], []], [], 74⟩
theorem halo_Most_r16 : R59 C59.r.r.r.r.l.r.b.b.r.r.r (S59_12 n_ in_ y865 s895 y923) q = q .normal ⟨[(1, rl tsI4 in_), (3, rC tsNode n_), (6, rF 0), (10, rF 2), (43, rO tsI2 y865 43), (44, ri (y865.length : Int)), (45, ri (IntKind.wrap .i64 (s895.1 + 1)))], [[di 0, di 0, di 0], [], (tsI3.leaves y923.2), [], []], [], 74⟩ := by kernel_rfl
def halo_Most_l8_p : Option ((Int × Int × Int × Int) ⊕ (Int × Int × Int × Int)) := (bif (decide (s895.1 < (y865.length : Int))) then (Option.bind (halo_Most_r9_p y865 s895) (fun y910 : Unit => (Option.bind (halo_Sizes n_ in_ ((gt y865 s895.1 dI2).1) ((gt y865 s895.1 dI2).2)) (fun y911 : (I3 × Int) => (Option.bind (iterN (halo_Most_l12_p y911) LL ((0 : Int), s895.2.1, s895.2.2.1, s895.2.2.2)) (fun y923 : (Int × Int × Int × Int) => (some (Sum.inl ((IntKind.wrap .i64 (s895.1 + 1)), y923.2.1, y923.2.2.1, y923.2.2.2))))))))) else (some (Sum.inr s895)))
abbrev S59_13 : St := ⟨[(1, rl tsI4 in_), (3, rC tsNode n_), (6, rF 0), (10, rF 2), (43, rO tsI2 y865 43), (44, ri (y865.length : Int)), (45, ri y924.1)], [[di 0, di 0, di 0], [], (tsI3.leaves y924.2)], [], 74⟩
theorem halo_Most_l8_b : R59 C59.r.r.r.r.l.r.b.b (S59_4 n_ in_ y865 s895) (loopKont 3 q) = Option.bind (halo_Most_l8_p n_ in_ y865 s895) (either (fun y : (Int × Int × Int × Int) => q .normal ⟨[(1, rl tsI4 in_), (3, rC tsNode n_), (6, rF 0), (10, rF 2), (43, rO tsI2 y865 43), (44, ri (y865.length : Int)), (45, ri y.1)], [[di 0, di 0, di 0], [], (tsI3.leaves y.2)], [], 74⟩) (fun y924 : (Int × Int × Int × Int) => q (.exit 1) (S59_13 n_ in_ y865 y924))) := by
  refine .trans ?_ (bif_b (bind_b fun y910 => (bind_b fun y911 => (bind_b fun y923 => e2_0))) e2_1)
  refine (pre1 (halo_Most_fzx2 n_ in_ y865 s895 _)).trans ?_
  refine .trans seq_push ?_
  refine (cond_e (b := (decide (s895.1 < (y865.length : Int)))) (st' := (S59_4 n_ in_ y865 s895)) ).trans (bif_g ?_ ?_)
  · refine (skip_eq).trans ?_
    refine (seqC_normal (st' := (S59_4 n_ in_ y865 s895))).trans ?_
    refine .trans seq_push ?_
    refine (block_push (id := 2)).trans ?_
    refine (pre1 (halo_Most_r9 n_ in_ y865 s895 _)).trans (bind_g fun y910 => ?_)
    refine (pre1 (halo_Most_r10 n_ in_ y865 s895 _)).trans (bind_g fun y911 => ?_)
    refine (pre1 (halo_Most_f12 n_ in_ y865 s895 y911 _)).trans ?_
    refine (block_push (id := 3)).trans ?_
    refine (halo_Most_l12 n_ in_ y865 s895 y911 _).trans (bind_g fun y923 => ?_)
    refine block_same.trans ?_
    refine block_normal.trans ?_
    refine (seqC_normal (st' := (S59_12 n_ in_ y865 s895 y923))).trans ?_
    refine (halo_Most_r16 n_ in_ y865 s895 y923 _).trans ?_
    kernel_rfl
  · refine ((exit_eq (j := 1))).trans ?_
    refine seqC_exit.trans ?_
    kernel_rfl
theorem halo_Most_l8 : R59 C59.r.r.r.r.l.r.b (S59_3 n_ in_ y865) q = Option.bind (iterN (halo_Most_l8_p n_ in_ y865) LL ((0 : Int), (0 : Int), (0 : Int), (0 : Int))) (fun y924 : (Int × Int × Int × Int) => q (.exit 1) (S59_13 n_ in_ y865 y924)) :=
  Eq.trans (by kernel_rfl) (loop_iter1 (S := fun s895 : (Int × Int × Int × Int) => (S59_4 n_ in_ y865 s895)) (Y1 := fun y924 : (Int × Int × Int × Int) => ((.exit 1), (S59_13 n_ in_ y865 y924))) (fun s q => halo_Most_l8_b n_ in_ y865 s q) (fun z => rfl) LL ((0 : Int), (0 : Int), (0 : Int), (0 : Int)))
abbrev S59_14 : St := ⟨[(6, rF 0), (10, rF 2)], [[di 0, di 0, di 0], [], (tsI3.leaves y924.2)], [], 74⟩
theorem halo_Most_fzx4 : P59 1 C59.r.r.r.r.r (S59_14 y924) k = k ⟨[(6, rF 0), (7, ri 0)], [(tsI3.leaves y924.2), [], []], [], 74⟩ := by kernel_rfl
/-- quilt/halo.Most -/
def halo_Most : Option (I3 × Int) := (Option.bind (graph_Value n_ in_) (fun y802 : (I4 × Int) => (bif (y802.2 != 0) then (some (((0 : Int), (0 : Int), (0 : Int)), y802.2)) else (bif (halo_Most_r4_p rows y802) then (some (((0 : Int), (0 : Int), (0 : Int)), (1 : Int))) else (Option.bind (halo_Tiles y802.1.1 rows) (fun y865 : (List I2) => (Option.bind (iterN (halo_Most_l8_p n_ in_ y865) LL ((0 : Int), (0 : Int), (0 : Int), (0 : Int))) (fun y924 : (Int × Int × Int × Int) => (some (y924.2, (0 : Int)))))))))))
theorem halo_Most_is : stepS E cp59 noE 12 [rA tsNode n_, rl tsI4 in_, ri rows] = Option.bind (halo_Most n_ in_ rows) (fun y : (I3 × Int) => some (.tup [rA tsI3 y.1, ri y.2] : R)) := by
  refine .trans ?_ (bind_b fun y802 => (bif_b some_b (bif_b some_b (bind_b fun y865 => (bind_b fun y924 => some_b)))))
  refine (stepG_is (nt := 74) (regs := [(0, rA tsNode n_), (1, rl tsI4 in_), (2, ri rows)])).trans ?_
  refine (pre2 (halo_Most_r1 n_ in_ rows _)).trans (bind_g fun y802 => ?_)
  refine .trans seq_push ?_
  refine (block_push (id := 0)).trans ?_
  refine (pre1 (halo_Most_f1000003 n_ in_ rows y802 _)).trans ?_
  refine (cond_e (b := (y802.2 != 0)) (st' := (S59_0 n_ in_ rows y802)) ).trans (bif_g ?_ ?_)
  · refine (pre1 (halo_Most_fz n_ in_ rows y802 _)).trans ?_
    refine (ret_eq).trans ?_
    refine block_ret.trans ?_
    refine seqC_ret.trans ?_
    kernel_rfl
  · refine (pre1 (halo_Most_r4 n_ in_ rows y802 _)).trans ?_
    refine (cond_e (b := (halo_Most_r4_p rows y802)) (st' := (S59_1 n_ in_ rows y802)) ).trans (bif_g ?_ ?_)
    · refine (pre1 (halo_Most_fzx1 n_ in_ rows y802 _)).trans ?_
      refine (ret_eq).trans ?_
      refine block_ret.trans ?_
      refine seqC_ret.trans ?_
      kernel_rfl
    · refine (skip_eq).trans ?_
      refine block_normal.trans ?_
      refine (seqC_normal (st' := (S59_1 n_ in_ rows y802))).trans ?_
      refine (pre1 (halo_Most_f7 n_ in_ rows y802 _)).trans ?_
      refine .trans seq_push ?_
      refine (pre1 (halo_Most_r7 n_ in_ rows y802 _)).trans (bind_g fun y865 => ?_)
      refine (block_push (id := 1)).trans ?_
      refine (halo_Most_l8 n_ in_ y865 _).trans (bind_g fun y924 => ?_)
      refine block_same.trans ?_
      refine (seqC_normal (st' := (S59_14 y924))).trans ?_
      refine (pre1 (halo_Most_fzx4 y924 _)).trans ?_
      refine (ret_eq).trans ?_
      kernel_rfl
noncomputable def cp60 : CallP := withC cp59 12 [(.agg tsNode), (pL tsI4), pI] (.tup [(.agg tsI3), pI]) (fun y : (I3 × Int) => (y.1, y.2, ())) (fun x => halo_Most x.1 x.2.1 x.2.2.1)
theorem cp60_ok : PureOK E cp60 := conS eok cp59_ok noE_ok fun x => Eq.mp (by kernel_rfl) (halo_Most_is x.1 x.2.1 x.2.2.1)
end
section
variable {α β : Type} (h_ : Int) (rows : Int) (s940 : ((List I2) × Int)) (y943 : ((List I2) × Int)) (k : St → Option α) (q : Kont α)
noncomputable abbrev C60 := codeOf E.P 23
noncomputable abbrev P60 := @preK α E 23 cp60 noE
noncomputable abbrev R60 := @runCode α E 23 cp60 noE
abbrev S60_0 : St := ⟨[(0, ri h_), (1, ri rows), (5, .one (.ow tsI2 [] (.v 5)))], [], [], 40⟩
theorem ref15_Tiles_f2 : P60 2 C60 ⟨[(0, ri h_), (1, ri rows)], [], [], 40⟩ k = k (S60_0 h_ rows) := by kernel_rfl
def ref15_Tiles_r2_q (K : Bool → β) : β := (bif (decide (h_ < 1)) then (K true) else (bif (decide (h_ > 16)) then (K true) else (bif (decide (rows < 1)) then (K true) else (K (decide (rows > 16))))))
def ref15_Tiles_r2_p : Bool := ref15_Tiles_r2_q h_ rows (fun y => y)
theorem ref15_Tiles_r2_n (K : Bool → β) : ref15_Tiles_r2_q h_ rows K = K (ref15_Tiles_r2_p h_ rows) := (bif_k K rfl (bif_k K rfl (bif_k K rfl rfl)))
theorem ref15_Tiles_r2 : P60 1 C60.r.r.l (S60_0 h_ rows) k = k ⟨[(0, ri h_), (1, ri rows), (5, .one (.ow tsI2 [] (.v 5))), (21, rb (ref15_Tiles_r2_p h_ rows))], [], [], 40⟩ := Eq.trans (by kernel_rfl) (ref15_Tiles_r2_n h_ rows (fun y933 : Bool => k ⟨[(0, ri h_), (1, ri rows), (5, .one (.ow tsI2 [] (.v 5))), (21, rb y933)], [], [], 40⟩))
theorem ref15_Tiles_fz : P60 1 C60.r.r.l.r.t (S60_0 h_ rows) k = k ⟨[(4, .one (.ow tsI2 [] (.v 5)))], [], [], 40⟩ := by kernel_rfl
abbrev S60_1 : St := ⟨[(0, ri h_), (1, ri rows), (5, .one (.ow tsI2 [] (.v 5))), (6, ri 0)], [], [], 40⟩
theorem ref15_Tiles_f5 : P60 1 C60.r.r.r.l (S60_0 h_ rows) k = k (S60_1 h_ rows) := by kernel_rfl
abbrev S60_2 : St := ⟨[(0, ri h_), (1, ri rows), (5, rO tsI2 s940.1 5), (6, ri s940.2)], [], [], 40⟩
theorem ref15_Tiles_fzx1 : P60 1 C60.r.r.r.l.r.b.b.l (S60_2 h_ rows s940) k = k ⟨[(0, ri h_), (1, ri rows), (5, rO tsI2 s940.1 5), (6, ri s940.2), (25, rb (decide (s940.2 < h_)))], [], [], 40⟩ := by kernel_rfl
def ref15_Tiles_r7_p : Option Unit := (bif (decide (s940.1.length + ([(s940.2, (min rows (IntKind.wrap .i64 (h_ - s940.2))))] : List I2).length ≤ maxL)) then (some ()) else none)
abbrev S60_3 : St := ⟨[(0, ri h_), (1, ri rows), (5, .one (.ow tsI2 (s940.1 ++ [(s940.2, (min rows (IntKind.wrap .i64 (h_ - s940.2))))]) (.v 5))), (6, ri s940.2)], [], [], 40⟩
theorem ref15_Tiles_r7 : R60 C60.r.r.r.l.r.b.b.r.l.b (S60_2 h_ rows s940) q = Option.bind (ref15_Tiles_r7_p h_ rows s940) (fun y942 : Unit => q .normal (S60_3 h_ rows s940)) := .trans (by kernel_rfl) (bif_b some_b none_b)
theorem ref15_Tiles_r6 : R60 C60.r.r.r.l.r.b.b.r.r (S60_3 h_ rows s940) q = q .normal ⟨[(0, ri h_), (1, ri rows), (5, .one (.ow tsI2 (s940.1 ++ [(s940.2, (min rows (IntKind.wrap .i64 (h_ - s940.2))))]) (.v 5))), (6, ri (IntKind.wrap .i64 (s940.2 + rows)))], [], [], 40⟩ := by kernel_rfl
def ref15_Tiles_l5_p : Option (((List I2) × Int) ⊕ ((List I2) × Int)) := (bif (decide (s940.2 < h_)) then (Option.bind (ref15_Tiles_r7_p h_ rows s940) (fun y942 : Unit => (some (Sum.inl ((s940.1 ++ [(s940.2, (min rows (IntKind.wrap .i64 (h_ - s940.2))))]), (IntKind.wrap .i64 (s940.2 + rows))))))) else (some (Sum.inr s940)))
abbrev S60_4 : St := ⟨[(0, ri h_), (1, ri rows), (5, rO tsI2 y943.1 5), (6, ri y943.2)], [], [], 40⟩
theorem ref15_Tiles_l5_b : R60 C60.r.r.r.l.r.b.b (S60_2 h_ rows s940) (loopKont 0 q) = Option.bind (ref15_Tiles_l5_p h_ rows s940) (either (fun y : ((List I2) × Int) => q .normal ⟨[(0, ri h_), (1, ri rows), (5, rO tsI2 y.1 5), (6, ri y.2)], [], [], 40⟩) (fun y943 : ((List I2) × Int) => q (.exit 0) (S60_4 h_ rows y943))) := by
  refine .trans ?_ (bif_b (bind_b fun y942 => e2_0) e2_1)
  refine .trans seq_push ?_
  refine (pre1 (ref15_Tiles_fzx1 h_ rows s940 _)).trans ?_
  refine (cond_e (b := (decide (s940.2 < h_))) (st' := (S60_2 h_ rows s940)) ).trans (bif_g ?_ ?_)
  · refine (skip_eq).trans ?_
    refine (seqC_normal (st' := (S60_2 h_ rows s940))).trans ?_
    refine .trans seq_push ?_
    refine (block_push (id := 1)).trans ?_
    refine (ref15_Tiles_r7 h_ rows s940 _).trans (bind_g fun y942 => ?_)
    refine block_normal.trans ?_
    refine (seqC_normal (st' := (S60_3 h_ rows s940))).trans ?_
    refine (ref15_Tiles_r6 h_ rows s940 _).trans ?_
    kernel_rfl
  · refine ((exit_eq (j := 0))).trans ?_
    refine seqC_exit.trans ?_
    kernel_rfl
theorem ref15_Tiles_l5 : R60 C60.r.r.r.l.r.b (S60_1 h_ rows) q = Option.bind (iterN (ref15_Tiles_l5_p h_ rows) LL ([], (0 : Int))) (fun y943 : ((List I2) × Int) => q (.exit 0) (S60_4 h_ rows y943)) :=
  Eq.trans (by kernel_rfl) (loop_iter1 (S := fun s940 : ((List I2) × Int) => (S60_2 h_ rows s940)) (Y1 := fun y943 : ((List I2) × Int) => ((.exit 0), (S60_4 h_ rows y943))) (fun s q => ref15_Tiles_l5_b h_ rows s q) (fun z => rfl) LL ([], (0 : Int)))
theorem ref15_Tiles_fzx2 : P60 1 C60.r.r.r.r ⟨[(5, rO tsI2 y943.1 5)], [], [], 40⟩ k = k ⟨[(4, rO tsI2 y943.1 5)], [], [], 40⟩ := by kernel_rfl
/-- quilt/quiltref15.Tiles -/
def ref15_Tiles : Option (List I2) := (bif (ref15_Tiles_r2_p h_ rows) then (some []) else (Option.bind (iterN (ref15_Tiles_l5_p h_ rows) LL ([], (0 : Int))) (fun y943 : ((List I2) × Int) => (some y943.1))))
theorem ref15_Tiles_is : stepO E cp60 noE 23 [ri h_, ri rows] = Option.bind (ref15_Tiles h_ rows) (fun y : (List I2) => some (.one (.ow tsI2 y (.s 0)) : R)) := by
  refine .trans ?_ (bif_b some_b (bind_b fun y943 => some_b))
  refine (stepG_is (nt := 40) (regs := [(0, ri h_), (1, ri rows)])).trans ?_
  refine (pre2 (ref15_Tiles_f2 h_ rows _)).trans ?_
  refine .trans seq_push ?_
  refine (pre1 (ref15_Tiles_r2 h_ rows _)).trans ?_
  refine (cond_e (b := (ref15_Tiles_r2_p h_ rows)) (st' := (S60_0 h_ rows)) ).trans (bif_g ?_ ?_)
  · refine (pre1 (ref15_Tiles_fz h_ rows _)).trans ?_
    refine (ret_eq).trans ?_
    refine seqC_ret.trans ?_
    kernel_rfl
  · refine (skip_eq).trans ?_
    refine (seqC_normal (st' := (S60_0 h_ rows))).trans ?_
    refine .trans seq_push ?_
    refine (pre1 (ref15_Tiles_f5 h_ rows _)).trans ?_
    refine (block_push (id := 0)).trans ?_
    refine (ref15_Tiles_l5 h_ rows _).trans (bind_g fun y943 => ?_)
    refine block_same.trans ?_
    refine (seqC_normal (st' := ⟨[(5, rO tsI2 y943.1 5)], [], [], 40⟩)).trans ?_
    refine (pre1 (ref15_Tiles_fzx2 y943 _)).trans ?_
    refine (ret_eq).trans ?_
    kernel_rfl
noncomputable def cp61 : CallP := withC cp60 23 [pI, pI] (.one (.one (.ow tsI2))) (fun y : (List I2) => y) (fun x => ref15_Tiles x.1 x.2.1)
theorem cp61_ok : PureOK E cp61 := conO eok cp60_ok noE_ok fun x => Eq.mp (by kernel_rfl) (ref15_Tiles_is x.1 x.2.1)
end
end Go.V.P
