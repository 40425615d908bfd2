/- What functions compute. -/
import Derived.Test.YtokpndlkheofjaaKe7
namespace Go.V.P
open Go.RowKit Go.V Go.Proofs
set_option linter.unusedVariables false
set_option maxRecDepth 100000
section
variable {α β : Type} (n_ : Node) (l_ : (List I4)) (k : St → Option α) (q : Kont α)
noncomputable abbrev C79 := codeOf E.P 28
noncomputable abbrev P79 := @preK α E 28 cp75 ce4
noncomputable abbrev R79 := @runCode α E 28 cp75 ce4
noncomputable abbrev Q79 := @seqC α E 28 cp75 ce4
def ref03_made_r1_p : Option Unit := (bif (decide ((0 : Int) < (l_.length : Int))) then (some ()) else none)
abbrev S79_0 : St := ⟨[(1, rl tsI4 l_), (2, rC tsNode n_), (4, rF 0), (5, rF 1)], [[di 0, di 0, di 0], [di ((gt l_ (0 : Int) dI4).1), di ((gt l_ (0 : Int) dI4).2.1), di ((gt l_ (0 : Int) dI4).2.2.1)]], [], 117⟩
theorem ref03_made_r1 : P79 2 C79 ⟨[(0, rA tsNode n_), (1, rl tsI4 l_)], [], [], 117⟩ k = Option.bind (ref03_made_r1_p l_) (fun y1386 : Unit => k (S79_0 n_ l_)) := .trans (by kernel_rfl) (bif_b some_b none_b)
abbrev S79_1 : St := ⟨[(1, rl tsI4 l_), (2, rC tsNode n_), (4, rF 0), (5, rF 1), (12, ri n_.1)], [[di 0, di 0, di 0], [di ((gt l_ (0 : Int) dI4).1), di ((gt l_ (0 : Int) dI4).2.1), di ((gt l_ (0 : Int) dI4).2.2.1)]], [], 117⟩
theorem ref03_made_f3 : P79 1 C79.r.r.l (S79_0 n_ l_) k = k (S79_1 n_ l_) := by kernel_rfl
abbrev S79_2 : St := ⟨[(1, rl tsI4 l_), (2, rC tsNode n_), (4, rF 0), (5, rF 1), (12, ri n_.1), (13, rb (n_.1 == 1))], [[di 0, di 0, di 0], [di ((gt l_ (0 : Int) dI4).1), di ((gt l_ (0 : Int) dI4).2.1), di ((gt l_ (0 : Int) dI4).2.2.1)]], [], 117⟩
theorem ref03_made_f2000004 : P79 1 C79.r.r.l.r.b.l (S79_1 n_ l_) k = k (S79_2 n_ l_) := by kernel_rfl
abbrev S79_3 : St := ⟨[(1, rl tsI4 l_), (2, rC tsNode n_), (4, rF 0), (5, rF 1), (12, ri n_.1), (13, rb (n_.1 == 2))], [[di 0, di 0, di 0], [di ((gt l_ (0 : Int) dI4).1), di ((gt l_ (0 : Int) dI4).2.1), di ((gt l_ (0 : Int) dI4).2.2.1)]], [], 117⟩
theorem ref03_made_f2000005 : P79 1 C79.r.r.l.r.b.l.r.e (S79_2 n_ l_) k = k (S79_3 n_ l_) := by kernel_rfl
abbrev S79_4 : St := ⟨[(1, rl tsI4 l_), (2, rC tsNode n_), (4, rF 0), (5, rF 1), (12, ri n_.1), (13, rb (n_.1 == 4))], [[di 0, di 0, di 0], [di ((gt l_ (0 : Int) dI4).1), di ((gt l_ (0 : Int) dI4).2.1), di ((gt l_ (0 : Int) dI4).2.2.1)]], [], 117⟩
theorem ref03_made_f2000006 : P79 1 C79.r.r.l.r.b.l.r.e.r.e (S79_3 n_ l_) k = k (S79_4 n_ l_) := by kernel_rfl
abbrev S79_5 : St := ⟨[(1, rl tsI4 l_), (2, rC tsNode n_), (4, rF 0), (5, rF 1), (12, ri n_.1), (13, rb (n_.1 == 5))], [[di 0, di 0, di 0], [di ((gt l_ (0 : Int) dI4).1), di ((gt l_ (0 : Int) dI4).2.1), di ((gt l_ (0 : Int) dI4).2.2.1)]], [], 117⟩
theorem ref03_made_r6 : R79 C79.r.r.l.r.b.l.r.e.r.e.r.e (S79_4 n_ l_) q = q .normal (S79_5 n_ l_) := by kernel_rfl
def ref03_made_j3_q (K : Bool → β) : β := (bif (n_.1 == 1) then (K (n_.1 == 1)) else (bif (n_.1 == 2) then (K (n_.1 == 2)) else (bif (n_.1 == 4) then (K (n_.1 == 4)) else (K (n_.1 == 5)))))
def ref03_made_j3_p : Bool := ref03_made_j3_q n_ (fun y => y)
theorem ref03_made_j3_n (K : Bool → β) : ref03_made_j3_q n_ K = K (ref03_made_j3_p n_) := (bif_k K rfl (bif_k K rfl (bif_k K rfl rfl)))
abbrev S79_6 : St := ⟨[(1, rl tsI4 l_), (2, rC tsNode n_), (4, rF 0), (5, rF 1), (12, ri n_.1), (13, rb (ref03_made_j3_p n_))], [[di 0, di 0, di 0], [di ((gt l_ (0 : Int) dI4).1), di ((gt l_ (0 : Int) dI4).2.1), di ((gt l_ (0 : Int) dI4).2.2.1)]], [], 117⟩
theorem ref03_made_j3 : R79 C79.r.r.l.r.b.l (S79_1 n_ l_) (Q79 C79.r.r.l.r.b.r q) = R79 C79.r.r.l.r.b.r (S79_6 n_ l_) q := by
  refine Eq.trans ?_ (ref03_made_j3_n n_ (fun y1387 : Bool => R79 C79.r.r.l.r.b.r ⟨[(1, rl tsI4 l_), (2, rC tsNode n_), (4, rF 0), (5, rF 1), (12, ri n_.1), (13, rb y1387)], [[di 0, di 0, di 0], [di ((gt l_ (0 : Int) dI4).1), di ((gt l_ (0 : Int) dI4).2.1), di ((gt l_ (0 : Int) dI4).2.2.1)]], [], 117⟩ q))
  unfold ref03_made_j3_q
  refine (pre1 (ref03_made_f2000004 n_ l_ _)).trans ?_
  refine (cond_s (b := (n_.1 == 1)) ).trans (bif_g ?_ ?_)
  · refine (skip_eq).trans ?_
    refine (seqC_normal (st' := (S79_2 n_ l_))).trans ?_
    kernel_rfl
  · refine (pre1 (ref03_made_f2000005 n_ l_ _)).trans ?_
    refine (cond_s (b := (n_.1 == 2)) ).trans (bif_g ?_ ?_)
    · refine (skip_eq).trans ?_
      refine (seqC_normal (st' := (S79_3 n_ l_))).trans ?_
      kernel_rfl
    · refine (pre1 (ref03_made_f2000006 n_ l_ _)).trans ?_
      refine (cond_s (b := (n_.1 == 4)) ).trans (bif_g ?_ ?_)
      · refine (skip_eq).trans ?_
        refine (seqC_normal (st' := (S79_4 n_ l_))).trans ?_
        kernel_rfl
      · refine (ref03_made_r6 n_ l_ _).trans ?_
        refine (seqC_normal (st' := (S79_5 n_ l_))).trans ?_
        kernel_rfl
abbrev S79_7 : St := ⟨[(2, rC tsNode n_), (4, rF 0), (5, rF 1), (6, ri ((gt l_ (0 : Int) dI4).2.2.1))], [[di 0, di 0, di 0], [di ((gt l_ (0 : Int) dI4).1), di ((gt l_ (0 : Int) dI4).2.1), di ((gt l_ (0 : Int) dI4).2.2.1)]], [], 117⟩
theorem ref03_made_f8 : P79 1 C79.r.r.l.r.b.r.t (S79_6 n_ l_) k = k (S79_7 n_ l_) := by kernel_rfl
theorem ref03_made_f1000009 : P79 1 C79.r.r.l.r.b.r.t.r.l (S79_7 n_ l_) k = k ⟨[(2, rC tsNode n_), (4, rF 0), (5, rF 1), (6, ri ((gt l_ (0 : Int) dI4).2.2.1)), (22, rb (n_.1 == 1))], [[di 0, di 0, di 0], [di ((gt l_ (0 : Int) dI4).1), di ((gt l_ (0 : Int) dI4).2.1), di ((gt l_ (0 : Int) dI4).2.2.1)]], [], 117⟩ := by kernel_rfl
abbrev S79_8 : St := ⟨[(2, rC tsNode n_), (4, rF 0), (5, rF 1), (6, ri n_.2.2.2.2.2.1)], [[di 0, di 0, di 0], [di ((gt l_ (0 : Int) dI4).1), di ((gt l_ (0 : Int) dI4).2.1), di ((gt l_ (0 : Int) dI4).2.2.1)]], [], 117⟩
theorem ref03_made_r9 : R79 C79.r.r.l.r.b.r.t.r.l.r.t (S79_7 n_ l_) q = q .normal (S79_8 n_ l_) := by kernel_rfl
def ref03_made_j8_q (K : Int → β) : β := (bif (n_.1 == 1) then (K n_.2.2.2.2.2.1) else (K ((gt l_ (0 : Int) dI4).2.2.1)))
def ref03_made_j8_p : Int := ref03_made_j8_q n_ l_ (fun y => y)
theorem ref03_made_j8_n (K : Int → β) : ref03_made_j8_q n_ l_ K = K (ref03_made_j8_p n_ l_) := (bif_k K rfl rfl)
abbrev S79_9 : St := ⟨[(2, rC tsNode n_), (4, rF 0), (5, rF 1), (6, ri (ref03_made_j8_p n_ l_))], [[di 0, di 0, di 0], [di ((gt l_ (0 : Int) dI4).1), di ((gt l_ (0 : Int) dI4).2.1), di ((gt l_ (0 : Int) dI4).2.2.1)]], [], 117⟩
theorem ref03_made_j8 : R79 C79.r.r.l.r.b.r.t.r.l (S79_7 n_ l_) (Q79 C79.r.r.l.r.b.r.t.r.r q) = R79 C79.r.r.l.r.b.r.t.r.r (S79_9 n_ l_) q := by
  refine Eq.trans ?_ (ref03_made_j8_n n_ l_ (fun y1388 : Int => R79 C79.r.r.l.r.b.r.t.r.r ⟨[(2, rC tsNode n_), (4, rF 0), (5, rF 1), (6, ri y1388)], [[di 0, di 0, di 0], [di ((gt l_ (0 : Int) dI4).1), di ((gt l_ (0 : Int) dI4).2.1), di ((gt l_ (0 : Int) dI4).2.2.1)]], [], 117⟩ q))
  unfold ref03_made_j8_q
  refine (pre1 (ref03_made_f1000009 n_ l_ _)).trans ?_
  refine (cond_e (b := (n_.1 == 1)) (st' := (S79_7 n_ l_)) ).trans (bif_g ?_ ?_)
  · refine (ref03_made_r9 n_ l_ _).trans ?_
    refine (seqC_normal (st' := (S79_8 n_ l_))).trans ?_
    kernel_rfl
  · refine (skip_eq).trans ?_
    refine (seqC_normal (st' := (S79_7 n_ l_))).trans ?_
    kernel_rfl
def ref03_made_r10_p : Option (Int × Int) := (Option.bind (ref02_Out ((gt l_ (0 : Int) dI4).1) n_.2.2.1 n_.2.2.2.1 n_.2.2.2.2.1) (fun y1401 : Int => (Option.bind (ref02_Out ((gt l_ (0 : Int) dI4).2.1) n_.2.2.1 n_.2.2.2.1 n_.2.2.2.2.1) (fun y1402 : Int => (some (y1401, y1402))))))
theorem ref03_made_r10 : P79 1 C79.r.r.l.r.b.r.t.r.r (S79_9 n_ l_) k = Option.bind (ref03_made_r10_p n_ l_) (fun y1403 : (Int × Int) => k ⟨[(4, rF 0)], [[di y1403.1, di y1403.2, di (ref03_made_j8_p n_ l_)], []], [], 117⟩) := .trans (by kernel_rfl) (bind_b fun y1401 => (bind_b fun y1402 => some_b))
theorem ref03_made_f1000012 : P79 1 C79.r.r.l.r.b.r.e (S79_6 n_ l_) k = k ⟨[(1, rl tsI4 l_), (2, rC tsNode n_), (4, rF 0), (5, rF 1), (12, ri n_.1), (45, rb (n_.1 == 3))], [[di 0, di 0, di 0], [di ((gt l_ (0 : Int) dI4).1), di ((gt l_ (0 : Int) dI4).2.1), di ((gt l_ (0 : Int) dI4).2.2.1)]], [], 117⟩ := by kernel_rfl
theorem ref03_made_fz : P79 1 C79.r.r.l.r.b.r.e.r.t (S79_1 n_ l_) k = k ⟨[(4, rF 0)], [[di 1, di 1, di n_.2.2.2.2.2.1], []], [], 117⟩ := by kernel_rfl
abbrev S79_10 : St := ⟨[(1, rl tsI4 l_), (2, rC tsNode n_), (4, rF 0), (5, rF 1), (12, ri n_.1), (50, rb (n_.1 == 6))], [[di 0, di 0, di 0], [di ((gt l_ (0 : Int) dI4).1), di ((gt l_ (0 : Int) dI4).2.1), di ((gt l_ (0 : Int) dI4).2.2.1)]], [], 117⟩
theorem ref03_made_f2000014 : P79 1 C79.r.r.l.r.b.r.e.r.e.l (S79_1 n_ l_) k = k (S79_10 n_ l_) := by kernel_rfl
abbrev S79_11 : St := ⟨[(1, rl tsI4 l_), (2, rC tsNode n_), (4, rF 0), (5, rF 1), (12, ri n_.1), (50, rb (n_.1 == 7))], [[di 0, di 0, di 0], [di ((gt l_ (0 : Int) dI4).1), di ((gt l_ (0 : Int) dI4).2.1), di ((gt l_ (0 : Int) dI4).2.2.1)]], [], 117⟩
theorem ref03_made_r14 : R79 C79.r.r.l.r.b.r.e.r.e.l.r.e (S79_10 n_ l_) q = q .normal (S79_11 n_ l_) := by kernel_rfl
def ref03_made_j13_q (K : Bool → β) : β := (bif (n_.1 == 6) then (K (n_.1 == 6)) else (K (n_.1 == 7)))
def ref03_made_j13_p : Bool := ref03_made_j13_q n_ (fun y => y)
theorem ref03_made_j13_n (K : Bool → β) : ref03_made_j13_q n_ K = K (ref03_made_j13_p n_) := (bif_k K rfl rfl)
abbrev S79_12 : St := ⟨[(1, rl tsI4 l_), (2, rC tsNode n_), (4, rF 0), (5, rF 1), (12, ri n_.1), (50, rb (ref03_made_j13_p n_))], [[di 0, di 0, di 0], [di ((gt l_ (0 : Int) dI4).1), di ((gt l_ (0 : Int) dI4).2.1), di ((gt l_ (0 : Int) dI4).2.2.1)]], [], 117⟩
theorem ref03_made_j13 : R79 C79.r.r.l.r.b.r.e.r.e.l (S79_1 n_ l_) (Q79 C79.r.r.l.r.b.r.e.r.e.r q) = R79 C79.r.r.l.r.b.r.e.r.e.r (S79_12 n_ l_) q := by
  refine Eq.trans ?_ (ref03_made_j13_n n_ (fun y1404 : Bool => R79 C79.r.r.l.r.b.r.e.r.e.r ⟨[(1, rl tsI4 l_), (2, rC tsNode n_), (4, rF 0), (5, rF 1), (12, ri n_.1), (50, rb y1404)], [[di 0, di 0, di 0], [di ((gt l_ (0 : Int) dI4).1), di ((gt l_ (0 : Int) dI4).2.1), di ((gt l_ (0 : Int) dI4).2.2.1)]], [], 117⟩ q))
  unfold ref03_made_j13_q
  refine (pre1 (ref03_made_f2000014 n_ l_ _)).trans ?_
  refine (cond_s (b := (n_.1 == 6)) ).trans (bif_g ?_ ?_)
  · refine (skip_eq).trans ?_
    refine (seqC_normal (st' := (S79_10 n_ l_))).trans ?_
    kernel_rfl
  · refine (ref03_made_r14 n_ l_ _).trans ?_
    refine (seqC_normal (st' := (S79_11 n_ l_))).trans ?_
    kernel_rfl
def ref03_made_r15_p : Option Bool := (bif (decide ((1 : Int) < (l_.length : Int))) then (some (!((((gt l_ (1 : Int) dI4).1) == ((gt l_ (0 : Int) dI4).1)) && ((((gt l_ (1 : Int) dI4).2.1) == ((gt l_ (0 : Int) dI4).2.1)) && ((((gt l_ (1 : Int) dI4).2.2.1) == ((gt l_ (0 : Int) dI4).2.2.1)) && true))))) else none)
theorem ref03_made_r15 : P79 1 C79.r.r.l.r.b.r.e.r.e.r.t (S79_12 n_ l_) k = Option.bind (ref03_made_r15_p l_) (fun y1405 : Bool => k ⟨[(4, rF 0), (5, rF 1), (58, rb y1405)], [[di 0, di 0, di 0], [di ((gt l_ (0 : Int) dI4).1), di ((gt l_ (0 : Int) dI4).2.1), di ((gt l_ (0 : Int) dI4).2.2.1)]], [], 117⟩) := .trans (by kernel_rfl) (bif_b some_b none_b)
abbrev S79_13 : St := ⟨[(4, rF 0), (5, rF 1)], [[di 0, di 0, di 0], [di ((gt l_ (0 : Int) dI4).1), di ((gt l_ (0 : Int) dI4).2.1), di ((gt l_ (0 : Int) dI4).2.2.1)]], [], 117⟩
abbrev S79_14 : St := ⟨[(4, rF 0)], [[di 0, di 0, di 0], []], [], 117⟩
theorem ref03_made_fzx1 : P79 1 C79.r.r.l.r.b.r.e.r.e.r.t.r.t (S79_13 l_) k = k S79_14 := by kernel_rfl
theorem ref03_made_f1000018 : P79 1 C79.r.r.l.r.b.r.e.r.e.r.e (S79_12 n_ l_) k = k ⟨[(1, rl tsI4 l_), (2, rC tsNode n_), (4, rF 0), (5, rF 1), (12, ri n_.1), (60, rb (n_.1 == 9))], [[di 0, di 0, di 0], [di ((gt l_ (0 : Int) dI4).1), di ((gt l_ (0 : Int) dI4).2.1), di ((gt l_ (0 : Int) dI4).2.2.1)]], [], 117⟩ := by kernel_rfl
theorem ref03_made_fzx2 : P79 1 C79.r.r.l.r.b.r.e.r.e.r.e.r.t (S79_1 n_ l_) k = k ⟨[(4, rF 0)], [[di (IntKind.wrap .i64 (((gt l_ (0 : Int) dI4).1) + 2)), di (IntKind.wrap .i64 (((gt l_ (0 : Int) dI4).2.1) + 2)), di ((gt l_ (0 : Int) dI4).2.2.1)], []], [], 117⟩ := by kernel_rfl
theorem ref03_made_f1000020 : P79 1 C79.r.r.l.r.b.r.e.r.e.r.e.r.e (S79_1 n_ l_) k = k ⟨[(1, rl tsI4 l_), (2, rC tsNode n_), (4, rF 0), (5, rF 1), (12, ri n_.1), (71, rb (n_.1 == 10))], [[di 0, di 0, di 0], [di ((gt l_ (0 : Int) dI4).1), di ((gt l_ (0 : Int) dI4).2.1), di ((gt l_ (0 : Int) dI4).2.2.1)]], [], 117⟩ := by kernel_rfl
def ref03_made_r20_p : Option Bool := (bif (decide ((1 : Int) < (l_.length : Int))) then (bif (((gt l_ (1 : Int) dI4).1) != ((gt l_ (0 : Int) dI4).1)) then (some true) else (bif (decide ((1 : Int) < (l_.length : Int))) then (some (((gt l_ (1 : Int) dI4).2.1) != ((gt l_ (0 : Int) dI4).2.1))) else none)) else none)
theorem ref03_made_r20 : P79 1 C79.r.r.l.r.b.r.e.r.e.r.e.r.e.r.t.l (S79_1 n_ l_) k = Option.bind (ref03_made_r20_p l_) (fun y1407 : Bool => k ⟨[(1, rl tsI4 l_), (4, rF 0), (5, rF 1), (90, rb y1407)], [[di 0, di 0, di 0], [di ((gt l_ (0 : Int) dI4).1), di ((gt l_ (0 : Int) dI4).2.1), di ((gt l_ (0 : Int) dI4).2.2.1)]], [], 117⟩) := .trans (by kernel_rfl) (bif_b (bif_b some_b (bif_b some_b none_b)) none_b)
abbrev S79_15 : St := ⟨[(1, rl tsI4 l_), (4, rF 0), (5, rF 1)], [[di 0, di 0, di 0], [di ((gt l_ (0 : Int) dI4).1), di ((gt l_ (0 : Int) dI4).2.1), di ((gt l_ (0 : Int) dI4).2.2.1)]], [], 117⟩
theorem ref03_made_fzx3 : P79 1 C79.r.r.l.r.b.r.e.r.e.r.e.r.e.r.t.l.r.t (S79_15 l_) k = k S79_14 := by kernel_rfl
def ref03_made_r22_p : Option Unit := (bif (decide ((1 : Int) < (l_.length : Int))) then (some ()) else none)
theorem ref03_made_r22 : P79 1 C79.r.r.l.r.b.r.e.r.e.r.e.r.e.r.t.r (S79_15 l_) k = Option.bind (ref03_made_r22_p l_) (fun y1408 : Unit => k ⟨[(4, rF 0)], [[di ((gt l_ (0 : Int) dI4).1), di ((gt l_ (0 : Int) dI4).2.1), di (IntKind.wrap .i64 (((gt l_ (0 : Int) dI4).2.2.1) + ((gt l_ (1 : Int) dI4).2.2.1)))], []], [], 117⟩) := .trans (by kernel_rfl) (bif_b some_b none_b)
theorem ref03_made_f1000024 : P79 1 C79.r.r.l.r.b.r.e.r.e.r.e.r.e.r.e (S79_1 n_ l_) k = k ⟨[(2, rC tsNode n_), (4, rF 0), (5, rF 1), (105, rb (n_.1 == 11))], [[di 0, di 0, di 0], [di ((gt l_ (0 : Int) dI4).1), di ((gt l_ (0 : Int) dI4).2.1), di ((gt l_ (0 : Int) dI4).2.2.1)]], [], 117⟩ := by kernel_rfl
def ref03_made_r24_q (K : Bool → β) : β := (K ((ref02_Size (n_.2.2.2.2.2.2.2.2.2.1, n_.2.2.2.2.2.2.2.2.2.2.1, n_.2.2.2.2.2.2.2.2.2.2.2.1)) != (ref02_Size ((gt l_ (0 : Int) dI4).1, (gt l_ (0 : Int) dI4).2.1, (gt l_ (0 : Int) dI4).2.2.1))))
def ref03_made_r24_p : Bool := ref03_made_r24_q n_ l_ (fun y => y)
theorem ref03_made_r24_n (K : Bool → β) : ref03_made_r24_q n_ l_ K = K (ref03_made_r24_p n_ l_) := rfl
abbrev S79_16 : St := ⟨[(2, rC tsNode n_), (4, rF 0), (5, rF 1)], [[di 0, di 0, di 0], [di ((gt l_ (0 : Int) dI4).1), di ((gt l_ (0 : Int) dI4).2.1), di ((gt l_ (0 : Int) dI4).2.2.1)]], [], 117⟩
theorem ref03_made_r24 : P79 1 C79.r.r.l.r.b.r.e.r.e.r.e.r.e.r.e.r.t.l (S79_16 n_ l_) k = k ⟨[(2, rC tsNode n_), (4, rF 0), (112, rb (ref03_made_r24_p n_ l_))], [[di 0, di 0, di 0], []], [], 117⟩ := Eq.trans (by kernel_rfl) (ref03_made_r24_n n_ l_ (fun y1410 : Bool => k ⟨[(2, rC tsNode n_), (4, rF 0), (112, rb y1410)], [[di 0, di 0, di 0], []], [], 117⟩))
abbrev S79_17 : St := ⟨[(2, rC tsNode n_), (4, rF 0)], [[di 0, di 0, di 0], []], [], 117⟩
theorem ref03_made_fzx4 : P79 1 C79.r.r.l.r.b.r.e.r.e.r.e.r.e.r.e.r.t.l.r.t (S79_17 n_) k = k S79_14 := by kernel_rfl
theorem ref03_made_fzx5 : P79 1 C79.r.r.l.r.b.r.e.r.e.r.e.r.e.r.e.r.t.r (S79_17 n_) k = k ⟨[(4, rF 0)], [[di n_.2.2.2.2.2.2.2.2.2.1, di n_.2.2.2.2.2.2.2.2.2.2.1, di n_.2.2.2.2.2.2.2.2.2.2.2.1], []], [], 117⟩ := by kernel_rfl
def ref03_made_j2_p : Option (Unit ⊕ (Int × Int × Int)) := (bif (ref03_made_j3_p n_) then (Option.bind (ref03_made_r10_p n_ l_) (fun y1403 : (Int × Int) => (some (Sum.inr (y1403.1, y1403.2, (ref03_made_j8_p n_ l_)))))) else (bif (n_.1 == 3) then (some (Sum.inr ((1 : Int), (1 : Int), n_.2.2.2.2.2.1))) else (bif (ref03_made_j13_p n_) then (Option.bind (ref03_made_r15_p l_) (fun y1405 : Bool => (bif y1405 then (some (Sum.inr ((0 : Int), (0 : Int), (0 : Int)))) else (some (Sum.inl ()))))) else (bif (n_.1 == 9) then (some (Sum.inr ((IntKind.wrap .i64 (((gt l_ (0 : Int) dI4).1) + 2)), (IntKind.wrap .i64 (((gt l_ (0 : Int) dI4).2.1) + 2)), (gt l_ (0 : Int) dI4).2.2.1))) else (bif (n_.1 == 10) then (Option.bind (ref03_made_r20_p l_) (fun y1407 : Bool => (bif y1407 then (some (Sum.inr ((0 : Int), (0 : Int), (0 : Int)))) else (Option.bind (ref03_made_r22_p l_) (fun y1408 : Unit => (some (Sum.inr ((gt l_ (0 : Int) dI4).1, (gt l_ (0 : Int) dI4).2.1, (IntKind.wrap .i64 (((gt l_ (0 : Int) dI4).2.2.1) + ((gt l_ (1 : Int) dI4).2.2.1))))))))))) else (bif (n_.1 == 11) then (bif (ref03_made_r24_p n_ l_) then (some (Sum.inr ((0 : Int), (0 : Int), (0 : Int)))) else (some (Sum.inr (n_.2.2.2.2.2.2.2.2.2.1, n_.2.2.2.2.2.2.2.2.2.2.1, n_.2.2.2.2.2.2.2.2.2.2.2.1)))) else (some (Sum.inl ()))))))))
theorem ref03_made_j2 : R79 C79.r.r.l (S79_0 n_ l_) (Q79 C79.r.r.r q) = Option.bind (ref03_made_j2_p n_ l_) (either (fun y1411 : Unit => R79 C79.r.r.r (S79_13 l_) q) (fun y1412 : (Int × Int × Int) => q .ret ⟨[(4, rF 0)], [(tsI3.leaves y1412), []], [], 117⟩)) := by
  refine .trans ?_ (bif_b (bind_b fun y1403 => e2_1) (bif_b e2_1 (bif_b (bind_b fun y1405 => (bif_b e2_1 e2_0)) (bif_b e2_1 (bif_b (bind_b fun y1407 => (bif_b e2_1 (bind_b fun y1408 => e2_1))) (bif_b (bif_b e2_1 e2_1) e2_0))))))
  refine (pre1 (ref03_made_f3 n_ l_ _)).trans ?_
  refine (block_push (id := 0)).trans ?_
  refine .trans seq_push ?_
  refine (ref03_made_j3 n_ l_ _).trans ?_
  refine (cond_s (b := (ref03_made_j3_p n_)) ).trans (bif_g ?_ ?_)
  · refine (pre1 (ref03_made_f8 n_ l_ _)).trans ?_
    refine .trans seq_push ?_
    refine (ref03_made_j8 n_ l_ _).trans ?_
    refine (pre1 (ref03_made_r10 n_ l_ _)).trans (bind_g fun y1403 => ?_)
    refine (ret_eq).trans ?_
    refine block_ret.trans ?_
    refine seqC_ret.trans ?_
    kernel_rfl
  · refine (pre1 (ref03_made_f1000012 n_ l_ _)).trans ?_
    refine (cond_e (b := (n_.1 == 3)) (st' := (S79_1 n_ l_)) ).trans (bif_g ?_ ?_)
    · refine (pre1 (ref03_made_fz n_ l_ _)).trans ?_
      refine (ret_eq).trans ?_
      refine block_ret.trans ?_
      refine seqC_ret.trans ?_
      kernel_rfl
    · refine .trans seq_push ?_
      refine (ref03_made_j13 n_ l_ _).trans ?_
      refine (cond_s (b := (ref03_made_j13_p n_)) ).trans (bif_g ?_ ?_)
      · refine (pre1 (ref03_made_r15 n_ l_ _)).trans (bind_g fun y1405 => ?_)
        refine (cond_e (b := y1405) (st' := (S79_13 l_)) ).trans (bif_g ?_ ?_)
        · refine (pre1 (ref03_made_fzx1 l_ _)).trans ?_
          refine (ret_eq).trans ?_
          refine block_ret.trans ?_
          refine seqC_ret.trans ?_
          kernel_rfl
        · refine (skip_eq).trans ?_
          refine block_normal.trans ?_
          refine (seqC_normal (st' := (S79_13 l_))).trans ?_
          kernel_rfl
      · refine (pre1 (ref03_made_f1000018 n_ l_ _)).trans ?_
        refine (cond_e (b := (n_.1 == 9)) (st' := (S79_1 n_ l_)) ).trans (bif_g ?_ ?_)
        · refine (pre1 (ref03_made_fzx2 n_ l_ _)).trans ?_
          refine (ret_eq).trans ?_
          refine block_ret.trans ?_
          refine seqC_ret.trans ?_
          kernel_rfl
        · refine (pre1 (ref03_made_f1000020 n_ l_ _)).trans ?_
          refine (cond_e (b := (n_.1 == 10)) (st' := (S79_1 n_ l_)) ).trans (bif_g ?_ ?_)
          · refine .trans seq_push ?_
            refine (pre1 (ref03_made_r20 n_ l_ _)).trans (bind_g fun y1407 => ?_)
            refine (cond_e (b := y1407) (st' := (S79_15 l_)) ).trans (bif_g ?_ ?_)
            · refine (pre1 (ref03_made_fzx3 l_ _)).trans ?_
              refine (ret_eq).trans ?_
              refine seqC_ret.trans ?_
              refine block_ret.trans ?_
              refine seqC_ret.trans ?_
              kernel_rfl
            · refine (skip_eq).trans ?_
              refine (seqC_normal (st' := (S79_15 l_))).trans ?_
              refine (pre1 (ref03_made_r22 l_ _)).trans (bind_g fun y1408 => ?_)
              refine (ret_eq).trans ?_
              refine block_ret.trans ?_
              refine seqC_ret.trans ?_
              kernel_rfl
          · refine (pre1 (ref03_made_f1000024 n_ l_ _)).trans ?_
            refine (cond_e (b := (n_.1 == 11)) (st' := (S79_16 n_ l_)) ).trans (bif_g ?_ ?_)
            · refine .trans seq_push ?_
              refine (pre1 (ref03_made_r24 n_ l_ _)).trans ?_
              refine (cond_e (b := (ref03_made_r24_p n_ l_)) (st' := (S79_17 n_)) ).trans (bif_g ?_ ?_)
              · refine (pre1 (ref03_made_fzx4 n_ _)).trans ?_
                refine (ret_eq).trans ?_
                refine seqC_ret.trans ?_
                refine block_ret.trans ?_
                refine seqC_ret.trans ?_
                kernel_rfl
              · refine (skip_eq).trans ?_
                refine (seqC_normal (st' := (S79_17 n_))).trans ?_
                refine (pre1 (ref03_made_fzx5 n_ _)).trans ?_
                refine (ret_eq).trans ?_
                refine block_ret.trans ?_
                refine seqC_ret.trans ?_
                kernel_rfl
            · refine (skip_eq).trans ?_
              refine block_normal.trans ?_
              refine (seqC_normal (st' := (S79_13 l_))).trans ?_
              kernel_rfl
theorem ref03_made_fzx6 : P79 1 C79.r.r.r (S79_13 l_) k = k ⟨[(4, rF 0)], [[di ((gt l_ (0 : Int) dI4).1), di ((gt l_ (0 : Int) dI4).2.1), di ((gt l_ (0 : Int) dI4).2.2.1)], []], [], 117⟩ := by kernel_rfl
/-- quilt/quiltref03.made -/
def ref03_made : Option I3 := (Option.bind (ref03_made_r1_p l_) (fun y1386 : Unit => (Option.bind (ref03_made_j2_p n_ l_) (either (fun y1411 : Unit => (some ((gt l_ (0 : Int) dI4).1, (gt l_ (0 : Int) dI4).2.1, (gt l_ (0 : Int) dI4).2.2.1))) (fun y1412 : (Int × Int × Int) => (some y1412))))))
theorem ref03_made_is : stepS E cp75 ce4 28 [rA tsNode n_, rl tsI4 l_] = Option.bind (ref03_made n_ l_) (fun y : I3 => some (rA tsI3 y : R)) := by
  refine .trans ?_ (bind_b fun y1386 => (bind_b (either_b (fun y1411 => some_b) (fun y1412 => some_b))))
  refine (stepG_is (nt := 117) (regs := [(0, rA tsNode n_), (1, rl tsI4 l_)])).trans ?_
  refine (pre2 (ref03_made_r1 n_ l_ _)).trans (bind_g fun y1386 => ?_)
  refine .trans seq_push ?_
  refine (ref03_made_j2 n_ l_ _).trans (bind_g (either_g (fun y1411 => ?_) (fun y1412 => ?_)))
  · refine (pre1 (ref03_made_fzx6 l_ _)).trans ?_
    refine (ret_eq).trans ?_
    kernel_rfl
  · kernel_rfl
noncomputable def cp76 : CallP := withC cp75 28 [(.agg tsNode), (pL tsI4)] (.one (.agg tsI3)) (fun y : I3 => y) (fun x => ref03_made x.1 x.2.1)
theorem cp76_ok : PureOK E cp76 := conS eok cp75_ok ce4_ok fun x => Eq.mp (by kernel_rfl) (ref03_made_is x.1 x.2.1)
end
section
variable {α β : Type} (n_ : Node) (s_ : I3) (k : St → Option α)
noncomputable abbrev C80 := codeOf E.P 29
noncomputable abbrev P80 := @preK α E 29 cp76 ce4
abbrev S80_0 : St := ⟨[(2, rC tsNode n_), (3, rC tsI3 s_)], [], [], 46⟩
theorem ref03_many_f1 : P80 1 C80 ⟨[(0, rA tsNode n_), (1, rA tsI3 s_)], [], [], 46⟩ k = k (S80_0 n_ s_) := by kernel_rfl
abbrev S80_1 : St := ⟨[(2, rC tsNode n_), (3, rC tsI3 s_), (7, ri n_.1)], [], [], 46⟩
theorem ref03_many_f2 : P80 1 C80.r.l (S80_0 n_ s_) k = k (S80_1 n_ s_) := by kernel_rfl
theorem ref03_many_f1000003 : P80 1 C80.r.l.r.b (S80_1 n_ s_) k = k ⟨[(2, rC tsNode n_), (3, rC tsI3 s_), (7, ri n_.1), (8, rb (n_.1 == 1))], [], [], 46⟩ := by kernel_rfl
def ref03_many_r3_q (K : Int → β) : β := (K (IntKind.wrap .i64 ((IntKind.wrap .i64 ((IntKind.wrap .i64 (n_.2.2.1 * n_.2.2.1)) * s_.2.2)) * n_.2.2.2.2.2.1)))
def ref03_many_r3_p : Int := ref03_many_r3_q n_ s_ (fun y => y)
theorem ref03_many_r3_n (K : Int → β) : ref03_many_r3_q n_ s_ K = K (ref03_many_r3_p n_ s_) := rfl
theorem ref03_many_r3 : P80 1 C80.r.l.r.b.r.t (S80_1 n_ s_) k = k ⟨[(4, ri (ref03_many_r3_p n_ s_)), (5, ri n_.2.2.2.2.2.1)], [], [], 46⟩ := Eq.trans (by kernel_rfl) (ref03_many_r3_n n_ s_ (fun y1415 : Int => k ⟨[(4, ri y1415), (5, ri n_.2.2.2.2.2.1)], [], [], 46⟩))
theorem ref03_many_f1000005 : P80 1 C80.r.l.r.b.r.e (S80_1 n_ s_) k = k ⟨[(2, rC tsNode n_), (3, rC tsI3 s_), (7, ri n_.1), (23, rb (n_.1 == 2))], [], [], 46⟩ := by kernel_rfl
theorem ref03_many_fz : P80 1 C80.r.l.r.b.r.e.r.t (S80_1 n_ s_) k = k ⟨[(4, ri (IntKind.wrap .i64 ((IntKind.wrap .i64 (n_.2.2.1 * n_.2.2.1)) * s_.2.2))), (5, ri s_.2.2)], [], [], 46⟩ := by kernel_rfl
theorem ref03_many_f1000007 : P80 1 C80.r.l.r.b.r.e.r.e (S80_1 n_ s_) k = k ⟨[(2, rC tsNode n_), (3, rC tsI3 s_), (7, ri n_.1), (35, rb (n_.1 == 3))], [], [], 46⟩ := by kernel_rfl
theorem ref03_many_fzx1 : P80 1 C80.r.l.r.b.r.e.r.e.r.t (S80_1 n_ s_) k = k ⟨[(4, ri (IntKind.wrap .i64 ((ref02_Size s_) * n_.2.2.2.2.2.1))), (5, ri n_.2.2.2.2.2.1)], [], [], 46⟩ := by kernel_rfl
theorem ref03_many_f1000009 : P80 1 C80.r.l.r.b.r.e.r.e.r.e (S80_1 n_ s_) k = k ⟨[(44, rb (n_.1 == 12))], [], [], 46⟩ := by kernel_rfl
theorem ref03_many_fzx2 : P80 1 C80.r.l.r.b.r.e.r.e.r.e.r.t ⟨[], [], [], 46⟩ k = k ⟨[(4, ri 256), (5, ri 0)], [], [], 46⟩ := by kernel_rfl
theorem ref03_many_fzx3 : P80 1 C80.r.r ⟨[], [], [], 46⟩ k = k ⟨[(4, ri 0), (5, ri 0)], [], [], 46⟩ := by kernel_rfl
/-- quilt/quiltref03.many -/
def ref03_many_q (K : (Int × Int) → β) : β := (bif (n_.1 == 1) then (K ((ref03_many_r3_p n_ s_), n_.2.2.2.2.2.1)) else (bif (n_.1 == 2) then (K ((IntKind.wrap .i64 ((IntKind.wrap .i64 (n_.2.2.1 * n_.2.2.1)) * s_.2.2)), s_.2.2)) else (bif (n_.1 == 3) then (K ((IntKind.wrap .i64 ((ref02_Size s_) * n_.2.2.2.2.2.1)), n_.2.2.2.2.2.1)) else (bif (n_.1 == 12) then (K ((256 : Int), (0 : Int))) else (K ((0 : Int), (0 : Int)))))))
def ref03_many : (Int × Int) := ref03_many_q n_ s_ (fun y => y)
theorem ref03_many_n (K : (Int × Int) → β) : ref03_many_q n_ s_ K = K (ref03_many n_ s_) := (bif_k K rfl (bif_k K rfl (bif_k K rfl (bif_k K rfl rfl))))
theorem ref03_many_is : stepS E cp76 ce4 29 [rA tsNode n_, rA tsI3 s_] = (fun y : (Int × Int) => some (.tup [ri y.1, ri y.2] : R)) (ref03_many n_ s_) := by
  refine Eq.trans ?_ (ref03_many_n n_ s_ (fun y : (Int × Int) => some (.tup [ri y.1, ri y.2] : R)))
  refine (stepG_is (nt := 46) (regs := [(0, rA tsNode n_), (1, rA tsI3 s_)])).trans ?_
  unfold ref03_many_q
  refine (pre1 (ref03_many_f1 n_ s_ _)).trans ?_
  refine .trans seq_push ?_
  refine (pre1 (ref03_many_f2 n_ s_ _)).trans ?_
  refine (block_push (id := 0)).trans ?_
  refine (pre1 (ref03_many_f1000003 n_ s_ _)).trans ?_
  refine (cond_e (b := (n_.1 == 1)) (st' := (S80_1 n_ s_)) ).trans (bif_g ?_ ?_)
  · refine (pre1 (ref03_many_r3 n_ s_ _)).trans ?_
    refine (ret_eq).trans ?_
    refine block_ret.trans ?_
    refine seqC_ret.trans ?_
    kernel_rfl
  · refine (pre1 (ref03_many_f1000005 n_ s_ _)).trans ?_
    refine (cond_e (b := (n_.1 == 2)) (st' := (S80_1 n_ s_)) ).trans (bif_g ?_ ?_)
    · refine (pre1 (ref03_many_fz n_ s_ _)).trans ?_
      refine (ret_eq).trans ?_
      refine block_ret.trans ?_
      refine seqC_ret.trans ?_
      kernel_rfl
    · refine (pre1 (ref03_many_f1000007 n_ s_ _)).trans ?_
      refine (cond_e (b := (n_.1 == 3)) (st' := (S80_1 n_ s_)) ).trans (bif_g ?_ ?_)
      · refine (pre1 (ref03_many_fzx1 n_ s_ _)).trans ?_
        refine (ret_eq).trans ?_
        refine block_ret.trans ?_
        refine seqC_ret.trans ?_
        kernel_rfl
      · refine (pre1 (ref03_many_f1000009 n_ s_ _)).trans ?_
        refine (cond_e (b := (n_.1 == 12)) (st' := ⟨[], [], [], 46⟩) ).trans (bif_g ?_ ?_)
        · refine (pre1 (ref03_many_fzx2 _)).trans ?_
          refine (ret_eq).trans ?_
          refine block_ret.trans ?_
          refine seqC_ret.trans ?_
          kernel_rfl
        · refine (skip_eq).trans ?_
          refine block_normal.trans ?_
          refine (seqC_normal (st' := ⟨[], [], [], 46⟩)).trans ?_
          refine (pre1 (ref03_many_fzx3 _)).trans ?_
          refine (ret_eq).trans ?_
          kernel_rfl
noncomputable def cp77 : CallP := withC cp76 29 [(.agg tsNode), (.agg tsI3)] (.tup [pI, pI]) (fun y : (Int × Int) => (y.1, y.2, ())) (fun x => some (ref03_many x.1 x.2.1))
theorem cp77_ok : PureOK E cp77 := conS eok cp76_ok ce4_ok fun x => Eq.mp (by kernel_rfl) (ref03_many_is x.1 x.2.1)
end
section
variable {α β : Type} (n_ : Node) (l_ : (List I4)) (s1363 : Int) (s1381 : Int) (y1413 : I3) (y1416 : (Int × Int)) (s1430 : Int) (k : St → Option α) (q : Kont α)
noncomputable abbrev C81 := codeOf E.P 17
noncomputable abbrev P81 := @preK α E 17 cp77 ce4
noncomputable abbrev R81 := @runCode α E 17 cp77 ce4
abbrev S81_0 : St := ⟨[(1, rl tsI4 l_), (2, rC tsNode n_), (4, rF 0)], [[di 0, di 0, di 0, di 0]], [], 101⟩
theorem ref03_Value_f1 : P81 1 C81 ⟨[(0, rA tsNode n_), (1, rl tsI4 l_)], [], [], 101⟩ k = k (S81_0 n_ l_) := by kernel_rfl
theorem ref03_Value_f1000002 : P81 1 C81.r.l (S81_0 n_ l_) k = k ⟨[(1, rl tsI4 l_), (2, rC tsNode n_), (4, rF 0), (16, rb (!(ref03_node n_ (l_.length : Int))))], [[di 0, di 0, di 0, di 0]], [], 101⟩ := by kernel_rfl
abbrev S81_1 : St := ⟨[(4, rF 0), (5, ri 11)], [[di 0, di 0, di 0, di 0]], [], 101⟩
theorem ref03_Value_fz : P81 1 C81.r.l.r.t (S81_0 n_ l_) k = k S81_1 := by kernel_rfl
abbrev S81_2 : St := ⟨[(1, rl tsI4 l_), (2, rC tsNode n_), (4, rF 0), (6, ri 0)], [[di 0, di 0, di 0, di 0]], [], 101⟩
theorem ref03_Value_f4 : P81 1 C81.r.r.l (S81_0 n_ l_) k = k (S81_2 n_ l_) := by kernel_rfl
abbrev S81_3 : St := ⟨[(1, rl tsI4 l_), (2, rC tsNode n_), (4, rF 0), (6, ri s1363)], [[di 0, di 0, di 0, di 0]], [], 101⟩
theorem ref03_Value_fzx1 : P81 1 C81.r.r.l.r.b.b.l (S81_3 n_ l_ s1363) k = k ⟨[(1, rl tsI4 l_), (2, rC tsNode n_), (4, rF 0), (6, ri s1363), (21, rb (decide (s1363 < (l_.length : Int))))], [[di 0, di 0, di 0, di 0]], [], 101⟩ := by kernel_rfl
def ref03_Value_r6_p : Option Bool := (bif (ref03_keeps n_.1) then (bif (decide ((0 : Int) ≤ s1363)) then (bif (decide (s1363 < (l_.length : Int))) then (some (((gt l_ s1363 dI4).2.2.2) != n_.2.2.2.2.2.2.2.2.1)) else none) else none) else (some false))
theorem ref03_Value_r6 : P81 1 C81.r.r.l.r.b.b.r.l.b (S81_3 n_ l_ s1363) k = Option.bind (ref03_Value_r6_p n_ l_ s1363) (fun y1365 : Bool => k ⟨[(1, rl tsI4 l_), (2, rC tsNode n_), (4, rF 0), (6, ri s1363), (36, rb y1365)], [[di 0, di 0, di 0, di 0]], [], 101⟩) := .trans (by kernel_rfl) (bif_b (bif_b (bif_b some_b none_b) none_b) some_b)
theorem ref03_Value_fzx2 : P81 1 C81.r.r.l.r.b.b.r.l.b.r.t (S81_3 n_ l_ s1363) k = k S81_1 := by kernel_rfl
theorem ref03_Value_r5 : R81 C81.r.r.l.r.b.b.r.r (S81_3 n_ l_ s1363) q = q .normal ⟨[(1, rl tsI4 l_), (2, rC tsNode n_), (4, rF 0), (6, ri (IntKind.wrap .i64 (s1363 + 1)))], [[di 0, di 0, di 0, di 0]], [], 101⟩ := by kernel_rfl
def ref03_Value_l4_p : Option (Int ⊕ (Int ⊕ Unit)) := (bif (decide (s1363 < (l_.length : Int))) then (Option.bind (ref03_Value_r6_p n_ l_ s1363) (fun y1365 : Bool => (bif y1365 then (some (Sum.inr (Sum.inr ()))) else (some (Sum.inl (IntKind.wrap .i64 (s1363 + 1))))))) else (some (Sum.inr (Sum.inl s1363))))
abbrev S81_4 (y1366 : Int) : St := ⟨[(1, rl tsI4 l_), (2, rC tsNode n_), (4, rF 0), (6, ri y1366)], [[di 0, di 0, di 0, di 0]], [], 101⟩
theorem ref03_Value_l4_b : R81 C81.r.r.l.r.b.b (S81_3 n_ l_ s1363) (loopKont 1 q) = Option.bind (ref03_Value_l4_p n_ l_ s1363) (either (fun y : Int => q .normal ⟨[(1, rl tsI4 l_), (2, rC tsNode n_), (4, rF 0), (6, ri y)], [[di 0, di 0, di 0, di 0]], [], 101⟩) (either (fun y1366 : Int => q (.exit 0) (S81_4 n_ l_ y1366)) (fun y1367 : Unit => q .ret S81_1))) := by
  refine .trans ?_ (bif_b (bind_b fun y1365 => (bif_b e3_2 e3_0)) e3_1)
  refine .trans seq_push ?_
  refine (pre1 (ref03_Value_fzx1 n_ l_ s1363 _)).trans ?_
  refine (cond_e (b := (decide (s1363 < (l_.length : Int)))) (st' := (S81_3 n_ l_ s1363)) ).trans (bif_g ?_ ?_)
  · refine (skip_eq).trans ?_
    refine (seqC_normal (st' := (S81_3 n_ l_ s1363))).trans ?_
    refine .trans seq_push ?_
    refine (block_push (id := 1)).trans ?_
    refine (pre1 (ref03_Value_r6 n_ l_ s1363 _)).trans (bind_g fun y1365 => ?_)
    refine (cond_e (b := y1365) (st' := (S81_3 n_ l_ s1363)) ).trans (bif_g ?_ ?_)
    · refine (pre1 (ref03_Value_fzx2 n_ l_ s1363 _)).trans ?_
      refine (ret_eq).trans ?_
      refine block_ret.trans ?_
      refine seqC_ret.trans ?_
      kernel_rfl
    · refine (skip_eq).trans ?_
      refine block_normal.trans ?_
      refine (seqC_normal (st' := (S81_3 n_ l_ s1363))).trans ?_
      refine (ref03_Value_r5 n_ l_ s1363 _).trans ?_
      kernel_rfl
  · refine ((exit_eq (j := 0))).trans ?_
    refine seqC_exit.trans ?_
    kernel_rfl
theorem ref03_Value_l4 : R81 C81.r.r.l.r.b (S81_2 n_ l_) q = Option.bind (iterN (ref03_Value_l4_p n_ l_) LL (0 : Int)) (either (fun y1366 : Int => q (.exit 0) (S81_4 n_ l_ y1366)) (fun y1367 : Unit => q .ret S81_1)) :=
  Eq.trans (by kernel_rfl) (loop_iter2 (S := fun s1363 : Int => (S81_3 n_ l_ s1363)) (Y1 := fun y1366 : Int => ((.exit 0), (S81_4 n_ l_ y1366))) (Y2 := fun y1367 : Unit => (.ret, S81_1)) (fun s q => ref03_Value_l4_b n_ l_ s q) (fun z => rfl) (fun z => rfl) LL (0 : Int))
abbrev S81_5 : St := ⟨[(1, rl tsI4 l_), (2, rC tsNode n_), (4, rF 0), (7, ri 0)], [[di 0, di 0, di 0, di 0]], [], 101⟩
theorem ref03_Value_f9 : P81 1 C81.r.r.r.l (S81_0 n_ l_) k = k (S81_5 n_ l_) := by kernel_rfl
abbrev S81_6 : St := ⟨[(1, rl tsI4 l_), (2, rC tsNode n_), (4, rF 0), (7, ri s1381)], [[di 0, di 0, di 0, di 0]], [], 101⟩
theorem ref03_Value_fzx3 : P81 1 C81.r.r.r.l.r.b.b.l (S81_6 n_ l_ s1381) k = k ⟨[(1, rl tsI4 l_), (2, rC tsNode n_), (4, rF 0), (7, ri s1381), (41, rb (decide (s1381 < (l_.length : Int))))], [[di 0, di 0, di 0, di 0]], [], 101⟩ := by kernel_rfl
def ref03_Value_r11_p : Option Bool := (bif (decide ((0 : Int) ≤ s1381)) then (bif (decide (s1381 < (l_.length : Int))) then (some ((ref02_May ((gt l_ s1381 dI4).1, (gt l_ s1381 dI4).2.1, (gt l_ s1381 dI4).2.2.1)) != 0)) else none) else none)
theorem ref03_Value_r11 : P81 1 C81.r.r.r.l.r.b.b.r.l.b (S81_6 n_ l_ s1381) k = Option.bind (ref03_Value_r11_p l_ s1381) (fun y1383 : Bool => k ⟨[(1, rl tsI4 l_), (2, rC tsNode n_), (4, rF 0), (7, ri s1381), (50, rb y1383)], [[di 0, di 0, di 0, di 0]], [], 101⟩) := .trans (by kernel_rfl) (bif_b (bif_b some_b none_b) none_b)
abbrev S81_7 : St := ⟨[(4, rF 0), (5, ri 10)], [[di 0, di 0, di 0, di 0]], [], 101⟩
theorem ref03_Value_fzx4 : P81 1 C81.r.r.r.l.r.b.b.r.l.b.r.t (S81_6 n_ l_ s1381) k = k S81_7 := by kernel_rfl
theorem ref03_Value_r10 : R81 C81.r.r.r.l.r.b.b.r.r (S81_6 n_ l_ s1381) q = q .normal ⟨[(1, rl tsI4 l_), (2, rC tsNode n_), (4, rF 0), (7, ri (IntKind.wrap .i64 (s1381 + 1)))], [[di 0, di 0, di 0, di 0]], [], 101⟩ := by kernel_rfl
def ref03_Value_l9_p : Option (Int ⊕ (Int ⊕ Unit)) := (bif (decide (s1381 < (l_.length : Int))) then (Option.bind (ref03_Value_r11_p l_ s1381) (fun y1383 : Bool => (bif y1383 then (some (Sum.inr (Sum.inr ()))) else (some (Sum.inl (IntKind.wrap .i64 (s1381 + 1))))))) else (some (Sum.inr (Sum.inl s1381))))
abbrev S81_8 (y1384 : Int) : St := ⟨[(1, rl tsI4 l_), (2, rC tsNode n_), (4, rF 0), (7, ri y1384)], [[di 0, di 0, di 0, di 0]], [], 101⟩
theorem ref03_Value_l9_b : R81 C81.r.r.r.l.r.b.b (S81_6 n_ l_ s1381) (loopKont 1 q) = Option.bind (ref03_Value_l9_p l_ s1381) (either (fun y : Int => q .normal ⟨[(1, rl tsI4 l_), (2, rC tsNode n_), (4, rF 0), (7, ri y)], [[di 0, di 0, di 0, di 0]], [], 101⟩) (either (fun y1384 : Int => q (.exit 2) (S81_8 n_ l_ y1384)) (fun y1385 : Unit => q .ret S81_7))) := by
  refine .trans ?_ (bif_b (bind_b fun y1383 => (bif_b e3_2 e3_0)) e3_1)
  refine .trans seq_push ?_
  refine (pre1 (ref03_Value_fzx3 n_ l_ s1381 _)).trans ?_
  refine (cond_e (b := (decide (s1381 < (l_.length : Int)))) (st' := (S81_6 n_ l_ s1381)) ).trans (bif_g ?_ ?_)
  · refine (skip_eq).trans ?_
    refine (seqC_normal (st' := (S81_6 n_ l_ s1381))).trans ?_
    refine .trans seq_push ?_
    refine (block_push (id := 3)).trans ?_
    refine (pre1 (ref03_Value_r11 n_ l_ s1381 _)).trans (bind_g fun y1383 => ?_)
    refine (cond_e (b := y1383) (st' := (S81_6 n_ l_ s1381)) ).trans (bif_g ?_ ?_)
    · refine (pre1 (ref03_Value_fzx4 n_ l_ s1381 _)).trans ?_
      refine (ret_eq).trans ?_
      refine block_ret.trans ?_
      refine seqC_ret.trans ?_
      kernel_rfl
    · refine (skip_eq).trans ?_
      refine block_normal.trans ?_
      refine (seqC_normal (st' := (S81_6 n_ l_ s1381))).trans ?_
      refine (ref03_Value_r10 n_ l_ s1381 _).trans ?_
      kernel_rfl
  · refine ((exit_eq (j := 2))).trans ?_
    refine seqC_exit.trans ?_
    kernel_rfl
theorem ref03_Value_l9 : R81 C81.r.r.r.l.r.b (S81_5 n_ l_) q = Option.bind (iterN (ref03_Value_l9_p l_) LL (0 : Int)) (either (fun y1384 : Int => q (.exit 2) (S81_8 n_ l_ y1384)) (fun y1385 : Unit => q .ret S81_7)) :=
  Eq.trans (by kernel_rfl) (loop_iter2 (S := fun s1381 : Int => (S81_6 n_ l_ s1381)) (Y1 := fun y1384 : Int => ((.exit 2), (S81_8 n_ l_ y1384))) (Y2 := fun y1385 : Unit => (.ret, S81_7)) (fun s q => ref03_Value_l9_b n_ l_ s q) (fun z => rfl) (fun z => rfl) LL (0 : Int))
abbrev S81_9 : St := ⟨[(1, rl tsI4 l_), (2, rC tsNode n_), (4, rF 0), (8, rF 1)], [[di 0, di 0, di 0, di 0], (tsI3.leaves y1413)], [], 101⟩
theorem ref03_Value_r13 : P81 1 C81.r.r.r.r (S81_0 n_ l_) k = Option.bind (ref03_made n_ l_) fun y1413 : I3 => k (S81_9 n_ l_ y1413) := by kernel_rfl
theorem ref03_Value_f1000015 : P81 1 C81.r.r.r.r.r.l (S81_9 n_ l_ y1413) k = k ⟨[(1, rl tsI4 l_), (2, rC tsNode n_), (4, rF 0), (8, rF 1), (57, rb ((ref02_May y1413) != 0))], [[di 0, di 0, di 0, di 0], (tsI3.leaves y1413)], [], 101⟩ := by kernel_rfl
theorem ref03_Value_fzx5 : P81 1 C81.r.r.r.r.r.l.r.t (S81_9 n_ l_ y1413) k = k ⟨[(4, rF 0), (5, ri 10)], [[di 0, di 0, di 0, di 0], []], [], 101⟩ := by kernel_rfl
def ref03_Value_r16_p : Option (Int × Int) := (bif (decide ((0 : Int) < (l_.length : Int))) then (some (ref03_many n_ ((gt l_ (0 : Int) dI4).1, (gt l_ (0 : Int) dI4).2.1, (gt l_ (0 : Int) dI4).2.2.1))) else none)
abbrev S81_10 : St := ⟨[(2, rC tsNode n_), (4, rF 0), (8, rF 1), (9, ri y1416.1), (10, ri y1416.2)], [[di 0, di 0, di 0, di 0], (tsI3.leaves y1413)], [], 101⟩
theorem ref03_Value_r16 : P81 1 C81.r.r.r.r.r.r (S81_9 n_ l_ y1413) k = Option.bind (ref03_Value_r16_p n_ l_) (fun y1416 : (Int × Int) => k (S81_10 n_ y1413 y1416)) := .trans (by kernel_rfl) (bif_b some_b none_b)
def ref03_Value_r17_q (K : Bool → β) : β := (bif ((n_.2.2.2.2.2.2.2.2.2.2.2.2.1.length : Int) != y1416.1) then (K true) else (K ((n_.2.2.2.2.2.2.2.2.2.2.2.2.2.length : Int) != y1416.2)))
def ref03_Value_r17_p : Bool := ref03_Value_r17_q n_ y1416 (fun y => y)
theorem ref03_Value_r17_n (K : Bool → β) : ref03_Value_r17_q n_ y1416 K = K (ref03_Value_r17_p n_ y1416) := (bif_k K rfl rfl)
theorem ref03_Value_r17 : P81 1 C81.r.r.r.r.r.r.r.l (S81_10 n_ y1413 y1416) k = k ⟨[(2, rC tsNode n_), (4, rF 0), (8, rF 1), (79, rb (ref03_Value_r17_p n_ y1416))], [[di 0, di 0, di 0, di 0], (tsI3.leaves y1413)], [], 101⟩ := Eq.trans (by kernel_rfl) (ref03_Value_r17_n n_ y1416 (fun y1418 : Bool => k ⟨[(2, rC tsNode n_), (4, rF 0), (8, rF 1), (79, rb y1418)], [[di 0, di 0, di 0, di 0], (tsI3.leaves y1413)], [], 101⟩))
abbrev S81_11 : St := ⟨[(2, rC tsNode n_), (4, rF 0), (8, rF 1)], [[di 0, di 0, di 0, di 0], (tsI3.leaves y1413)], [], 101⟩
abbrev S81_12 : St := ⟨[(4, rF 0), (5, ri 12)], [[di 0, di 0, di 0, di 0], []], [], 101⟩
theorem ref03_Value_fzx6 : P81 1 C81.r.r.r.r.r.r.r.l.r.t (S81_11 n_ y1413) k = k S81_12 := by kernel_rfl
abbrev S81_13 : St := ⟨[(2, rC tsNode n_), (4, rF 0), (8, rF 1), (11, ri 0)], [[di 0, di 0, di 0, di 0], (tsI3.leaves y1413)], [], 101⟩
theorem ref03_Value_f20 : P81 1 C81.r.r.r.r.r.r.r.r.l (S81_11 n_ y1413) k = k (S81_13 n_ y1413) := by kernel_rfl
abbrev S81_14 : St := ⟨[(2, rC tsNode n_), (4, rF 0), (8, rF 1), (11, ri s1430)], [[di 0, di 0, di 0, di 0], (tsI3.leaves y1413)], [], 101⟩
theorem ref03_Value_fzx7 : P81 1 C81.r.r.r.r.r.r.r.r.l.r.b.b.l (S81_14 n_ y1413 s1430) k = k ⟨[(2, rC tsNode n_), (4, rF 0), (8, rF 1), (11, ri s1430), (85, rb (decide (s1430 < (n_.2.2.2.2.2.2.2.2.2.2.2.2.2.length : Int))))], [[di 0, di 0, di 0, di 0], (tsI3.leaves y1413)], [], 101⟩ := by kernel_rfl
def ref03_Value_r22_p : Option Bool := (bif (decide ((0 : Int) ≤ s1430)) then (bif (decide (s1430 < (n_.2.2.2.2.2.2.2.2.2.2.2.2.2.length : Int))) then (some (!(ref03_in (IntKind.wrap .i64 (gt n_.2.2.2.2.2.2.2.2.2.2.2.2.2 s1430 (0 : Int))) (-16777216 : Int) (16777216 : Int)))) else none) else none)
theorem ref03_Value_r22 : P81 1 C81.r.r.r.r.r.r.r.r.l.r.b.b.r.l.b (S81_14 n_ y1413 s1430) k = Option.bind (ref03_Value_r22_p n_ s1430) (fun y1432 : Bool => k ⟨[(2, rC tsNode n_), (4, rF 0), (8, rF 1), (11, ri s1430), (95, rb y1432)], [[di 0, di 0, di 0, di 0], (tsI3.leaves y1413)], [], 101⟩) := .trans (by kernel_rfl) (bif_b (bif_b some_b none_b) none_b)
theorem ref03_Value_fzx8 : P81 1 C81.r.r.r.r.r.r.r.r.l.r.b.b.r.l.b.r.t (S81_14 n_ y1413 s1430) k = k S81_12 := by kernel_rfl
theorem ref03_Value_r21 : R81 C81.r.r.r.r.r.r.r.r.l.r.b.b.r.r (S81_14 n_ y1413 s1430) q = q .normal ⟨[(2, rC tsNode n_), (4, rF 0), (8, rF 1), (11, ri (IntKind.wrap .i64 (s1430 + 1)))], [[di 0, di 0, di 0, di 0], (tsI3.leaves y1413)], [], 101⟩ := by kernel_rfl
def ref03_Value_l20_p : Option (Int ⊕ (Int ⊕ Unit)) := (bif (decide (s1430 < (n_.2.2.2.2.2.2.2.2.2.2.2.2.2.length : Int))) then (Option.bind (ref03_Value_r22_p n_ s1430) (fun y1432 : Bool => (bif y1432 then (some (Sum.inr (Sum.inr ()))) else (some (Sum.inl (IntKind.wrap .i64 (s1430 + 1))))))) else (some (Sum.inr (Sum.inl s1430))))
abbrev S81_15 (y1433 : Int) : St := ⟨[(2, rC tsNode n_), (4, rF 0), (8, rF 1), (11, ri y1433)], [[di 0, di 0, di 0, di 0], (tsI3.leaves y1413)], [], 101⟩
theorem ref03_Value_l20_b : R81 C81.r.r.r.r.r.r.r.r.l.r.b.b (S81_14 n_ y1413 s1430) (loopKont 2 q) = Option.bind (ref03_Value_l20_p n_ s1430) (either (fun y : Int => q .normal ⟨[(2, rC tsNode n_), (4, rF 0), (8, rF 1), (11, ri y)], [[di 0, di 0, di 0, di 0], (tsI3.leaves y1413)], [], 101⟩) (either (fun y1433 : Int => q (.exit 4) (S81_15 n_ y1413 y1433)) (fun y1434 : Unit => q .ret S81_12))) := by
  refine .trans ?_ (bif_b (bind_b fun y1432 => (bif_b e3_2 e3_0)) e3_1)
  refine .trans seq_push ?_
  refine (pre1 (ref03_Value_fzx7 n_ y1413 s1430 _)).trans ?_
  refine (cond_e (b := (decide (s1430 < (n_.2.2.2.2.2.2.2.2.2.2.2.2.2.length : Int)))) (st' := (S81_14 n_ y1413 s1430)) ).trans (bif_g ?_ ?_)
  · refine (skip_eq).trans ?_
    refine (seqC_normal (st' := (S81_14 n_ y1413 s1430))).trans ?_
    refine .trans seq_push ?_
    refine (block_push (id := 5)).trans ?_
    refine (pre1 (ref03_Value_r22 n_ y1413 s1430 _)).trans (bind_g fun y1432 => ?_)
    refine (cond_e (b := y1432) (st' := (S81_14 n_ y1413 s1430)) ).trans (bif_g ?_ ?_)
    · refine (pre1 (ref03_Value_fzx8 n_ y1413 s1430 _)).trans ?_
      refine (ret_eq).trans ?_
      refine block_ret.trans ?_
      refine seqC_ret.trans ?_
      kernel_rfl
    · refine (skip_eq).trans ?_
      refine block_normal.trans ?_
      refine (seqC_normal (st' := (S81_14 n_ y1413 s1430))).trans ?_
      refine (ref03_Value_r21 n_ y1413 s1430 _).trans ?_
      kernel_rfl
  · refine ((exit_eq (j := 4))).trans ?_
    refine seqC_exit.trans ?_
    kernel_rfl
theorem ref03_Value_l20 : R81 C81.r.r.r.r.r.r.r.r.l.r.b (S81_13 n_ y1413) q = Option.bind (iterN (ref03_Value_l20_p n_) LL (0 : Int)) (either (fun y1433 : Int => q (.exit 4) (S81_15 n_ y1413 y1433)) (fun y1434 : Unit => q .ret S81_12)) :=
  Eq.trans (by kernel_rfl) (loop_iter2 (S := fun s1430 : Int => (S81_14 n_ y1413 s1430)) (Y1 := fun y1433 : Int => ((.exit 4), (S81_15 n_ y1413 y1433))) (Y2 := fun y1434 : Unit => (.ret, S81_12)) (fun s q => ref03_Value_l20_b n_ y1413 s q) (fun z => rfl) (fun z => rfl) LL (0 : Int))
theorem ref03_Value_fzx9 : P81 1 C81.r.r.r.r.r.r.r.r.r (S81_11 n_ y1413) k = k ⟨[(4, rF 0), (5, ri 0)], [[di y1413.1, di y1413.2.1, di y1413.2.2, di n_.2.2.2.2.2.2.2.2.1], []], [], 101⟩ := by kernel_rfl
/-- quilt/quiltref03.Value -/
def ref03_Value : Option (I4 × Int) := (bif (!(ref03_node n_ (l_.length : Int))) then (some (((0 : Int), (0 : Int), (0 : Int), (0 : Int)), (11 : Int))) else (Option.bind (iterN (ref03_Value_l4_p n_ l_) LL (0 : Int)) (either (fun y1366 : Int => (Option.bind (iterN (ref03_Value_l9_p l_) LL (0 : Int)) (either (fun y1384 : Int => (Option.bind (ref03_made n_ l_) (fun y1413 : I3 => (bif ((ref02_May y1413) != 0) then (some (((0 : Int), (0 : Int), (0 : Int), (0 : Int)), (10 : Int))) else (Option.bind (ref03_Value_r16_p n_ l_) (fun y1416 : (Int × Int) => (bif (ref03_Value_r17_p n_ y1416) then (some (((0 : Int), (0 : Int), (0 : Int), (0 : Int)), (12 : Int))) else (Option.bind (iterN (ref03_Value_l20_p n_) LL (0 : Int)) (either (fun y1433 : Int => (some ((y1413.1, y1413.2.1, y1413.2.2, n_.2.2.2.2.2.2.2.2.1), (0 : Int)))) (fun y1434 : Unit => (some (((0 : Int), (0 : Int), (0 : Int), (0 : Int)), (12 : Int))))))))))))) (fun y1385 : Unit => (some (((0 : Int), (0 : Int), (0 : Int), (0 : Int)), (10 : Int))))))) (fun y1367 : Unit => (some (((0 : Int), (0 : Int), (0 : Int), (0 : Int)), (11 : Int)))))))
theorem ref03_Value_is : stepS E cp77 ce4 17 [rA tsNode n_, rl tsI4 l_] = Option.bind (ref03_Value n_ l_) (fun y : (I4 × Int) => some (.tup [rA tsI4 y.1, ri y.2] : R)) := by
  refine .trans ?_ (bif_b some_b (bind_b (either_b (fun y1366 => (bind_b (either_b (fun y1384 => (bind_b fun y1413 => (bif_b some_b (bind_b fun y1416 => (bif_b some_b (bind_b (either_b (fun y1433 => some_b) (fun y1434 => some_b)))))))) (fun y1385 => some_b)))) (fun y1367 => some_b))))
  refine (stepG_is (nt := 101) (regs := [(0, rA tsNode n_), (1, rl tsI4 l_)])).trans ?_
  refine (pre1 (ref03_Value_f1 n_ l_ _)).trans ?_
  refine .trans seq_push ?_
  refine (pre1 (ref03_Value_f1000002 n_ l_ _)).trans ?_
  refine (cond_e (b := (!(ref03_node n_ (l_.length : Int)))) (st' := (S81_0 n_ l_)) ).trans (bif_g ?_ ?_)
  · refine (pre1 (ref03_Value_fz n_ l_ _)).trans ?_
    refine (ret_eq).trans ?_
    refine seqC_ret.trans ?_
    kernel_rfl
  · refine (skip_eq).trans ?_
    refine (seqC_normal (st' := (S81_0 n_ l_))).trans ?_
    refine .trans seq_push ?_
    refine (pre1 (ref03_Value_f4 n_ l_ _)).trans ?_
    refine (block_push (id := 0)).trans ?_
    refine (ref03_Value_l4 n_ l_ _).trans (bind_g (either_g (fun y1366 => ?_) (fun y1367 => ?_)))
    · refine block_same.trans ?_
      refine (seqC_normal (st' := (S81_0 n_ l_))).trans ?_
      refine .trans seq_push ?_
      refine (pre1 (ref03_Value_f9 n_ l_ _)).trans ?_
      refine (block_push (id := 2)).trans ?_
      refine (ref03_Value_l9 n_ l_ _).trans (bind_g (either_g (fun y1384 => ?_) (fun y1385 => ?_)))
      · refine block_same.trans ?_
        refine (seqC_normal (st' := (S81_0 n_ l_))).trans ?_
        refine (pre1 (ref03_Value_r13 n_ l_ _)).trans (bind_g fun y1413 => ?_)
        refine .trans seq_push ?_
        refine (pre1 (ref03_Value_f1000015 n_ l_ y1413 _)).trans ?_
        refine (cond_e (b := ((ref02_May y1413) != 0)) (st' := (S81_9 n_ l_ y1413)) ).trans (bif_g ?_ ?_)
        · refine (pre1 (ref03_Value_fzx5 n_ l_ y1413 _)).trans ?_
          refine (ret_eq).trans ?_
          refine seqC_ret.trans ?_
          kernel_rfl
        · refine (skip_eq).trans ?_
          refine (seqC_normal (st' := (S81_9 n_ l_ y1413))).trans ?_
          refine (pre1 (ref03_Value_r16 n_ l_ y1413 _)).trans (bind_g fun y1416 => ?_)
          refine .trans seq_push ?_
          refine (pre1 (ref03_Value_r17 n_ y1413 y1416 _)).trans ?_
          refine (cond_e (b := (ref03_Value_r17_p n_ y1416)) (st' := (S81_11 n_ y1413)) ).trans (bif_g ?_ ?_)
          · refine (pre1 (ref03_Value_fzx6 n_ y1413 _)).trans ?_
            refine (ret_eq).trans ?_
            refine seqC_ret.trans ?_
            kernel_rfl
          · refine (skip_eq).trans ?_
            refine (seqC_normal (st' := (S81_11 n_ y1413))).trans ?_
            refine .trans seq_push ?_
            refine (pre1 (ref03_Value_f20 n_ y1413 _)).trans ?_
            refine (block_push (id := 4)).trans ?_
            refine (ref03_Value_l20 n_ y1413 _).trans (bind_g (either_g (fun y1433 => ?_) (fun y1434 => ?_)))
            · refine block_same.trans ?_
              refine (seqC_normal (st' := (S81_11 n_ y1413))).trans ?_
              refine (pre1 (ref03_Value_fzx9 n_ y1413 _)).trans ?_
              refine (ret_eq).trans ?_
              kernel_rfl
            · refine block_ret.trans ?_
              refine seqC_ret.trans ?_
              kernel_rfl
      · refine block_ret.trans ?_
        refine seqC_ret.trans ?_
        kernel_rfl
    · refine block_ret.trans ?_
      refine seqC_ret.trans ?_
      kernel_rfl
noncomputable def cp78 : CallP := withC cp77 17 [(.agg tsNode), (pL tsI4)] (.tup [(.agg tsI4), pI]) (fun y : (I4 × Int) => (y.1, y.2, ())) (fun x => ref03_Value x.1 x.2.1)
theorem cp78_ok : PureOK E cp78 := conS eok cp77_ok ce4_ok fun x => Eq.mp (by kernel_rfl) (ref03_Value_is x.1 x.2.1)
end
section
variable {α β : Type} (first : Int) (rows : Int) (k_ : Int) (stride : Int) (pad : Int) (size : Int) (y1441 : Int) (s1534 : (Int × Int × Int)) (s1556 : (Int × Int × Int)) (y1564 : (Int × Int × Int)) (y1565 : (Int × Int × Int)) (k : St → Option α) (q : Kont α)
noncomputable abbrev C82 := codeOf E.P 24
noncomputable abbrev P82 := @preK α E 24 cp78 ce4
noncomputable abbrev R82 := @runCode α E 24 cp78 ce4
noncomputable abbrev Q82 := @seqC α E 24 cp78 ce4
theorem ref02_Reach_r1 : P82 2 C82 ⟨[(0, ri first), (1, ri rows), (2, ri k_), (3, ri stride), (4, ri pad), (5, ri size)], [], [], 82⟩ k = Option.bind (ref02_Out size k_ stride pad) fun y1441 : Int => k ⟨[(0, ri first), (1, ri rows), (2, ri k_), (3, ri stride), (4, ri pad), (5, ri size), (14, ri y1441)], [], [], 82⟩ := by kernel_rfl
abbrev S82_0 : St := ⟨[(0, ri first), (1, ri rows), (2, ri k_), (3, ri stride), (4, ri pad), (5, ri size), (14, ri y1441), (15, ri 0), (16, ri 0)], [], [], 82⟩
theorem ref02_Reach_f4 : P82 2 C82.r.r ⟨[(0, ri first), (1, ri rows), (2, ri k_), (3, ri stride), (4, ri pad), (5, ri size), (14, ri y1441)], [], [], 82⟩ k = k (S82_0 first rows k_ stride pad size y1441) := by kernel_rfl
def ref02_Reach_r4_q (K : Bool → β) : β := (bif (decide (first < 0)) then (K true) else (bif (decide (rows < 1)) then (K true) else (bif (decide (first > y1441)) then (K true) else (K (decide (rows > (IntKind.wrap .i64 (y1441 - first))))))))
def ref02_Reach_r4_p : Bool := ref02_Reach_r4_q first rows y1441 (fun y => y)
theorem ref02_Reach_r4_n (K : Bool → β) : ref02_Reach_r4_q first rows y1441 K = K (ref02_Reach_r4_p first rows y1441) := (bif_k K rfl (bif_k K rfl (bif_k K rfl rfl)))
theorem ref02_Reach_r4 : P82 1 C82.r.r.r.r.l (S82_0 first rows k_ stride pad size y1441) k = k ⟨[(0, ri first), (1, ri rows), (2, ri k_), (3, ri stride), (4, ri pad), (5, ri size), (15, ri 0), (16, ri 0), (42, rb (ref02_Reach_r4_p first rows y1441))], [], [], 82⟩ := Eq.trans (by kernel_rfl) (ref02_Reach_r4_n first rows y1441 (fun y1443 : Bool => k ⟨[(0, ri first), (1, ri rows), (2, ri k_), (3, ri stride), (4, ri pad), (5, ri size), (15, ri 0), (16, ri 0), (42, rb y1443)], [], [], 82⟩))
abbrev S82_1 : St := ⟨[(0, ri first), (1, ri rows), (2, ri k_), (3, ri stride), (4, ri pad), (5, ri size), (15, ri 0), (16, ri 0)], [], [], 82⟩
theorem ref02_Reach_fz : P82 1 C82.r.r.r.r.l.r.t (S82_1 first rows k_ stride pad size) k = k ⟨[(12, ri 0), (13, ri 0)], [], [], 82⟩ := by kernel_rfl
abbrev S82_2 : St := ⟨[(0, ri first), (1, ri rows), (2, ri k_), (3, ri stride), (4, ri pad), (5, ri size), (15, ri 0), (16, ri 0), (17, ri first)], [], [], 82⟩
theorem ref02_Reach_f7 : P82 1 C82.r.r.r.r.r.l (S82_1 first rows k_ stride pad size) k = k (S82_2 first rows k_ stride pad size) := by kernel_rfl
abbrev S82_3 : St := ⟨[(0, ri first), (1, ri rows), (2, ri k_), (3, ri stride), (4, ri pad), (5, ri size), (15, ri s1534.1), (16, ri s1534.2.1), (17, ri s1534.2.2)], [], [], 82⟩
theorem ref02_Reach_fzx1 : P82 1 C82.r.r.r.r.r.l.r.b.b.l (S82_3 first rows k_ stride pad size s1534) k = k ⟨[(0, ri first), (1, ri rows), (2, ri k_), (3, ri stride), (4, ri pad), (5, ri size), (15, ri s1534.1), (16, ri s1534.2.1), (17, ri s1534.2.2), (48, rb (decide (s1534.2.2 < (IntKind.wrap .i64 (first + rows)))))], [], [], 82⟩ := by kernel_rfl
abbrev S82_4 : St := ⟨[(0, ri first), (1, ri rows), (2, ri k_), (3, ri stride), (4, ri pad), (5, ri size), (15, ri s1534.1), (16, ri s1534.2.1), (17, ri s1534.2.2), (18, ri 0)], [], [], 82⟩
theorem ref02_Reach_f10 : P82 1 C82.r.r.r.r.r.l.r.b.b.r.l.b (S82_3 first rows k_ stride pad size s1534) k = k (S82_4 first rows k_ stride pad size s1534) := by kernel_rfl
abbrev S82_5 : St := ⟨[(0, ri first), (1, ri rows), (2, ri k_), (3, ri stride), (4, ri pad), (5, ri size), (15, ri s1556.1), (16, ri s1556.2.1), (17, ri s1534.2.2), (18, ri s1556.2.2)], [], [], 82⟩
theorem ref02_Reach_fzx2 : P82 1 C82.r.r.r.r.r.l.r.b.b.r.l.b.r.b.b.l (S82_5 first rows k_ stride pad size s1534 s1556) k = k ⟨[(0, ri first), (1, ri rows), (2, ri k_), (3, ri stride), (4, ri pad), (5, ri size), (15, ri s1556.1), (16, ri s1556.2.1), (17, ri s1534.2.2), (18, ri s1556.2.2), (53, rb (decide (s1556.2.2 < k_)))], [], [], 82⟩ := by kernel_rfl
def ref02_Reach_r12_q (K : Int → β) : β := (K (IntKind.wrap .i64 ((IntKind.wrap .i64 ((IntKind.wrap .i64 (s1534.2.2 * stride)) - pad)) + s1556.2.2)))
def ref02_Reach_r12_p : Int := ref02_Reach_r12_q stride pad s1534 s1556 (fun y => y)
theorem ref02_Reach_r12_n (K : Int → β) : ref02_Reach_r12_q stride pad s1534 s1556 K = K (ref02_Reach_r12_p stride pad s1534 s1556) := rfl
abbrev S82_6 : St := ⟨[(0, ri first), (1, ri rows), (2, ri k_), (3, ri stride), (4, ri pad), (5, ri size), (15, ri s1556.1), (16, ri s1556.2.1), (17, ri s1534.2.2), (18, ri s1556.2.2), (19, ri (ref02_Reach_r12_p stride pad s1534 s1556))], [], [], 82⟩
theorem ref02_Reach_r12 : P82 1 C82.r.r.r.r.r.l.r.b.b.r.l.b.r.b.b.r.l.b (S82_5 first rows k_ stride pad size s1534 s1556) k = k (S82_6 first rows k_ stride pad size s1534 s1556) := Eq.trans (by kernel_rfl) (ref02_Reach_r12_n stride pad s1534 s1556 (fun y1557 : Int => k ⟨[(0, ri first), (1, ri rows), (2, ri k_), (3, ri stride), (4, ri pad), (5, ri size), (15, ri s1556.1), (16, ri s1556.2.1), (17, ri s1534.2.2), (18, ri s1556.2.2), (19, ri y1557)], [], [], 82⟩))
def ref02_Reach_r13_q (K : Bool → β) : β := (bif (decide ((ref02_Reach_r12_p stride pad s1534 s1556) < 0)) then (K true) else (K (decide ((ref02_Reach_r12_p stride pad s1534 s1556) ≥ size))))
def ref02_Reach_r13_p : Bool := ref02_Reach_r13_q stride pad size s1534 s1556 (fun y => y)
theorem ref02_Reach_r13_n (K : Bool → β) : ref02_Reach_r13_q stride pad size s1534 s1556 K = K (ref02_Reach_r13_p stride pad size s1534 s1556) := (bif_k K rfl rfl)
theorem ref02_Reach_r13 : P82 1 C82.r.r.r.r.r.l.r.b.b.r.l.b.r.b.b.r.l.b.r.l (S82_6 first rows k_ stride pad size s1534 s1556) k = k ⟨[(0, ri first), (1, ri rows), (2, ri k_), (3, ri stride), (4, ri pad), (5, ri size), (15, ri s1556.1), (16, ri s1556.2.1), (17, ri s1534.2.2), (18, ri s1556.2.2), (19, ri (ref02_Reach_r12_p stride pad s1534 s1556)), (69, rb (ref02_Reach_r13_p stride pad size s1534 s1556))], [], [], 82⟩ := Eq.trans (by kernel_rfl) (ref02_Reach_r13_n stride pad size s1534 s1556 (fun y1559 : Bool => k ⟨[(0, ri first), (1, ri rows), (2, ri k_), (3, ri stride), (4, ri pad), (5, ri size), (15, ri s1556.1), (16, ri s1556.2.1), (17, ri s1534.2.2), (18, ri s1556.2.2), (19, ri (ref02_Reach_r12_p stride pad s1534 s1556)), (69, rb y1559)], [], [], 82⟩))
theorem ref02_Reach_f1000015 : P82 1 C82.r.r.r.r.r.l.r.b.b.r.l.b.r.b.b.r.l.b.r.r.l (S82_6 first rows k_ stride pad size s1534 s1556) k = k ⟨[(0, ri first), (1, ri rows), (2, ri k_), (3, ri stride), (4, ri pad), (5, ri size), (15, ri s1556.1), (16, ri s1556.2.1), (17, ri s1534.2.2), (18, ri s1556.2.2), (19, ri (ref02_Reach_r12_p stride pad s1534 s1556)), (71, rb (s1556.2.1 == 0))], [], [], 82⟩ := by kernel_rfl
abbrev S82_7 : St := ⟨[(0, ri first), (1, ri rows), (2, ri k_), (3, ri stride), (4, ri pad), (5, ri size), (15, ri (ref02_Reach_r12_p stride pad s1534 s1556)), (16, ri s1556.2.1), (17, ri s1534.2.2), (18, ri s1556.2.2), (19, ri (ref02_Reach_r12_p stride pad s1534 s1556))], [], [], 82⟩
theorem ref02_Reach_r15 : R82 C82.r.r.r.r.r.l.r.b.b.r.l.b.r.b.b.r.l.b.r.r.l.r.t (S82_6 first rows k_ stride pad size s1534 s1556) q = q .normal (S82_7 first rows k_ stride pad size s1534 s1556) := by kernel_rfl
def ref02_Reach_j14_q (K : Int → β) : β := (bif (s1556.2.1 == 0) then (K (ref02_Reach_r12_p stride pad s1534 s1556)) else (K s1556.1))
def ref02_Reach_j14_p : Int := ref02_Reach_j14_q stride pad s1534 s1556 (fun y => y)
theorem ref02_Reach_j14_n (K : Int → β) : ref02_Reach_j14_q stride pad s1534 s1556 K = K (ref02_Reach_j14_p stride pad s1534 s1556) := (bif_k K rfl rfl)
abbrev S82_8 : St := ⟨[(0, ri first), (1, ri rows), (2, ri k_), (3, ri stride), (4, ri pad), (5, ri size), (15, ri (ref02_Reach_j14_p stride pad s1534 s1556)), (16, ri s1556.2.1), (17, ri s1534.2.2), (18, ri s1556.2.2), (19, ri (ref02_Reach_r12_p stride pad s1534 s1556))], [], [], 82⟩
theorem ref02_Reach_j14 : R82 C82.r.r.r.r.r.l.r.b.b.r.l.b.r.b.b.r.l.b.r.r.l (S82_6 first rows k_ stride pad size s1534 s1556) (Q82 C82.r.r.r.r.r.l.r.b.b.r.l.b.r.b.b.r.l.b.r.r.r q) = R82 C82.r.r.r.r.r.l.r.b.b.r.l.b.r.b.b.r.l.b.r.r.r (S82_8 first rows k_ stride pad size s1534 s1556) q := by
  refine Eq.trans ?_ (ref02_Reach_j14_n stride pad s1534 s1556 (fun y1560 : Int => R82 C82.r.r.r.r.r.l.r.b.b.r.l.b.r.b.b.r.l.b.r.r.r ⟨[(0, ri first), (1, ri rows), (2, ri k_), (3, ri stride), (4, ri pad), (5, ri size), (15, ri y1560), (16, ri s1556.2.1), (17, ri s1534.2.2), (18, ri s1556.2.2), (19, ri (ref02_Reach_r12_p stride pad s1534 s1556))], [], [], 82⟩ q))
  unfold ref02_Reach_j14_q
  refine (pre1 (ref02_Reach_f1000015 first rows k_ stride pad size s1534 s1556 _)).trans ?_
  refine (cond_e (b := (s1556.2.1 == 0)) (st' := (S82_6 first rows k_ stride pad size s1534 s1556)) ).trans (bif_g ?_ ?_)
  · refine (ref02_Reach_r15 first rows k_ stride pad size s1534 s1556 _).trans ?_
    refine (seqC_normal (st' := (S82_7 first rows k_ stride pad size s1534 s1556))).trans ?_
    kernel_rfl
  · refine (skip_eq).trans ?_
    refine (seqC_normal (st' := (S82_6 first rows k_ stride pad size s1534 s1556))).trans ?_
    kernel_rfl
def ref02_Reach_r16_q (K : Int → β) : β := (K (min (ref02_Reach_j14_p stride pad s1534 s1556) (ref02_Reach_r12_p stride pad s1534 s1556)))
def ref02_Reach_r16_p : Int := ref02_Reach_r16_q stride pad s1534 s1556 (fun y => y)
theorem ref02_Reach_r16_n (K : Int → β) : ref02_Reach_r16_q stride pad s1534 s1556 K = K (ref02_Reach_r16_p stride pad s1534 s1556) := rfl
abbrev S82_9 : St := ⟨[(0, ri first), (1, ri rows), (2, ri k_), (3, ri stride), (4, ri pad), (5, ri size), (15, ri (ref02_Reach_r16_p stride pad s1534 s1556)), (16, ri s1556.2.1), (17, ri s1534.2.2), (18, ri s1556.2.2), (19, ri (ref02_Reach_r12_p stride pad s1534 s1556))], [], [], 82⟩
theorem ref02_Reach_r16 : P82 1 C82.r.r.r.r.r.l.r.b.b.r.l.b.r.b.b.r.l.b.r.r.r (S82_8 first rows k_ stride pad size s1534 s1556) k = k (S82_9 first rows k_ stride pad size s1534 s1556) := Eq.trans (by kernel_rfl) (ref02_Reach_r16_n stride pad s1534 s1556 (fun y1561 : Int => k ⟨[(0, ri first), (1, ri rows), (2, ri k_), (3, ri stride), (4, ri pad), (5, ri size), (15, ri y1561), (16, ri s1556.2.1), (17, ri s1534.2.2), (18, ri s1556.2.2), (19, ri (ref02_Reach_r12_p stride pad s1534 s1556))], [], [], 82⟩))
def ref02_Reach_r17_q (K : Int → β) : β := (K (max s1556.2.1 (IntKind.wrap .i64 ((ref02_Reach_r12_p stride pad s1534 s1556) + 1))))
def ref02_Reach_r17_p : Int := ref02_Reach_r17_q stride pad s1534 s1556 (fun y => y)
theorem ref02_Reach_r17_n (K : Int → β) : ref02_Reach_r17_q stride pad s1534 s1556 K = K (ref02_Reach_r17_p stride pad s1534 s1556) := rfl
abbrev S82_10 : St := ⟨[(0, ri first), (1, ri rows), (2, ri k_), (3, ri stride), (4, ri pad), (5, ri size), (15, ri (ref02_Reach_r16_p stride pad s1534 s1556)), (16, ri (ref02_Reach_r17_p stride pad s1534 s1556)), (17, ri s1534.2.2), (18, ri s1556.2.2)], [], [], 82⟩
theorem ref02_Reach_r17 : R82 C82.r.r.r.r.r.l.r.b.b.r.l.b.r.b.b.r.l.b.r.r.r.r (S82_9 first rows k_ stride pad size s1534 s1556) q = q .normal (S82_10 first rows k_ stride pad size s1534 s1556) := Eq.trans (by kernel_rfl) (ref02_Reach_r17_n stride pad s1534 s1556 (fun y1562 : Int => q .normal ⟨[(0, ri first), (1, ri rows), (2, ri k_), (3, ri stride), (4, ri pad), (5, ri size), (15, ri (ref02_Reach_r16_p stride pad s1534 s1556)), (16, ri y1562), (17, ri s1534.2.2), (18, ri s1556.2.2)], [], [], 82⟩))
def ref02_Reach_j12_q (K : (Int × Int) → β) : β := (bif (ref02_Reach_r13_p stride pad size s1534 s1556) then (K (s1556.1, s1556.2.1)) else (K ((ref02_Reach_r16_p stride pad s1534 s1556), (ref02_Reach_r17_p stride pad s1534 s1556))))
def ref02_Reach_j12_p : (Int × Int) := ref02_Reach_j12_q stride pad size s1534 s1556 (fun y => y)
theorem ref02_Reach_j12_n (K : (Int × Int) → β) : ref02_Reach_j12_q stride pad size s1534 s1556 K = K (ref02_Reach_j12_p stride pad size s1534 s1556) := (bif_k K rfl rfl)
abbrev S82_11 : St := ⟨[(0, ri first), (1, ri rows), (2, ri k_), (3, ri stride), (4, ri pad), (5, ri size), (15, ri ((ref02_Reach_j12_p stride pad size s1534 s1556).1)), (16, ri ((ref02_Reach_j12_p stride pad size s1534 s1556).2)), (17, ri s1534.2.2), (18, ri s1556.2.2)], [], [], 82⟩
theorem ref02_Reach_j12 : R82 C82.r.r.r.r.r.l.r.b.b.r.l.b.r.b.b.r.l (S82_5 first rows k_ stride pad size s1534 s1556) (Q82 C82.r.r.r.r.r.l.r.b.b.r.l.b.r.b.b.r.r q) = R82 C82.r.r.r.r.r.l.r.b.b.r.l.b.r.b.b.r.r (S82_11 first rows k_ stride pad size s1534 s1556) q := by
  refine Eq.trans ?_ (ref02_Reach_j12_n stride pad size s1534 s1556 (fun y1563 : (Int × Int) => R82 C82.r.r.r.r.r.l.r.b.b.r.l.b.r.b.b.r.r ⟨[(0, ri first), (1, ri rows), (2, ri k_), (3, ri stride), (4, ri pad), (5, ri size), (15, ri y1563.1), (16, ri y1563.2), (17, ri s1534.2.2), (18, ri s1556.2.2)], [], [], 82⟩ q))
  unfold ref02_Reach_j12_q
  refine (block_push (id := 3)).trans ?_
  refine (pre1 (ref02_Reach_r12 first rows k_ stride pad size s1534 s1556 _)).trans ?_
  refine .trans seq_push ?_
  refine (pre1 (ref02_Reach_r13 first rows k_ stride pad size s1534 s1556 _)).trans ?_
  refine (cond_e (b := (ref02_Reach_r13_p stride pad size s1534 s1556)) (st' := (S82_6 first rows k_ stride pad size s1534 s1556)) ).trans (bif_g ?_ ?_)
  · refine ((exit_eq (j := 3))).trans ?_
    refine seqC_exit.trans ?_
    refine block_same.trans ?_
    refine (seqC_normal (st' := (S82_5 first rows k_ stride pad size s1534 s1556))).trans ?_
    kernel_rfl
  · refine (skip_eq).trans ?_
    refine (seqC_normal (st' := (S82_6 first rows k_ stride pad size s1534 s1556))).trans ?_
    refine .trans seq_push ?_
    refine (ref02_Reach_j14 first rows k_ stride pad size s1534 s1556 _).trans ?_
    refine (pre1 (ref02_Reach_r16 first rows k_ stride pad size s1534 s1556 _)).trans ?_
    refine (ref02_Reach_r17 first rows k_ stride pad size s1534 s1556 _).trans ?_
    refine block_normal.trans ?_
    refine (seqC_normal (st' := (S82_10 first rows k_ stride pad size s1534 s1556))).trans ?_
    kernel_rfl
theorem ref02_Reach_r11 : R82 C82.r.r.r.r.r.l.r.b.b.r.l.b.r.b.b.r.r (S82_11 first rows k_ stride pad size s1534 s1556) q = q .normal ⟨[(0, ri first), (1, ri rows), (2, ri k_), (3, ri stride), (4, ri pad), (5, ri size), (15, ri ((ref02_Reach_j12_p stride pad size s1534 s1556).1)), (16, ri ((ref02_Reach_j12_p stride pad size s1534 s1556).2)), (17, ri s1534.2.2), (18, ri (IntKind.wrap .i64 (s1556.2.2 + 1)))], [], [], 82⟩ := by kernel_rfl
def ref02_Reach_l10_p : Option ((Int × Int × Int) ⊕ (Int × Int × Int)) := (bif (decide (s1556.2.2 < k_)) then (some (Sum.inl ((ref02_Reach_j12_p stride pad size s1534 s1556).1, (ref02_Reach_j12_p stride pad size s1534 s1556).2, (IntKind.wrap .i64 (s1556.2.2 + 1))))) else (some (Sum.inr s1556)))
abbrev S82_12 : St := ⟨[(0, ri first), (1, ri rows), (2, ri k_), (3, ri stride), (4, ri pad), (5, ri size), (15, ri y1564.1), (16, ri y1564.2.1), (17, ri s1534.2.2), (18, ri y1564.2.2)], [], [], 82⟩
theorem ref02_Reach_l10_b : R82 C82.r.r.r.r.r.l.r.b.b.r.l.b.r.b.b (S82_5 first rows k_ stride pad size s1534 s1556) (loopKont 0 q) = Option.bind (ref02_Reach_l10_p k_ stride pad size s1534 s1556) (either (fun y : (Int × Int × Int) => q .normal ⟨[(0, ri first), (1, ri rows), (2, ri k_), (3, ri stride), (4, ri pad), (5, ri size), (15, ri y.1), (16, ri y.2.1), (17, ri s1534.2.2), (18, ri y.2.2)], [], [], 82⟩) (fun y1564 : (Int × Int × Int) => q (.exit 2) (S82_12 first rows k_ stride pad size s1534 y1564))) := by
  refine .trans ?_ (bif_b e2_0 e2_1)
  refine .trans seq_push ?_
  refine (pre1 (ref02_Reach_fzx2 first rows k_ stride pad size s1534 s1556 _)).trans ?_
  refine (cond_e (b := (decide (s1556.2.2 < k_))) (st' := (S82_5 first rows k_ stride pad size s1534 s1556)) ).trans (bif_g ?_ ?_)
  · refine (skip_eq).trans ?_
    refine (seqC_normal (st' := (S82_5 first rows k_ stride pad size s1534 s1556))).trans ?_
    refine .trans seq_push ?_
    refine (ref02_Reach_j12 first rows k_ stride pad size s1534 s1556 _).trans ?_
    refine (ref02_Reach_r11 first rows k_ stride pad size s1534 s1556 _).trans ?_
    kernel_rfl
  · refine ((exit_eq (j := 2))).trans ?_
    refine seqC_exit.trans ?_
    kernel_rfl
theorem ref02_Reach_l10 : R82 C82.r.r.r.r.r.l.r.b.b.r.l.b.r.b (S82_4 first rows k_ stride pad size s1534) q = Option.bind (iterN (ref02_Reach_l10_p k_ stride pad size s1534) LL (s1534.1, s1534.2.1, (0 : Int))) (fun y1564 : (Int × Int × Int) => q (.exit 2) (S82_12 first rows k_ stride pad size s1534 y1564)) :=
  Eq.trans (by kernel_rfl) (loop_iter1 (S := fun s1556 : (Int × Int × Int) => (S82_5 first rows k_ stride pad size s1534 s1556)) (Y1 := fun y1564 : (Int × Int × Int) => ((.exit 2), (S82_12 first rows k_ stride pad size s1534 y1564))) (fun s q => ref02_Reach_l10_b first rows k_ stride pad size s1534 s q) (fun z => rfl) LL (s1534.1, s1534.2.1, (0 : Int)))
abbrev S82_13 : St := ⟨[(0, ri first), (1, ri rows), (2, ri k_), (3, ri stride), (4, ri pad), (5, ri size), (15, ri y1564.1), (16, ri y1564.2.1), (17, ri s1534.2.2)], [], [], 82⟩
theorem ref02_Reach_r8 : R82 C82.r.r.r.r.r.l.r.b.b.r.r (S82_13 first rows k_ stride pad size s1534 y1564) q = q .normal ⟨[(0, ri first), (1, ri rows), (2, ri k_), (3, ri stride), (4, ri pad), (5, ri size), (15, ri y1564.1), (16, ri y1564.2.1), (17, ri (IntKind.wrap .i64 (s1534.2.2 + 1)))], [], [], 82⟩ := by kernel_rfl
def ref02_Reach_l7_p : Option ((Int × Int × Int) ⊕ (Int × Int × Int)) := (bif (decide (s1534.2.2 < (IntKind.wrap .i64 (first + rows)))) then (Option.bind (iterN (ref02_Reach_l10_p k_ stride pad size s1534) LL (s1534.1, s1534.2.1, (0 : Int))) (fun y1564 : (Int × Int × Int) => (some (Sum.inl (y1564.1, y1564.2.1, (IntKind.wrap .i64 (s1534.2.2 + 1))))))) else (some (Sum.inr s1534)))
abbrev S82_14 : St := ⟨[(0, ri first), (1, ri rows), (2, ri k_), (3, ri stride), (4, ri pad), (5, ri size), (15, ri y1565.1), (16, ri y1565.2.1), (17, ri y1565.2.2)], [], [], 82⟩
theorem ref02_Reach_l7_b : R82 C82.r.r.r.r.r.l.r.b.b (S82_3 first rows k_ stride pad size s1534) (loopKont 0 q) = Option.bind (ref02_Reach_l7_p first rows k_ stride pad size s1534) (either (fun y : (Int × Int × Int) => q .normal ⟨[(0, ri first), (1, ri rows), (2, ri k_), (3, ri stride), (4, ri pad), (5, ri size), (15, ri y.1), (16, ri y.2.1), (17, ri y.2.2)], [], [], 82⟩) (fun y1565 : (Int × Int × Int) => q (.exit 0) (S82_14 first rows k_ stride pad size y1565))) := by
  refine .trans ?_ (bif_b (bind_b fun y1564 => e2_0) e2_1)
  refine .trans seq_push ?_
  refine (pre1 (ref02_Reach_fzx1 first rows k_ stride pad size s1534 _)).trans ?_
  refine (cond_e (b := (decide (s1534.2.2 < (IntKind.wrap .i64 (first + rows))))) (st' := (S82_3 first rows k_ stride pad size s1534)) ).trans (bif_g ?_ ?_)
  · refine (skip_eq).trans ?_
    refine (seqC_normal (st' := (S82_3 first rows k_ stride pad size s1534))).trans ?_
    refine .trans seq_push ?_
    refine (block_push (id := 1)).trans ?_
    refine (pre1 (ref02_Reach_f10 first rows k_ stride pad size s1534 _)).trans ?_
    refine (block_push (id := 2)).trans ?_
    refine (ref02_Reach_l10 first rows k_ stride pad size s1534 _).trans (bind_g fun y1564 => ?_)
    refine block_same.trans ?_
    refine block_normal.trans ?_
    refine (seqC_normal (st' := (S82_13 first rows k_ stride pad size s1534 y1564))).trans ?_
    refine (ref02_Reach_r8 first rows k_ stride pad size s1534 y1564 _).trans ?_
    kernel_rfl
  · refine ((exit_eq (j := 0))).trans ?_
    refine seqC_exit.trans ?_
    kernel_rfl
theorem ref02_Reach_l7 : R82 C82.r.r.r.r.r.l.r.b (S82_2 first rows k_ stride pad size) q = Option.bind (iterN (ref02_Reach_l7_p first rows k_ stride pad size) LL ((0 : Int), (0 : Int), first)) (fun y1565 : (Int × Int × Int) => q (.exit 0) (S82_14 first rows k_ stride pad size y1565)) :=
  Eq.trans (by kernel_rfl) (loop_iter1 (S := fun s1534 : (Int × Int × Int) => (S82_3 first rows k_ stride pad size s1534)) (Y1 := fun y1565 : (Int × Int × Int) => ((.exit 0), (S82_14 first rows k_ stride pad size y1565))) (fun s q => ref02_Reach_l7_b first rows k_ stride pad size s q) (fun z => rfl) LL ((0 : Int), (0 : Int), first))
theorem ref02_Reach_fzx3 : P82 1 C82.r.r.r.r.r.r ⟨[(15, ri y1565.1), (16, ri y1565.2.1)], [], [], 82⟩ k = k ⟨[(12, ri y1565.1), (13, ri y1565.2.1)], [], [], 82⟩ := by kernel_rfl
/-- quilt/quiltref02.Reach -/
def ref02_Reach : Option (Int × Int) := (Option.bind (ref02_Out size k_ stride pad) (fun y1441 : Int => (bif (ref02_Reach_r4_p first rows y1441) then (some ((0 : Int), (0 : Int))) else (Option.bind (iterN (ref02_Reach_l7_p first rows k_ stride pad size) LL ((0 : Int), (0 : Int), first)) (fun y1565 : (Int × Int × Int) => (some (y1565.1, y1565.2.1)))))))
theorem ref02_Reach_is : stepS E cp78 ce4 24 [ri first, ri rows, ri k_, ri stride, ri pad, ri size] = Option.bind (ref02_Reach first rows k_ stride pad size) (fun y : (Int × Int) => some (.tup [ri y.1, ri y.2] : R)) := by
  refine .trans ?_ (bind_b fun y1441 => (bif_b some_b (bind_b fun y1565 => some_b)))
  refine (stepG_is (nt := 82) (regs := [(0, ri first), (1, ri rows), (2, ri k_), (3, ri stride), (4, ri pad), (5, ri size)])).trans ?_
  refine (pre2 (ref02_Reach_r1 first rows k_ stride pad size _)).trans (bind_g fun y1441 => ?_)
  refine (pre2 (ref02_Reach_f4 first rows k_ stride pad size y1441 _)).trans ?_
  refine .trans seq_push ?_
  refine (pre1 (ref02_Reach_r4 first rows k_ stride pad size y1441 _)).trans ?_
  refine (cond_e (b := (ref02_Reach_r4_p first rows y1441)) (st' := (S82_1 first rows k_ stride pad size)) ).trans (bif_g ?_ ?_)
  · refine (pre1 (ref02_Reach_fz first rows k_ stride pad size _)).trans ?_
    refine (ret_eq).trans ?_
    refine seqC_ret.trans ?_
    kernel_rfl
  · refine (skip_eq).trans ?_
    refine (seqC_normal (st' := (S82_1 first rows k_ stride pad size))).trans ?_
    refine .trans seq_push ?_
    refine (pre1 (ref02_Reach_f7 first rows k_ stride pad size _)).trans ?_
    refine (block_push (id := 0)).trans ?_
    refine (ref02_Reach_l7 first rows k_ stride pad size _).trans (bind_g fun y1565 => ?_)
    refine block_same.trans ?_
    refine (seqC_normal (st' := ⟨[(15, ri y1565.1), (16, ri y1565.2.1)], [], [], 82⟩)).trans ?_
    refine (pre1 (ref02_Reach_fzx3 y1565 _)).trans ?_
    refine (ret_eq).trans ?_
    kernel_rfl
noncomputable def cp79 : CallP := withC cp78 24 [pI, pI, pI, pI, pI, pI] (.tup [pI, pI]) (fun y : (Int × Int) => (y.1, y.2, ())) (fun x => ref02_Reach x.1 x.2.1 x.2.2.1 x.2.2.2.1 x.2.2.2.2.1 x.2.2.2.2.2.1)
theorem cp79_ok : PureOK E cp79 := conS eok cp78_ok ce4_ok fun x => Eq.mp (by kernel_rfl) (ref02_Reach_is x.1 x.2.1 x.2.2.1 x.2.2.2.1 x.2.2.2.2.1 x.2.2.2.2.2.1)
end
end Go.V.P
