/- What functions compute. -/
import Derived.Test.YtlmhfffnobgipaaPl3
namespace Go.V.P
open Go.RowKit Go.V Go.Proofs
set_option linter.unusedVariables false
set_option maxRecDepth 100000
section
variable {α β : Type} (n_ : Node) (l_ : (List I4)) (k : St → Option α) (q : Kont α)
noncomputable abbrev C57 := codeOf E.P 37
noncomputable abbrev P57 := @preK α E 37 cp54 ce3
noncomputable abbrev R57 := @runCode α E 37 cp54 ce3
noncomputable abbrev Q57 := @seqC α E 37 cp54 ce3
def ref03_made_r1_p : Option Unit := (bif (decide ((0 : Int) < (l_.length : Int))) then (some ()) else none)
abbrev S57_0 : St := ⟨[(1, rl tsI4 l_), (2, rC tsNode n_), (4, rF 0), (5, rF 1)], [[di 0, di 0, di 0], [di ((gt l_ (0 : Int) dI4).1), di ((gt l_ (0 : Int) dI4).2.1), di ((gt l_ (0 : Int) dI4).2.2.1)]], [], 117⟩
theorem ref03_made_r1 : P57 2 C57 ⟨[(0, rA tsNode n_), (1, rl tsI4 l_)], [], [], 117⟩ k = Option.bind (ref03_made_r1_p l_) (fun y928 : Unit => k (S57_0 n_ l_)) := .trans (by kernel_rfl) (bif_b some_b none_b)
abbrev S57_1 : St := ⟨[(1, rl tsI4 l_), (2, rC tsNode n_), (4, rF 0), (5, rF 1), (12, ri n_.1)], [[di 0, di 0, di 0], [di ((gt l_ (0 : Int) dI4).1), di ((gt l_ (0 : Int) dI4).2.1), di ((gt l_ (0 : Int) dI4).2.2.1)]], [], 117⟩
theorem ref03_made_f3 : P57 1 C57.r.r.l (S57_0 n_ l_) k = k (S57_1 n_ l_) := by kernel_rfl
abbrev S57_2 : St := ⟨[(1, rl tsI4 l_), (2, rC tsNode n_), (4, rF 0), (5, rF 1), (12, ri n_.1), (13, rb (n_.1 == 1))], [[di 0, di 0, di 0], [di ((gt l_ (0 : Int) dI4).1), di ((gt l_ (0 : Int) dI4).2.1), di ((gt l_ (0 : Int) dI4).2.2.1)]], [], 117⟩
theorem ref03_made_f2000004 : P57 1 C57.r.r.l.r.b.l (S57_1 n_ l_) k = k (S57_2 n_ l_) := by kernel_rfl
abbrev S57_3 : St := ⟨[(1, rl tsI4 l_), (2, rC tsNode n_), (4, rF 0), (5, rF 1), (12, ri n_.1), (13, rb (n_.1 == 2))], [[di 0, di 0, di 0], [di ((gt l_ (0 : Int) dI4).1), di ((gt l_ (0 : Int) dI4).2.1), di ((gt l_ (0 : Int) dI4).2.2.1)]], [], 117⟩
theorem ref03_made_f2000005 : P57 1 C57.r.r.l.r.b.l.r.e (S57_2 n_ l_) k = k (S57_3 n_ l_) := by kernel_rfl
abbrev S57_4 : St := ⟨[(1, rl tsI4 l_), (2, rC tsNode n_), (4, rF 0), (5, rF 1), (12, ri n_.1), (13, rb (n_.1 == 4))], [[di 0, di 0, di 0], [di ((gt l_ (0 : Int) dI4).1), di ((gt l_ (0 : Int) dI4).2.1), di ((gt l_ (0 : Int) dI4).2.2.1)]], [], 117⟩
theorem ref03_made_f2000006 : P57 1 C57.r.r.l.r.b.l.r.e.r.e (S57_3 n_ l_) k = k (S57_4 n_ l_) := by kernel_rfl
abbrev S57_5 : St := ⟨[(1, rl tsI4 l_), (2, rC tsNode n_), (4, rF 0), (5, rF 1), (12, ri n_.1), (13, rb (n_.1 == 5))], [[di 0, di 0, di 0], [di ((gt l_ (0 : Int) dI4).1), di ((gt l_ (0 : Int) dI4).2.1), di ((gt l_ (0 : Int) dI4).2.2.1)]], [], 117⟩
theorem ref03_made_r6 : R57 C57.r.r.l.r.b.l.r.e.r.e.r.e (S57_4 n_ l_) q = q .normal (S57_5 n_ l_) := by kernel_rfl
def ref03_made_j3_q (K : Bool → β) : β := (bif (n_.1 == 1) then (K (n_.1 == 1)) else (bif (n_.1 == 2) then (K (n_.1 == 2)) else (bif (n_.1 == 4) then (K (n_.1 == 4)) else (K (n_.1 == 5)))))
def ref03_made_j3_p : Bool := ref03_made_j3_q n_ (fun y => y)
theorem ref03_made_j3_n (K : Bool → β) : ref03_made_j3_q n_ K = K (ref03_made_j3_p n_) := (bif_k K rfl (bif_k K rfl (bif_k K rfl rfl)))
abbrev S57_6 : St := ⟨[(1, rl tsI4 l_), (2, rC tsNode n_), (4, rF 0), (5, rF 1), (12, ri n_.1), (13, rb (ref03_made_j3_p n_))], [[di 0, di 0, di 0], [di ((gt l_ (0 : Int) dI4).1), di ((gt l_ (0 : Int) dI4).2.1), di ((gt l_ (0 : Int) dI4).2.2.1)]], [], 117⟩
theorem ref03_made_j3 : R57 C57.r.r.l.r.b.l (S57_1 n_ l_) (Q57 C57.r.r.l.r.b.r q) = R57 C57.r.r.l.r.b.r (S57_6 n_ l_) q := by
  refine Eq.trans ?_ (ref03_made_j3_n n_ (fun y929 : Bool => R57 C57.r.r.l.r.b.r ⟨[(1, rl tsI4 l_), (2, rC tsNode n_), (4, rF 0), (5, rF 1), (12, ri n_.1), (13, rb y929)], [[di 0, di 0, di 0], [di ((gt l_ (0 : Int) dI4).1), di ((gt l_ (0 : Int) dI4).2.1), di ((gt l_ (0 : Int) dI4).2.2.1)]], [], 117⟩ q))
  unfold ref03_made_j3_q
  refine (pre1 (ref03_made_f2000004 n_ l_ _)).trans ?_
  refine (cond_s (b := (n_.1 == 1)) ).trans (bif_g ?_ ?_)
  · refine (skip_eq).trans ?_
    refine (seqC_normal (st' := (S57_2 n_ l_))).trans ?_
    kernel_rfl
  · refine (pre1 (ref03_made_f2000005 n_ l_ _)).trans ?_
    refine (cond_s (b := (n_.1 == 2)) ).trans (bif_g ?_ ?_)
    · refine (skip_eq).trans ?_
      refine (seqC_normal (st' := (S57_3 n_ l_))).trans ?_
      kernel_rfl
    · refine (pre1 (ref03_made_f2000006 n_ l_ _)).trans ?_
      refine (cond_s (b := (n_.1 == 4)) ).trans (bif_g ?_ ?_)
      · refine (skip_eq).trans ?_
        refine (seqC_normal (st' := (S57_4 n_ l_))).trans ?_
        kernel_rfl
      · refine (ref03_made_r6 n_ l_ _).trans ?_
        refine (seqC_normal (st' := (S57_5 n_ l_))).trans ?_
        kernel_rfl
abbrev S57_7 : St := ⟨[(2, rC tsNode n_), (4, rF 0), (5, rF 1), (6, ri ((gt l_ (0 : Int) dI4).2.2.1))], [[di 0, di 0, di 0], [di ((gt l_ (0 : Int) dI4).1), di ((gt l_ (0 : Int) dI4).2.1), di ((gt l_ (0 : Int) dI4).2.2.1)]], [], 117⟩
theorem ref03_made_f8 : P57 1 C57.r.r.l.r.b.r.t (S57_6 n_ l_) k = k (S57_7 n_ l_) := by kernel_rfl
theorem ref03_made_f1000009 : P57 1 C57.r.r.l.r.b.r.t.r.l (S57_7 n_ l_) k = k ⟨[(2, rC tsNode n_), (4, rF 0), (5, rF 1), (6, ri ((gt l_ (0 : Int) dI4).2.2.1)), (22, rb (n_.1 == 1))], [[di 0, di 0, di 0], [di ((gt l_ (0 : Int) dI4).1), di ((gt l_ (0 : Int) dI4).2.1), di ((gt l_ (0 : Int) dI4).2.2.1)]], [], 117⟩ := by kernel_rfl
abbrev S57_8 : St := ⟨[(2, rC tsNode n_), (4, rF 0), (5, rF 1), (6, ri n_.2.2.2.2.2.1)], [[di 0, di 0, di 0], [di ((gt l_ (0 : Int) dI4).1), di ((gt l_ (0 : Int) dI4).2.1), di ((gt l_ (0 : Int) dI4).2.2.1)]], [], 117⟩
theorem ref03_made_r9 : R57 C57.r.r.l.r.b.r.t.r.l.r.t (S57_7 n_ l_) q = q .normal (S57_8 n_ l_) := by kernel_rfl
def ref03_made_j8_q (K : Int → β) : β := (bif (n_.1 == 1) then (K n_.2.2.2.2.2.1) else (K ((gt l_ (0 : Int) dI4).2.2.1)))
def ref03_made_j8_p : Int := ref03_made_j8_q n_ l_ (fun y => y)
theorem ref03_made_j8_n (K : Int → β) : ref03_made_j8_q n_ l_ K = K (ref03_made_j8_p n_ l_) := (bif_k K rfl rfl)
abbrev S57_9 : St := ⟨[(2, rC tsNode n_), (4, rF 0), (5, rF 1), (6, ri (ref03_made_j8_p n_ l_))], [[di 0, di 0, di 0], [di ((gt l_ (0 : Int) dI4).1), di ((gt l_ (0 : Int) dI4).2.1), di ((gt l_ (0 : Int) dI4).2.2.1)]], [], 117⟩
theorem ref03_made_j8 : R57 C57.r.r.l.r.b.r.t.r.l (S57_7 n_ l_) (Q57 C57.r.r.l.r.b.r.t.r.r q) = R57 C57.r.r.l.r.b.r.t.r.r (S57_9 n_ l_) q := by
  refine Eq.trans ?_ (ref03_made_j8_n n_ l_ (fun y930 : Int => R57 C57.r.r.l.r.b.r.t.r.r ⟨[(2, rC tsNode n_), (4, rF 0), (5, rF 1), (6, ri y930)], [[di 0, di 0, di 0], [di ((gt l_ (0 : Int) dI4).1), di ((gt l_ (0 : Int) dI4).2.1), di ((gt l_ (0 : Int) dI4).2.2.1)]], [], 117⟩ q))
  unfold ref03_made_j8_q
  refine (pre1 (ref03_made_f1000009 n_ l_ _)).trans ?_
  refine (cond_e (b := (n_.1 == 1)) (st' := (S57_7 n_ l_)) ).trans (bif_g ?_ ?_)
  · refine (ref03_made_r9 n_ l_ _).trans ?_
    refine (seqC_normal (st' := (S57_8 n_ l_))).trans ?_
    kernel_rfl
  · refine (skip_eq).trans ?_
    refine (seqC_normal (st' := (S57_7 n_ l_))).trans ?_
    kernel_rfl
def ref03_made_r10_p : Option (Int × Int) := (Option.bind (ref02_Out ((gt l_ (0 : Int) dI4).1) n_.2.2.1 n_.2.2.2.1 n_.2.2.2.2.1) (fun y943 : Int => (Option.bind (ref02_Out ((gt l_ (0 : Int) dI4).2.1) n_.2.2.1 n_.2.2.2.1 n_.2.2.2.2.1) (fun y944 : Int => (some (y943, y944))))))
theorem ref03_made_r10 : P57 1 C57.r.r.l.r.b.r.t.r.r (S57_9 n_ l_) k = Option.bind (ref03_made_r10_p n_ l_) (fun y945 : (Int × Int) => k ⟨[(4, rF 0)], [[di y945.1, di y945.2, di (ref03_made_j8_p n_ l_)], []], [], 117⟩) := .trans (by kernel_rfl) (bind_b fun y943 => (bind_b fun y944 => some_b))
theorem ref03_made_f1000012 : P57 1 C57.r.r.l.r.b.r.e (S57_6 n_ l_) k = k ⟨[(1, rl tsI4 l_), (2, rC tsNode n_), (4, rF 0), (5, rF 1), (12, ri n_.1), (45, rb (n_.1 == 3))], [[di 0, di 0, di 0], [di ((gt l_ (0 : Int) dI4).1), di ((gt l_ (0 : Int) dI4).2.1), di ((gt l_ (0 : Int) dI4).2.2.1)]], [], 117⟩ := by kernel_rfl
theorem ref03_made_fz : P57 1 C57.r.r.l.r.b.r.e.r.t (S57_1 n_ l_) k = k ⟨[(4, rF 0)], [[di 1, di 1, di n_.2.2.2.2.2.1], []], [], 117⟩ := by kernel_rfl
abbrev S57_10 : St := ⟨[(1, rl tsI4 l_), (2, rC tsNode n_), (4, rF 0), (5, rF 1), (12, ri n_.1), (50, rb (n_.1 == 6))], [[di 0, di 0, di 0], [di ((gt l_ (0 : Int) dI4).1), di ((gt l_ (0 : Int) dI4).2.1), di ((gt l_ (0 : Int) dI4).2.2.1)]], [], 117⟩
theorem ref03_made_f2000014 : P57 1 C57.r.r.l.r.b.r.e.r.e.l (S57_1 n_ l_) k = k (S57_10 n_ l_) := by kernel_rfl
abbrev S57_11 : St := ⟨[(1, rl tsI4 l_), (2, rC tsNode n_), (4, rF 0), (5, rF 1), (12, ri n_.1), (50, rb (n_.1 == 7))], [[di 0, di 0, di 0], [di ((gt l_ (0 : Int) dI4).1), di ((gt l_ (0 : Int) dI4).2.1), di ((gt l_ (0 : Int) dI4).2.2.1)]], [], 117⟩
theorem ref03_made_r14 : R57 C57.r.r.l.r.b.r.e.r.e.l.r.e (S57_10 n_ l_) q = q .normal (S57_11 n_ l_) := by kernel_rfl
def ref03_made_j13_q (K : Bool → β) : β := (bif (n_.1 == 6) then (K (n_.1 == 6)) else (K (n_.1 == 7)))
def ref03_made_j13_p : Bool := ref03_made_j13_q n_ (fun y => y)
theorem ref03_made_j13_n (K : Bool → β) : ref03_made_j13_q n_ K = K (ref03_made_j13_p n_) := (bif_k K rfl rfl)
abbrev S57_12 : St := ⟨[(1, rl tsI4 l_), (2, rC tsNode n_), (4, rF 0), (5, rF 1), (12, ri n_.1), (50, rb (ref03_made_j13_p n_))], [[di 0, di 0, di 0], [di ((gt l_ (0 : Int) dI4).1), di ((gt l_ (0 : Int) dI4).2.1), di ((gt l_ (0 : Int) dI4).2.2.1)]], [], 117⟩
theorem ref03_made_j13 : R57 C57.r.r.l.r.b.r.e.r.e.l (S57_1 n_ l_) (Q57 C57.r.r.l.r.b.r.e.r.e.r q) = R57 C57.r.r.l.r.b.r.e.r.e.r (S57_12 n_ l_) q := by
  refine Eq.trans ?_ (ref03_made_j13_n n_ (fun y946 : Bool => R57 C57.r.r.l.r.b.r.e.r.e.r ⟨[(1, rl tsI4 l_), (2, rC tsNode n_), (4, rF 0), (5, rF 1), (12, ri n_.1), (50, rb y946)], [[di 0, di 0, di 0], [di ((gt l_ (0 : Int) dI4).1), di ((gt l_ (0 : Int) dI4).2.1), di ((gt l_ (0 : Int) dI4).2.2.1)]], [], 117⟩ q))
  unfold ref03_made_j13_q
  refine (pre1 (ref03_made_f2000014 n_ l_ _)).trans ?_
  refine (cond_s (b := (n_.1 == 6)) ).trans (bif_g ?_ ?_)
  · refine (skip_eq).trans ?_
    refine (seqC_normal (st' := (S57_10 n_ l_))).trans ?_
    kernel_rfl
  · refine (ref03_made_r14 n_ l_ _).trans ?_
    refine (seqC_normal (st' := (S57_11 n_ l_))).trans ?_
    kernel_rfl
def ref03_made_r15_p : Option Bool := (bif (decide ((1 : Int) < (l_.length : Int))) then (some (!((((gt l_ (1 : Int) dI4).1) == ((gt l_ (0 : Int) dI4).1)) && ((((gt l_ (1 : Int) dI4).2.1) == ((gt l_ (0 : Int) dI4).2.1)) && ((((gt l_ (1 : Int) dI4).2.2.1) == ((gt l_ (0 : Int) dI4).2.2.1)) && true))))) else none)
theorem ref03_made_r15 : P57 1 C57.r.r.l.r.b.r.e.r.e.r.t (S57_12 n_ l_) k = Option.bind (ref03_made_r15_p l_) (fun y947 : Bool => k ⟨[(4, rF 0), (5, rF 1), (58, rb y947)], [[di 0, di 0, di 0], [di ((gt l_ (0 : Int) dI4).1), di ((gt l_ (0 : Int) dI4).2.1), di ((gt l_ (0 : Int) dI4).2.2.1)]], [], 117⟩) := .trans (by kernel_rfl) (bif_b some_b none_b)
abbrev S57_13 : St := ⟨[(4, rF 0), (5, rF 1)], [[di 0, di 0, di 0], [di ((gt l_ (0 : Int) dI4).1), di ((gt l_ (0 : Int) dI4).2.1), di ((gt l_ (0 : Int) dI4).2.2.1)]], [], 117⟩
abbrev S57_14 : St := ⟨[(4, rF 0)], [[di 0, di 0, di 0], []], [], 117⟩
theorem ref03_made_fzx1 : P57 1 C57.r.r.l.r.b.r.e.r.e.r.t.r.t (S57_13 l_) k = k S57_14 := by kernel_rfl
theorem ref03_made_f1000018 : P57 1 C57.r.r.l.r.b.r.e.r.e.r.e (S57_12 n_ l_) k = k ⟨[(1, rl tsI4 l_), (2, rC tsNode n_), (4, rF 0), (5, rF 1), (12, ri n_.1), (60, rb (n_.1 == 9))], [[di 0, di 0, di 0], [di ((gt l_ (0 : Int) dI4).1), di ((gt l_ (0 : Int) dI4).2.1), di ((gt l_ (0 : Int) dI4).2.2.1)]], [], 117⟩ := by kernel_rfl
theorem ref03_made_fzx2 : P57 1 C57.r.r.l.r.b.r.e.r.e.r.e.r.t (S57_1 n_ l_) k = k ⟨[(4, rF 0)], [[di (IntKind.wrap .i64 (((gt l_ (0 : Int) dI4).1) + 2)), di (IntKind.wrap .i64 (((gt l_ (0 : Int) dI4).2.1) + 2)), di ((gt l_ (0 : Int) dI4).2.2.1)], []], [], 117⟩ := by kernel_rfl
theorem ref03_made_f1000020 : P57 1 C57.r.r.l.r.b.r.e.r.e.r.e.r.e (S57_1 n_ l_) k = k ⟨[(1, rl tsI4 l_), (2, rC tsNode n_), (4, rF 0), (5, rF 1), (12, ri n_.1), (71, rb (n_.1 == 10))], [[di 0, di 0, di 0], [di ((gt l_ (0 : Int) dI4).1), di ((gt l_ (0 : Int) dI4).2.1), di ((gt l_ (0 : Int) dI4).2.2.1)]], [], 117⟩ := by kernel_rfl
def ref03_made_r20_p : Option Bool := (bif (decide ((1 : Int) < (l_.length : Int))) then (bif (((gt l_ (1 : Int) dI4).1) != ((gt l_ (0 : Int) dI4).1)) then (some true) else (bif (decide ((1 : Int) < (l_.length : Int))) then (some (((gt l_ (1 : Int) dI4).2.1) != ((gt l_ (0 : Int) dI4).2.1))) else none)) else none)
theorem ref03_made_r20 : P57 1 C57.r.r.l.r.b.r.e.r.e.r.e.r.e.r.t.l (S57_1 n_ l_) k = Option.bind (ref03_made_r20_p l_) (fun y949 : Bool => k ⟨[(1, rl tsI4 l_), (4, rF 0), (5, rF 1), (90, rb y949)], [[di 0, di 0, di 0], [di ((gt l_ (0 : Int) dI4).1), di ((gt l_ (0 : Int) dI4).2.1), di ((gt l_ (0 : Int) dI4).2.2.1)]], [], 117⟩) := .trans (by kernel_rfl) (bif_b (bif_b some_b (bif_b some_b none_b)) none_b)
abbrev S57_15 : St := ⟨[(1, rl tsI4 l_), (4, rF 0), (5, rF 1)], [[di 0, di 0, di 0], [di ((gt l_ (0 : Int) dI4).1), di ((gt l_ (0 : Int) dI4).2.1), di ((gt l_ (0 : Int) dI4).2.2.1)]], [], 117⟩
theorem ref03_made_fzx3 : P57 1 C57.r.r.l.r.b.r.e.r.e.r.e.r.e.r.t.l.r.t (S57_15 l_) k = k S57_14 := by kernel_rfl
def ref03_made_r22_p : Option Unit := (bif (decide ((1 : Int) < (l_.length : Int))) then (some ()) else none)
theorem ref03_made_r22 : P57 1 C57.r.r.l.r.b.r.e.r.e.r.e.r.e.r.t.r (S57_15 l_) k = Option.bind (ref03_made_r22_p l_) (fun y950 : Unit => k ⟨[(4, rF 0)], [[di ((gt l_ (0 : Int) dI4).1), di ((gt l_ (0 : Int) dI4).2.1), di (IntKind.wrap .i64 (((gt l_ (0 : Int) dI4).2.2.1) + ((gt l_ (1 : Int) dI4).2.2.1)))], []], [], 117⟩) := .trans (by kernel_rfl) (bif_b some_b none_b)
theorem ref03_made_f1000024 : P57 1 C57.r.r.l.r.b.r.e.r.e.r.e.r.e.r.e (S57_1 n_ l_) k = k ⟨[(2, rC tsNode n_), (4, rF 0), (5, rF 1), (105, rb (n_.1 == 11))], [[di 0, di 0, di 0], [di ((gt l_ (0 : Int) dI4).1), di ((gt l_ (0 : Int) dI4).2.1), di ((gt l_ (0 : Int) dI4).2.2.1)]], [], 117⟩ := by kernel_rfl
def ref03_made_r24_q (K : Bool → β) : β := (K ((ref02_Size (n_.2.2.2.2.2.2.2.2.2.1, n_.2.2.2.2.2.2.2.2.2.2.1, n_.2.2.2.2.2.2.2.2.2.2.2.1)) != (ref02_Size ((gt l_ (0 : Int) dI4).1, (gt l_ (0 : Int) dI4).2.1, (gt l_ (0 : Int) dI4).2.2.1))))
def ref03_made_r24_p : Bool := ref03_made_r24_q n_ l_ (fun y => y)
theorem ref03_made_r24_n (K : Bool → β) : ref03_made_r24_q n_ l_ K = K (ref03_made_r24_p n_ l_) := rfl
abbrev S57_16 : St := ⟨[(2, rC tsNode n_), (4, rF 0), (5, rF 1)], [[di 0, di 0, di 0], [di ((gt l_ (0 : Int) dI4).1), di ((gt l_ (0 : Int) dI4).2.1), di ((gt l_ (0 : Int) dI4).2.2.1)]], [], 117⟩
theorem ref03_made_r24 : P57 1 C57.r.r.l.r.b.r.e.r.e.r.e.r.e.r.e.r.t.l (S57_16 n_ l_) k = k ⟨[(2, rC tsNode n_), (4, rF 0), (112, rb (ref03_made_r24_p n_ l_))], [[di 0, di 0, di 0], []], [], 117⟩ := Eq.trans (by kernel_rfl) (ref03_made_r24_n n_ l_ (fun y952 : Bool => k ⟨[(2, rC tsNode n_), (4, rF 0), (112, rb y952)], [[di 0, di 0, di 0], []], [], 117⟩))
abbrev S57_17 : St := ⟨[(2, rC tsNode n_), (4, rF 0)], [[di 0, di 0, di 0], []], [], 117⟩
theorem ref03_made_fzx4 : P57 1 C57.r.r.l.r.b.r.e.r.e.r.e.r.e.r.e.r.t.l.r.t (S57_17 n_) k = k S57_14 := by kernel_rfl
theorem ref03_made_fzx5 : P57 1 C57.r.r.l.r.b.r.e.r.e.r.e.r.e.r.e.r.t.r (S57_17 n_) k = k ⟨[(4, rF 0)], [[di n_.2.2.2.2.2.2.2.2.2.1, di n_.2.2.2.2.2.2.2.2.2.2.1, di n_.2.2.2.2.2.2.2.2.2.2.2.1], []], [], 117⟩ := by kernel_rfl
def ref03_made_j2_p : Option (Unit ⊕ (Int × Int × Int)) := (bif (ref03_made_j3_p n_) then (Option.bind (ref03_made_r10_p n_ l_) (fun y945 : (Int × Int) => (some (Sum.inr (y945.1, y945.2, (ref03_made_j8_p n_ l_)))))) else (bif (n_.1 == 3) then (some (Sum.inr ((1 : Int), (1 : Int), n_.2.2.2.2.2.1))) else (bif (ref03_made_j13_p n_) then (Option.bind (ref03_made_r15_p l_) (fun y947 : Bool => (bif y947 then (some (Sum.inr ((0 : Int), (0 : Int), (0 : Int)))) else (some (Sum.inl ()))))) else (bif (n_.1 == 9) then (some (Sum.inr ((IntKind.wrap .i64 (((gt l_ (0 : Int) dI4).1) + 2)), (IntKind.wrap .i64 (((gt l_ (0 : Int) dI4).2.1) + 2)), (gt l_ (0 : Int) dI4).2.2.1))) else (bif (n_.1 == 10) then (Option.bind (ref03_made_r20_p l_) (fun y949 : Bool => (bif y949 then (some (Sum.inr ((0 : Int), (0 : Int), (0 : Int)))) else (Option.bind (ref03_made_r22_p l_) (fun y950 : Unit => (some (Sum.inr ((gt l_ (0 : Int) dI4).1, (gt l_ (0 : Int) dI4).2.1, (IntKind.wrap .i64 (((gt l_ (0 : Int) dI4).2.2.1) + ((gt l_ (1 : Int) dI4).2.2.1))))))))))) else (bif (n_.1 == 11) then (bif (ref03_made_r24_p n_ l_) then (some (Sum.inr ((0 : Int), (0 : Int), (0 : Int)))) else (some (Sum.inr (n_.2.2.2.2.2.2.2.2.2.1, n_.2.2.2.2.2.2.2.2.2.2.1, n_.2.2.2.2.2.2.2.2.2.2.2.1)))) else (some (Sum.inl ()))))))))
theorem ref03_made_j2 : R57 C57.r.r.l (S57_0 n_ l_) (Q57 C57.r.r.r q) = Option.bind (ref03_made_j2_p n_ l_) (either (fun y953 : Unit => R57 C57.r.r.r (S57_13 l_) q) (fun y954 : (Int × Int × Int) => q .ret ⟨[(4, rF 0)], [(tsI3.leaves y954), []], [], 117⟩)) := by
  refine .trans ?_ (bif_b (bind_b fun y945 => e2_1) (bif_b e2_1 (bif_b (bind_b fun y947 => (bif_b e2_1 e2_0)) (bif_b e2_1 (bif_b (bind_b fun y949 => (bif_b e2_1 (bind_b fun y950 => e2_1))) (bif_b (bif_b e2_1 e2_1) e2_0))))))
  refine (pre1 (ref03_made_f3 n_ l_ _)).trans ?_
  refine (block_push (id := 0)).trans ?_
  refine .trans seq_push ?_
  refine (ref03_made_j3 n_ l_ _).trans ?_
  refine (cond_s (b := (ref03_made_j3_p n_)) ).trans (bif_g ?_ ?_)
  · refine (pre1 (ref03_made_f8 n_ l_ _)).trans ?_
    refine .trans seq_push ?_
    refine (ref03_made_j8 n_ l_ _).trans ?_
    refine (pre1 (ref03_made_r10 n_ l_ _)).trans (bind_g fun y945 => ?_)
    refine (ret_eq).trans ?_
    refine block_ret.trans ?_
    refine seqC_ret.trans ?_
    kernel_rfl
  · refine (pre1 (ref03_made_f1000012 n_ l_ _)).trans ?_
    refine (cond_e (b := (n_.1 == 3)) (st' := (S57_1 n_ l_)) ).trans (bif_g ?_ ?_)
    · refine (pre1 (ref03_made_fz n_ l_ _)).trans ?_
      refine (ret_eq).trans ?_
      refine block_ret.trans ?_
      refine seqC_ret.trans ?_
      kernel_rfl
    · refine .trans seq_push ?_
      refine (ref03_made_j13 n_ l_ _).trans ?_
      refine (cond_s (b := (ref03_made_j13_p n_)) ).trans (bif_g ?_ ?_)
      · refine (pre1 (ref03_made_r15 n_ l_ _)).trans (bind_g fun y947 => ?_)
        refine (cond_e (b := y947) (st' := (S57_13 l_)) ).trans (bif_g ?_ ?_)
        · refine (pre1 (ref03_made_fzx1 l_ _)).trans ?_
          refine (ret_eq).trans ?_
          refine block_ret.trans ?_
          refine seqC_ret.trans ?_
          kernel_rfl
        · refine (skip_eq).trans ?_
          refine block_normal.trans ?_
          refine (seqC_normal (st' := (S57_13 l_))).trans ?_
          kernel_rfl
      · refine (pre1 (ref03_made_f1000018 n_ l_ _)).trans ?_
        refine (cond_e (b := (n_.1 == 9)) (st' := (S57_1 n_ l_)) ).trans (bif_g ?_ ?_)
        · refine (pre1 (ref03_made_fzx2 n_ l_ _)).trans ?_
          refine (ret_eq).trans ?_
          refine block_ret.trans ?_
          refine seqC_ret.trans ?_
          kernel_rfl
        · refine (pre1 (ref03_made_f1000020 n_ l_ _)).trans ?_
          refine (cond_e (b := (n_.1 == 10)) (st' := (S57_1 n_ l_)) ).trans (bif_g ?_ ?_)
          · refine .trans seq_push ?_
            refine (pre1 (ref03_made_r20 n_ l_ _)).trans (bind_g fun y949 => ?_)
            refine (cond_e (b := y949) (st' := (S57_15 l_)) ).trans (bif_g ?_ ?_)
            · refine (pre1 (ref03_made_fzx3 l_ _)).trans ?_
              refine (ret_eq).trans ?_
              refine seqC_ret.trans ?_
              refine block_ret.trans ?_
              refine seqC_ret.trans ?_
              kernel_rfl
            · refine (skip_eq).trans ?_
              refine (seqC_normal (st' := (S57_15 l_))).trans ?_
              refine (pre1 (ref03_made_r22 l_ _)).trans (bind_g fun y950 => ?_)
              refine (ret_eq).trans ?_
              refine block_ret.trans ?_
              refine seqC_ret.trans ?_
              kernel_rfl
          · refine (pre1 (ref03_made_f1000024 n_ l_ _)).trans ?_
            refine (cond_e (b := (n_.1 == 11)) (st' := (S57_16 n_ l_)) ).trans (bif_g ?_ ?_)
            · refine .trans seq_push ?_
              refine (pre1 (ref03_made_r24 n_ l_ _)).trans ?_
              refine (cond_e (b := (ref03_made_r24_p n_ l_)) (st' := (S57_17 n_)) ).trans (bif_g ?_ ?_)
              · refine (pre1 (ref03_made_fzx4 n_ _)).trans ?_
                refine (ret_eq).trans ?_
                refine seqC_ret.trans ?_
                refine block_ret.trans ?_
                refine seqC_ret.trans ?_
                kernel_rfl
              · refine (skip_eq).trans ?_
                refine (seqC_normal (st' := (S57_17 n_))).trans ?_
                refine (pre1 (ref03_made_fzx5 n_ _)).trans ?_
                refine (ret_eq).trans ?_
                refine block_ret.trans ?_
                refine seqC_ret.trans ?_
                kernel_rfl
            · refine (skip_eq).trans ?_
              refine block_normal.trans ?_
              refine (seqC_normal (st' := (S57_13 l_))).trans ?_
              kernel_rfl
theorem ref03_made_fzx6 : P57 1 C57.r.r.r (S57_13 l_) k = k ⟨[(4, rF 0)], [[di ((gt l_ (0 : Int) dI4).1), di ((gt l_ (0 : Int) dI4).2.1), di ((gt l_ (0 : Int) dI4).2.2.1)], []], [], 117⟩ := by kernel_rfl
/-- quilt/quiltref03.made -/
def ref03_made : Option I3 := (Option.bind (ref03_made_r1_p l_) (fun y928 : Unit => (Option.bind (ref03_made_j2_p n_ l_) (either (fun y953 : Unit => (some ((gt l_ (0 : Int) dI4).1, (gt l_ (0 : Int) dI4).2.1, (gt l_ (0 : Int) dI4).2.2.1))) (fun y954 : (Int × Int × Int) => (some y954))))))
theorem ref03_made_is : stepS E cp54 ce3 37 [rA tsNode n_, rl tsI4 l_] = Option.bind (ref03_made n_ l_) (fun y : I3 => some (rA tsI3 y : R)) := by
  refine .trans ?_ (bind_b fun y928 => (bind_b (either_b (fun y953 => some_b) (fun y954 => some_b))))
  refine (stepG_is (nt := 117) (regs := [(0, rA tsNode n_), (1, rl tsI4 l_)])).trans ?_
  refine (pre2 (ref03_made_r1 n_ l_ _)).trans (bind_g fun y928 => ?_)
  refine .trans seq_push ?_
  refine (ref03_made_j2 n_ l_ _).trans (bind_g (either_g (fun y953 => ?_) (fun y954 => ?_)))
  · refine (pre1 (ref03_made_fzx6 l_ _)).trans ?_
    refine (ret_eq).trans ?_
    kernel_rfl
  · kernel_rfl
noncomputable def cp55 : CallP := withC cp54 37 [(.agg tsNode), (pL tsI4)] (.one (.agg tsI3)) (fun y : I3 => y) (fun x => ref03_made x.1 x.2.1)
theorem cp55_ok : PureOK E cp55 := conS eok cp54_ok ce3_ok fun x => Eq.mp (by kernel_rfl) (ref03_made_is x.1 x.2.1)
end
section
variable {α β : Type} (n_ : Node) (s_ : I3) (k : St → Option α)
noncomputable abbrev C58 := codeOf E.P 38
noncomputable abbrev P58 := @preK α E 38 cp55 ce3
abbrev S58_0 : St := ⟨[(2, rC tsNode n_), (3, rC tsI3 s_)], [], [], 46⟩
theorem ref03_many_f1 : P58 1 C58 ⟨[(0, rA tsNode n_), (1, rA tsI3 s_)], [], [], 46⟩ k = k (S58_0 n_ s_) := by kernel_rfl
abbrev S58_1 : St := ⟨[(2, rC tsNode n_), (3, rC tsI3 s_), (7, ri n_.1)], [], [], 46⟩
theorem ref03_many_f2 : P58 1 C58.r.l (S58_0 n_ s_) k = k (S58_1 n_ s_) := by kernel_rfl
theorem ref03_many_f1000003 : P58 1 C58.r.l.r.b (S58_1 n_ s_) k = k ⟨[(2, rC tsNode n_), (3, rC tsI3 s_), (7, ri n_.1), (8, rb (n_.1 == 1))], [], [], 46⟩ := by kernel_rfl
def ref03_many_r3_q (K : Int → β) : β := (K (IntKind.wrap .i64 ((IntKind.wrap .i64 ((IntKind.wrap .i64 (n_.2.2.1 * n_.2.2.1)) * s_.2.2)) * n_.2.2.2.2.2.1)))
def ref03_many_r3_p : Int := ref03_many_r3_q n_ s_ (fun y => y)
theorem ref03_many_r3_n (K : Int → β) : ref03_many_r3_q n_ s_ K = K (ref03_many_r3_p n_ s_) := rfl
theorem ref03_many_r3 : P58 1 C58.r.l.r.b.r.t (S58_1 n_ s_) k = k ⟨[(4, ri (ref03_many_r3_p n_ s_)), (5, ri n_.2.2.2.2.2.1)], [], [], 46⟩ := Eq.trans (by kernel_rfl) (ref03_many_r3_n n_ s_ (fun y957 : Int => k ⟨[(4, ri y957), (5, ri n_.2.2.2.2.2.1)], [], [], 46⟩))
theorem ref03_many_f1000005 : P58 1 C58.r.l.r.b.r.e (S58_1 n_ s_) k = k ⟨[(2, rC tsNode n_), (3, rC tsI3 s_), (7, ri n_.1), (23, rb (n_.1 == 2))], [], [], 46⟩ := by kernel_rfl
theorem ref03_many_fz : P58 1 C58.r.l.r.b.r.e.r.t (S58_1 n_ s_) k = k ⟨[(4, ri (IntKind.wrap .i64 ((IntKind.wrap .i64 (n_.2.2.1 * n_.2.2.1)) * s_.2.2))), (5, ri s_.2.2)], [], [], 46⟩ := by kernel_rfl
theorem ref03_many_f1000007 : P58 1 C58.r.l.r.b.r.e.r.e (S58_1 n_ s_) k = k ⟨[(2, rC tsNode n_), (3, rC tsI3 s_), (7, ri n_.1), (35, rb (n_.1 == 3))], [], [], 46⟩ := by kernel_rfl
theorem ref03_many_fzx1 : P58 1 C58.r.l.r.b.r.e.r.e.r.t (S58_1 n_ s_) k = k ⟨[(4, ri (IntKind.wrap .i64 ((ref02_Size s_) * n_.2.2.2.2.2.1))), (5, ri n_.2.2.2.2.2.1)], [], [], 46⟩ := by kernel_rfl
theorem ref03_many_f1000009 : P58 1 C58.r.l.r.b.r.e.r.e.r.e (S58_1 n_ s_) k = k ⟨[(44, rb (n_.1 == 12))], [], [], 46⟩ := by kernel_rfl
theorem ref03_many_fzx2 : P58 1 C58.r.l.r.b.r.e.r.e.r.e.r.t ⟨[], [], [], 46⟩ k = k ⟨[(4, ri 256), (5, ri 0)], [], [], 46⟩ := by kernel_rfl
theorem ref03_many_fzx3 : P58 1 C58.r.r ⟨[], [], [], 46⟩ k = k ⟨[(4, ri 0), (5, ri 0)], [], [], 46⟩ := by kernel_rfl
/-- quilt/quiltref03.many -/
def ref03_many_q (K : (Int × Int) → β) : β := (bif (n_.1 == 1) then (K ((ref03_many_r3_p n_ s_), n_.2.2.2.2.2.1)) else (bif (n_.1 == 2) then (K ((IntKind.wrap .i64 ((IntKind.wrap .i64 (n_.2.2.1 * n_.2.2.1)) * s_.2.2)), s_.2.2)) else (bif (n_.1 == 3) then (K ((IntKind.wrap .i64 ((ref02_Size s_) * n_.2.2.2.2.2.1)), n_.2.2.2.2.2.1)) else (bif (n_.1 == 12) then (K ((256 : Int), (0 : Int))) else (K ((0 : Int), (0 : Int)))))))
def ref03_many : (Int × Int) := ref03_many_q n_ s_ (fun y => y)
theorem ref03_many_n (K : (Int × Int) → β) : ref03_many_q n_ s_ K = K (ref03_many n_ s_) := (bif_k K rfl (bif_k K rfl (bif_k K rfl (bif_k K rfl rfl))))
theorem ref03_many_is : stepS E cp55 ce3 38 [rA tsNode n_, rA tsI3 s_] = (fun y : (Int × Int) => some (.tup [ri y.1, ri y.2] : R)) (ref03_many n_ s_) := by
  refine Eq.trans ?_ (ref03_many_n n_ s_ (fun y : (Int × Int) => some (.tup [ri y.1, ri y.2] : R)))
  refine (stepG_is (nt := 46) (regs := [(0, rA tsNode n_), (1, rA tsI3 s_)])).trans ?_
  unfold ref03_many_q
  refine (pre1 (ref03_many_f1 n_ s_ _)).trans ?_
  refine .trans seq_push ?_
  refine (pre1 (ref03_many_f2 n_ s_ _)).trans ?_
  refine (block_push (id := 0)).trans ?_
  refine (pre1 (ref03_many_f1000003 n_ s_ _)).trans ?_
  refine (cond_e (b := (n_.1 == 1)) (st' := (S58_1 n_ s_)) ).trans (bif_g ?_ ?_)
  · refine (pre1 (ref03_many_r3 n_ s_ _)).trans ?_
    refine (ret_eq).trans ?_
    refine block_ret.trans ?_
    refine seqC_ret.trans ?_
    kernel_rfl
  · refine (pre1 (ref03_many_f1000005 n_ s_ _)).trans ?_
    refine (cond_e (b := (n_.1 == 2)) (st' := (S58_1 n_ s_)) ).trans (bif_g ?_ ?_)
    · refine (pre1 (ref03_many_fz n_ s_ _)).trans ?_
      refine (ret_eq).trans ?_
      refine block_ret.trans ?_
      refine seqC_ret.trans ?_
      kernel_rfl
    · refine (pre1 (ref03_many_f1000007 n_ s_ _)).trans ?_
      refine (cond_e (b := (n_.1 == 3)) (st' := (S58_1 n_ s_)) ).trans (bif_g ?_ ?_)
      · refine (pre1 (ref03_many_fzx1 n_ s_ _)).trans ?_
        refine (ret_eq).trans ?_
        refine block_ret.trans ?_
        refine seqC_ret.trans ?_
        kernel_rfl
      · refine (pre1 (ref03_many_f1000009 n_ s_ _)).trans ?_
        refine (cond_e (b := (n_.1 == 12)) (st' := ⟨[], [], [], 46⟩) ).trans (bif_g ?_ ?_)
        · refine (pre1 (ref03_many_fzx2 _)).trans ?_
          refine (ret_eq).trans ?_
          refine block_ret.trans ?_
          refine seqC_ret.trans ?_
          kernel_rfl
        · refine (skip_eq).trans ?_
          refine block_normal.trans ?_
          refine (seqC_normal (st' := ⟨[], [], [], 46⟩)).trans ?_
          refine (pre1 (ref03_many_fzx3 _)).trans ?_
          refine (ret_eq).trans ?_
          kernel_rfl
noncomputable def cp56 : CallP := withC cp55 38 [(.agg tsNode), (.agg tsI3)] (.tup [pI, pI]) (fun y : (Int × Int) => (y.1, y.2, ())) (fun x => some (ref03_many x.1 x.2.1))
theorem cp56_ok : PureOK E cp56 := conS eok cp55_ok ce3_ok fun x => Eq.mp (by kernel_rfl) (ref03_many_is x.1 x.2.1)
end
section
variable {α β : Type} (n_ : Node) (l_ : (List I4)) (s907 : Int) (s923 : Int) (y955 : I3) (y958 : (Int × Int)) (s972 : Int) (k : St → Option α) (q : Kont α)
noncomputable abbrev C59 := codeOf E.P 28
noncomputable abbrev P59 := @preK α E 28 cp56 ce3
noncomputable abbrev R59 := @runCode α E 28 cp56 ce3
abbrev S59_0 : St := ⟨[(1, rl tsI4 l_), (2, rC tsNode n_), (4, rF 0)], [[di 0, di 0, di 0, di 0]], [], 101⟩
theorem ref03_Value_f1 : P59 1 C59 ⟨[(0, rA tsNode n_), (1, rl tsI4 l_)], [], [], 101⟩ k = k (S59_0 n_ l_) := by kernel_rfl
theorem ref03_Value_f1000002 : P59 1 C59.r.l (S59_0 n_ l_) k = k ⟨[(1, rl tsI4 l_), (2, rC tsNode n_), (4, rF 0), (16, rb (!(ref03_node n_ (l_.length : Int))))], [[di 0, di 0, di 0, di 0]], [], 101⟩ := by kernel_rfl
abbrev S59_1 : St := ⟨[(4, rF 0), (5, ri 11)], [[di 0, di 0, di 0, di 0]], [], 101⟩
theorem ref03_Value_fz : P59 1 C59.r.l.r.t (S59_0 n_ l_) k = k S59_1 := by kernel_rfl
abbrev S59_2 : St := ⟨[(1, rl tsI4 l_), (2, rC tsNode n_), (4, rF 0), (6, ri 0)], [[di 0, di 0, di 0, di 0]], [], 101⟩
theorem ref03_Value_f4 : P59 1 C59.r.r.l (S59_0 n_ l_) k = k (S59_2 n_ l_) := by kernel_rfl
abbrev S59_3 : St := ⟨[(1, rl tsI4 l_), (2, rC tsNode n_), (4, rF 0), (6, ri s907)], [[di 0, di 0, di 0, di 0]], [], 101⟩
theorem ref03_Value_fzx1 : P59 1 C59.r.r.l.r.b.b.l (S59_3 n_ l_ s907) k = k ⟨[(1, rl tsI4 l_), (2, rC tsNode n_), (4, rF 0), (6, ri s907), (21, rb (decide (s907 < (l_.length : Int))))], [[di 0, di 0, di 0, di 0]], [], 101⟩ := by kernel_rfl
def ref03_Value_r6_p : Option Bool := (bif (ref03_keeps n_.1) then (bif (decide ((0 : Int) ≤ s907)) then (bif (decide (s907 < (l_.length : Int))) then (some (((gt l_ s907 dI4).2.2.2) != n_.2.2.2.2.2.2.2.2.1)) else none) else none) else (some false))
theorem ref03_Value_r6 : P59 1 C59.r.r.l.r.b.b.r.l.b (S59_3 n_ l_ s907) k = Option.bind (ref03_Value_r6_p n_ l_ s907) (fun y909 : Bool => k ⟨[(1, rl tsI4 l_), (2, rC tsNode n_), (4, rF 0), (6, ri s907), (36, rb y909)], [[di 0, di 0, di 0, di 0]], [], 101⟩) := .trans (by kernel_rfl) (bif_b (bif_b (bif_b some_b none_b) none_b) some_b)
theorem ref03_Value_fzx2 : P59 1 C59.r.r.l.r.b.b.r.l.b.r.t (S59_3 n_ l_ s907) k = k S59_1 := by kernel_rfl
theorem ref03_Value_r5 : R59 C59.r.r.l.r.b.b.r.r (S59_3 n_ l_ s907) q = q .normal ⟨[(1, rl tsI4 l_), (2, rC tsNode n_), (4, rF 0), (6, ri (IntKind.wrap .i64 (s907 + 1)))], [[di 0, di 0, di 0, di 0]], [], 101⟩ := by kernel_rfl
def ref03_Value_l4_p : Option (Int ⊕ (Int ⊕ Unit)) := (bif (decide (s907 < (l_.length : Int))) then (Option.bind (ref03_Value_r6_p n_ l_ s907) (fun y909 : Bool => (bif y909 then (some (Sum.inr (Sum.inr ()))) else (some (Sum.inl (IntKind.wrap .i64 (s907 + 1))))))) else (some (Sum.inr (Sum.inl s907))))
abbrev S59_4 (y910 : Int) : St := ⟨[(1, rl tsI4 l_), (2, rC tsNode n_), (4, rF 0), (6, ri y910)], [[di 0, di 0, di 0, di 0]], [], 101⟩
theorem ref03_Value_l4_b : R59 C59.r.r.l.r.b.b (S59_3 n_ l_ s907) (loopKont 1 q) = Option.bind (ref03_Value_l4_p n_ l_ s907) (either (fun y : Int => q .normal ⟨[(1, rl tsI4 l_), (2, rC tsNode n_), (4, rF 0), (6, ri y)], [[di 0, di 0, di 0, di 0]], [], 101⟩) (either (fun y910 : Int => q (.exit 0) (S59_4 n_ l_ y910)) (fun y911 : Unit => q .ret S59_1))) := by
  refine .trans ?_ (bif_b (bind_b fun y909 => (bif_b e3_2 e3_0)) e3_1)
  refine .trans seq_push ?_
  refine (pre1 (ref03_Value_fzx1 n_ l_ s907 _)).trans ?_
  refine (cond_e (b := (decide (s907 < (l_.length : Int)))) (st' := (S59_3 n_ l_ s907)) ).trans (bif_g ?_ ?_)
  · refine (skip_eq).trans ?_
    refine (seqC_normal (st' := (S59_3 n_ l_ s907))).trans ?_
    refine .trans seq_push ?_
    refine (block_push (id := 1)).trans ?_
    refine (pre1 (ref03_Value_r6 n_ l_ s907 _)).trans (bind_g fun y909 => ?_)
    refine (cond_e (b := y909) (st' := (S59_3 n_ l_ s907)) ).trans (bif_g ?_ ?_)
    · refine (pre1 (ref03_Value_fzx2 n_ l_ s907 _)).trans ?_
      refine (ret_eq).trans ?_
      refine block_ret.trans ?_
      refine seqC_ret.trans ?_
      kernel_rfl
    · refine (skip_eq).trans ?_
      refine block_normal.trans ?_
      refine (seqC_normal (st' := (S59_3 n_ l_ s907))).trans ?_
      refine (ref03_Value_r5 n_ l_ s907 _).trans ?_
      kernel_rfl
  · refine ((exit_eq (j := 0))).trans ?_
    refine seqC_exit.trans ?_
    kernel_rfl
theorem ref03_Value_l4 : R59 C59.r.r.l.r.b (S59_2 n_ l_) q = Option.bind (iterN (ref03_Value_l4_p n_ l_) LL (0 : Int)) (either (fun y910 : Int => q (.exit 0) (S59_4 n_ l_ y910)) (fun y911 : Unit => q .ret S59_1)) :=
  Eq.trans (by kernel_rfl) (loop_iter2 (S := fun s907 : Int => (S59_3 n_ l_ s907)) (Y1 := fun y910 : Int => ((.exit 0), (S59_4 n_ l_ y910))) (Y2 := fun y911 : Unit => (.ret, S59_1)) (fun s q => ref03_Value_l4_b n_ l_ s q) (fun z => rfl) (fun z => rfl) LL (0 : Int))
abbrev S59_5 : St := ⟨[(1, rl tsI4 l_), (2, rC tsNode n_), (4, rF 0), (7, ri 0)], [[di 0, di 0, di 0, di 0]], [], 101⟩
theorem ref03_Value_f9 : P59 1 C59.r.r.r.l (S59_0 n_ l_) k = k (S59_5 n_ l_) := by kernel_rfl
abbrev S59_6 : St := ⟨[(1, rl tsI4 l_), (2, rC tsNode n_), (4, rF 0), (7, ri s923)], [[di 0, di 0, di 0, di 0]], [], 101⟩
theorem ref03_Value_fzx3 : P59 1 C59.r.r.r.l.r.b.b.l (S59_6 n_ l_ s923) k = k ⟨[(1, rl tsI4 l_), (2, rC tsNode n_), (4, rF 0), (7, ri s923), (41, rb (decide (s923 < (l_.length : Int))))], [[di 0, di 0, di 0, di 0]], [], 101⟩ := by kernel_rfl
def ref03_Value_r11_p : Option Bool := (bif (decide ((0 : Int) ≤ s923)) then (bif (decide (s923 < (l_.length : Int))) then (some ((ref02_May ((gt l_ s923 dI4).1, (gt l_ s923 dI4).2.1, (gt l_ s923 dI4).2.2.1)) != 0)) else none) else none)
theorem ref03_Value_r11 : P59 1 C59.r.r.r.l.r.b.b.r.l.b (S59_6 n_ l_ s923) k = Option.bind (ref03_Value_r11_p l_ s923) (fun y925 : Bool => k ⟨[(1, rl tsI4 l_), (2, rC tsNode n_), (4, rF 0), (7, ri s923), (50, rb y925)], [[di 0, di 0, di 0, di 0]], [], 101⟩) := .trans (by kernel_rfl) (bif_b (bif_b some_b none_b) none_b)
abbrev S59_7 : St := ⟨[(4, rF 0), (5, ri 10)], [[di 0, di 0, di 0, di 0]], [], 101⟩
theorem ref03_Value_fzx4 : P59 1 C59.r.r.r.l.r.b.b.r.l.b.r.t (S59_6 n_ l_ s923) k = k S59_7 := by kernel_rfl
theorem ref03_Value_r10 : R59 C59.r.r.r.l.r.b.b.r.r (S59_6 n_ l_ s923) q = q .normal ⟨[(1, rl tsI4 l_), (2, rC tsNode n_), (4, rF 0), (7, ri (IntKind.wrap .i64 (s923 + 1)))], [[di 0, di 0, di 0, di 0]], [], 101⟩ := by kernel_rfl
def ref03_Value_l9_p : Option (Int ⊕ (Int ⊕ Unit)) := (bif (decide (s923 < (l_.length : Int))) then (Option.bind (ref03_Value_r11_p l_ s923) (fun y925 : Bool => (bif y925 then (some (Sum.inr (Sum.inr ()))) else (some (Sum.inl (IntKind.wrap .i64 (s923 + 1))))))) else (some (Sum.inr (Sum.inl s923))))
abbrev S59_8 (y926 : Int) : St := ⟨[(1, rl tsI4 l_), (2, rC tsNode n_), (4, rF 0), (7, ri y926)], [[di 0, di 0, di 0, di 0]], [], 101⟩
theorem ref03_Value_l9_b : R59 C59.r.r.r.l.r.b.b (S59_6 n_ l_ s923) (loopKont 1 q) = Option.bind (ref03_Value_l9_p l_ s923) (either (fun y : Int => q .normal ⟨[(1, rl tsI4 l_), (2, rC tsNode n_), (4, rF 0), (7, ri y)], [[di 0, di 0, di 0, di 0]], [], 101⟩) (either (fun y926 : Int => q (.exit 2) (S59_8 n_ l_ y926)) (fun y927 : Unit => q .ret S59_7))) := by
  refine .trans ?_ (bif_b (bind_b fun y925 => (bif_b e3_2 e3_0)) e3_1)
  refine .trans seq_push ?_
  refine (pre1 (ref03_Value_fzx3 n_ l_ s923 _)).trans ?_
  refine (cond_e (b := (decide (s923 < (l_.length : Int)))) (st' := (S59_6 n_ l_ s923)) ).trans (bif_g ?_ ?_)
  · refine (skip_eq).trans ?_
    refine (seqC_normal (st' := (S59_6 n_ l_ s923))).trans ?_
    refine .trans seq_push ?_
    refine (block_push (id := 3)).trans ?_
    refine (pre1 (ref03_Value_r11 n_ l_ s923 _)).trans (bind_g fun y925 => ?_)
    refine (cond_e (b := y925) (st' := (S59_6 n_ l_ s923)) ).trans (bif_g ?_ ?_)
    · refine (pre1 (ref03_Value_fzx4 n_ l_ s923 _)).trans ?_
      refine (ret_eq).trans ?_
      refine block_ret.trans ?_
      refine seqC_ret.trans ?_
      kernel_rfl
    · refine (skip_eq).trans ?_
      refine block_normal.trans ?_
      refine (seqC_normal (st' := (S59_6 n_ l_ s923))).trans ?_
      refine (ref03_Value_r10 n_ l_ s923 _).trans ?_
      kernel_rfl
  · refine ((exit_eq (j := 2))).trans ?_
    refine seqC_exit.trans ?_
    kernel_rfl
theorem ref03_Value_l9 : R59 C59.r.r.r.l.r.b (S59_5 n_ l_) q = Option.bind (iterN (ref03_Value_l9_p l_) LL (0 : Int)) (either (fun y926 : Int => q (.exit 2) (S59_8 n_ l_ y926)) (fun y927 : Unit => q .ret S59_7)) :=
  Eq.trans (by kernel_rfl) (loop_iter2 (S := fun s923 : Int => (S59_6 n_ l_ s923)) (Y1 := fun y926 : Int => ((.exit 2), (S59_8 n_ l_ y926))) (Y2 := fun y927 : Unit => (.ret, S59_7)) (fun s q => ref03_Value_l9_b n_ l_ s q) (fun z => rfl) (fun z => rfl) LL (0 : Int))
abbrev S59_9 : St := ⟨[(1, rl tsI4 l_), (2, rC tsNode n_), (4, rF 0), (8, rF 1)], [[di 0, di 0, di 0, di 0], (tsI3.leaves y955)], [], 101⟩
theorem ref03_Value_r13 : P59 1 C59.r.r.r.r (S59_0 n_ l_) k = Option.bind (ref03_made n_ l_) fun y955 : I3 => k (S59_9 n_ l_ y955) := by kernel_rfl
theorem ref03_Value_f1000015 : P59 1 C59.r.r.r.r.r.l (S59_9 n_ l_ y955) k = k ⟨[(1, rl tsI4 l_), (2, rC tsNode n_), (4, rF 0), (8, rF 1), (57, rb ((ref02_May y955) != 0))], [[di 0, di 0, di 0, di 0], (tsI3.leaves y955)], [], 101⟩ := by kernel_rfl
theorem ref03_Value_fzx5 : P59 1 C59.r.r.r.r.r.l.r.t (S59_9 n_ l_ y955) k = k ⟨[(4, rF 0), (5, ri 10)], [[di 0, di 0, di 0, di 0], []], [], 101⟩ := by kernel_rfl
def ref03_Value_r16_p : Option (Int × Int) := (bif (decide ((0 : Int) < (l_.length : Int))) then (some (ref03_many n_ ((gt l_ (0 : Int) dI4).1, (gt l_ (0 : Int) dI4).2.1, (gt l_ (0 : Int) dI4).2.2.1))) else none)
abbrev S59_10 : St := ⟨[(2, rC tsNode n_), (4, rF 0), (8, rF 1), (9, ri y958.1), (10, ri y958.2)], [[di 0, di 0, di 0, di 0], (tsI3.leaves y955)], [], 101⟩
theorem ref03_Value_r16 : P59 1 C59.r.r.r.r.r.r (S59_9 n_ l_ y955) k = Option.bind (ref03_Value_r16_p n_ l_) (fun y958 : (Int × Int) => k (S59_10 n_ y955 y958)) := .trans (by kernel_rfl) (bif_b some_b none_b)
def ref03_Value_r17_q (K : Bool → β) : β := (bif ((n_.2.2.2.2.2.2.2.2.2.2.2.2.1.length : Int) != y958.1) then (K true) else (K ((n_.2.2.2.2.2.2.2.2.2.2.2.2.2.length : Int) != y958.2)))
def ref03_Value_r17_p : Bool := ref03_Value_r17_q n_ y958 (fun y => y)
theorem ref03_Value_r17_n (K : Bool → β) : ref03_Value_r17_q n_ y958 K = K (ref03_Value_r17_p n_ y958) := (bif_k K rfl rfl)
theorem ref03_Value_r17 : P59 1 C59.r.r.r.r.r.r.r.l (S59_10 n_ y955 y958) k = k ⟨[(2, rC tsNode n_), (4, rF 0), (8, rF 1), (79, rb (ref03_Value_r17_p n_ y958))], [[di 0, di 0, di 0, di 0], (tsI3.leaves y955)], [], 101⟩ := Eq.trans (by kernel_rfl) (ref03_Value_r17_n n_ y958 (fun y960 : Bool => k ⟨[(2, rC tsNode n_), (4, rF 0), (8, rF 1), (79, rb y960)], [[di 0, di 0, di 0, di 0], (tsI3.leaves y955)], [], 101⟩))
abbrev S59_11 : St := ⟨[(2, rC tsNode n_), (4, rF 0), (8, rF 1)], [[di 0, di 0, di 0, di 0], (tsI3.leaves y955)], [], 101⟩
abbrev S59_12 : St := ⟨[(4, rF 0), (5, ri 12)], [[di 0, di 0, di 0, di 0], []], [], 101⟩
theorem ref03_Value_fzx6 : P59 1 C59.r.r.r.r.r.r.r.l.r.t (S59_11 n_ y955) k = k S59_12 := by kernel_rfl
abbrev S59_13 : St := ⟨[(2, rC tsNode n_), (4, rF 0), (8, rF 1), (11, ri 0)], [[di 0, di 0, di 0, di 0], (tsI3.leaves y955)], [], 101⟩
theorem ref03_Value_f20 : P59 1 C59.r.r.r.r.r.r.r.r.l (S59_11 n_ y955) k = k (S59_13 n_ y955) := by kernel_rfl
abbrev S59_14 : St := ⟨[(2, rC tsNode n_), (4, rF 0), (8, rF 1), (11, ri s972)], [[di 0, di 0, di 0, di 0], (tsI3.leaves y955)], [], 101⟩
theorem ref03_Value_fzx7 : P59 1 C59.r.r.r.r.r.r.r.r.l.r.b.b.l (S59_14 n_ y955 s972) k = k ⟨[(2, rC tsNode n_), (4, rF 0), (8, rF 1), (11, ri s972), (85, rb (decide (s972 < (n_.2.2.2.2.2.2.2.2.2.2.2.2.2.length : Int))))], [[di 0, di 0, di 0, di 0], (tsI3.leaves y955)], [], 101⟩ := by kernel_rfl
def ref03_Value_r22_p : Option Bool := (bif (decide ((0 : Int) ≤ s972)) then (bif (decide (s972 < (n_.2.2.2.2.2.2.2.2.2.2.2.2.2.length : Int))) then (some (!(ref03_in (IntKind.wrap .i64 (gt n_.2.2.2.2.2.2.2.2.2.2.2.2.2 s972 (0 : Int))) (-16777216 : Int) (16777216 : Int)))) else none) else none)
theorem ref03_Value_r22 : P59 1 C59.r.r.r.r.r.r.r.r.l.r.b.b.r.l.b (S59_14 n_ y955 s972) k = Option.bind (ref03_Value_r22_p n_ s972) (fun y974 : Bool => k ⟨[(2, rC tsNode n_), (4, rF 0), (8, rF 1), (11, ri s972), (95, rb y974)], [[di 0, di 0, di 0, di 0], (tsI3.leaves y955)], [], 101⟩) := .trans (by kernel_rfl) (bif_b (bif_b some_b none_b) none_b)
theorem ref03_Value_fzx8 : P59 1 C59.r.r.r.r.r.r.r.r.l.r.b.b.r.l.b.r.t (S59_14 n_ y955 s972) k = k S59_12 := by kernel_rfl
theorem ref03_Value_r21 : R59 C59.r.r.r.r.r.r.r.r.l.r.b.b.r.r (S59_14 n_ y955 s972) q = q .normal ⟨[(2, rC tsNode n_), (4, rF 0), (8, rF 1), (11, ri (IntKind.wrap .i64 (s972 + 1)))], [[di 0, di 0, di 0, di 0], (tsI3.leaves y955)], [], 101⟩ := by kernel_rfl
def ref03_Value_l20_p : Option (Int ⊕ (Int ⊕ Unit)) := (bif (decide (s972 < (n_.2.2.2.2.2.2.2.2.2.2.2.2.2.length : Int))) then (Option.bind (ref03_Value_r22_p n_ s972) (fun y974 : Bool => (bif y974 then (some (Sum.inr (Sum.inr ()))) else (some (Sum.inl (IntKind.wrap .i64 (s972 + 1))))))) else (some (Sum.inr (Sum.inl s972))))
abbrev S59_15 (y975 : Int) : St := ⟨[(2, rC tsNode n_), (4, rF 0), (8, rF 1), (11, ri y975)], [[di 0, di 0, di 0, di 0], (tsI3.leaves y955)], [], 101⟩
theorem ref03_Value_l20_b : R59 C59.r.r.r.r.r.r.r.r.l.r.b.b (S59_14 n_ y955 s972) (loopKont 2 q) = Option.bind (ref03_Value_l20_p n_ s972) (either (fun y : Int => q .normal ⟨[(2, rC tsNode n_), (4, rF 0), (8, rF 1), (11, ri y)], [[di 0, di 0, di 0, di 0], (tsI3.leaves y955)], [], 101⟩) (either (fun y975 : Int => q (.exit 4) (S59_15 n_ y955 y975)) (fun y976 : Unit => q .ret S59_12))) := by
  refine .trans ?_ (bif_b (bind_b fun y974 => (bif_b e3_2 e3_0)) e3_1)
  refine .trans seq_push ?_
  refine (pre1 (ref03_Value_fzx7 n_ y955 s972 _)).trans ?_
  refine (cond_e (b := (decide (s972 < (n_.2.2.2.2.2.2.2.2.2.2.2.2.2.length : Int)))) (st' := (S59_14 n_ y955 s972)) ).trans (bif_g ?_ ?_)
  · refine (skip_eq).trans ?_
    refine (seqC_normal (st' := (S59_14 n_ y955 s972))).trans ?_
    refine .trans seq_push ?_
    refine (block_push (id := 5)).trans ?_
    refine (pre1 (ref03_Value_r22 n_ y955 s972 _)).trans (bind_g fun y974 => ?_)
    refine (cond_e (b := y974) (st' := (S59_14 n_ y955 s972)) ).trans (bif_g ?_ ?_)
    · refine (pre1 (ref03_Value_fzx8 n_ y955 s972 _)).trans ?_
      refine (ret_eq).trans ?_
      refine block_ret.trans ?_
      refine seqC_ret.trans ?_
      kernel_rfl
    · refine (skip_eq).trans ?_
      refine block_normal.trans ?_
      refine (seqC_normal (st' := (S59_14 n_ y955 s972))).trans ?_
      refine (ref03_Value_r21 n_ y955 s972 _).trans ?_
      kernel_rfl
  · refine ((exit_eq (j := 4))).trans ?_
    refine seqC_exit.trans ?_
    kernel_rfl
theorem ref03_Value_l20 : R59 C59.r.r.r.r.r.r.r.r.l.r.b (S59_13 n_ y955) q = Option.bind (iterN (ref03_Value_l20_p n_) LL (0 : Int)) (either (fun y975 : Int => q (.exit 4) (S59_15 n_ y955 y975)) (fun y976 : Unit => q .ret S59_12)) :=
  Eq.trans (by kernel_rfl) (loop_iter2 (S := fun s972 : Int => (S59_14 n_ y955 s972)) (Y1 := fun y975 : Int => ((.exit 4), (S59_15 n_ y955 y975))) (Y2 := fun y976 : Unit => (.ret, S59_12)) (fun s q => ref03_Value_l20_b n_ y955 s q) (fun z => rfl) (fun z => rfl) LL (0 : Int))
theorem ref03_Value_fzx9 : P59 1 C59.r.r.r.r.r.r.r.r.r (S59_11 n_ y955) k = k ⟨[(4, rF 0), (5, ri 0)], [[di y955.1, di y955.2.1, di y955.2.2, di n_.2.2.2.2.2.2.2.2.1], []], [], 101⟩ := by kernel_rfl
/-- quilt/quiltref03.Value -/
def ref03_Value : Option (I4 × Int) := (bif (!(ref03_node n_ (l_.length : Int))) then (some (((0 : Int), (0 : Int), (0 : Int), (0 : Int)), (11 : Int))) else (Option.bind (iterN (ref03_Value_l4_p n_ l_) LL (0 : Int)) (either (fun y910 : Int => (Option.bind (iterN (ref03_Value_l9_p l_) LL (0 : Int)) (either (fun y926 : Int => (Option.bind (ref03_made n_ l_) (fun y955 : I3 => (bif ((ref02_May y955) != 0) then (some (((0 : Int), (0 : Int), (0 : Int), (0 : Int)), (10 : Int))) else (Option.bind (ref03_Value_r16_p n_ l_) (fun y958 : (Int × Int) => (bif (ref03_Value_r17_p n_ y958) then (some (((0 : Int), (0 : Int), (0 : Int), (0 : Int)), (12 : Int))) else (Option.bind (iterN (ref03_Value_l20_p n_) LL (0 : Int)) (either (fun y975 : Int => (some ((y955.1, y955.2.1, y955.2.2, n_.2.2.2.2.2.2.2.2.1), (0 : Int)))) (fun y976 : Unit => (some (((0 : Int), (0 : Int), (0 : Int), (0 : Int)), (12 : Int))))))))))))) (fun y927 : Unit => (some (((0 : Int), (0 : Int), (0 : Int), (0 : Int)), (10 : Int))))))) (fun y911 : Unit => (some (((0 : Int), (0 : Int), (0 : Int), (0 : Int)), (11 : Int)))))))
theorem ref03_Value_is : stepS E cp56 ce3 28 [rA tsNode n_, rl tsI4 l_] = Option.bind (ref03_Value n_ l_) (fun y : (I4 × Int) => some (.tup [rA tsI4 y.1, ri y.2] : R)) := by
  refine .trans ?_ (bif_b some_b (bind_b (either_b (fun y910 => (bind_b (either_b (fun y926 => (bind_b fun y955 => (bif_b some_b (bind_b fun y958 => (bif_b some_b (bind_b (either_b (fun y975 => some_b) (fun y976 => some_b)))))))) (fun y927 => some_b)))) (fun y911 => some_b))))
  refine (stepG_is (nt := 101) (regs := [(0, rA tsNode n_), (1, rl tsI4 l_)])).trans ?_
  refine (pre1 (ref03_Value_f1 n_ l_ _)).trans ?_
  refine .trans seq_push ?_
  refine (pre1 (ref03_Value_f1000002 n_ l_ _)).trans ?_
  refine (cond_e (b := (!(ref03_node n_ (l_.length : Int)))) (st' := (S59_0 n_ l_)) ).trans (bif_g ?_ ?_)
  · refine (pre1 (ref03_Value_fz n_ l_ _)).trans ?_
    refine (ret_eq).trans ?_
    refine seqC_ret.trans ?_
    kernel_rfl
  · refine (skip_eq).trans ?_
    refine (seqC_normal (st' := (S59_0 n_ l_))).trans ?_
    refine .trans seq_push ?_
    refine (pre1 (ref03_Value_f4 n_ l_ _)).trans ?_
    refine (block_push (id := 0)).trans ?_
    refine (ref03_Value_l4 n_ l_ _).trans (bind_g (either_g (fun y910 => ?_) (fun y911 => ?_)))
    · refine block_same.trans ?_
      refine (seqC_normal (st' := (S59_0 n_ l_))).trans ?_
      refine .trans seq_push ?_
      refine (pre1 (ref03_Value_f9 n_ l_ _)).trans ?_
      refine (block_push (id := 2)).trans ?_
      refine (ref03_Value_l9 n_ l_ _).trans (bind_g (either_g (fun y926 => ?_) (fun y927 => ?_)))
      · refine block_same.trans ?_
        refine (seqC_normal (st' := (S59_0 n_ l_))).trans ?_
        refine (pre1 (ref03_Value_r13 n_ l_ _)).trans (bind_g fun y955 => ?_)
        refine .trans seq_push ?_
        refine (pre1 (ref03_Value_f1000015 n_ l_ y955 _)).trans ?_
        refine (cond_e (b := ((ref02_May y955) != 0)) (st' := (S59_9 n_ l_ y955)) ).trans (bif_g ?_ ?_)
        · refine (pre1 (ref03_Value_fzx5 n_ l_ y955 _)).trans ?_
          refine (ret_eq).trans ?_
          refine seqC_ret.trans ?_
          kernel_rfl
        · refine (skip_eq).trans ?_
          refine (seqC_normal (st' := (S59_9 n_ l_ y955))).trans ?_
          refine (pre1 (ref03_Value_r16 n_ l_ y955 _)).trans (bind_g fun y958 => ?_)
          refine .trans seq_push ?_
          refine (pre1 (ref03_Value_r17 n_ y955 y958 _)).trans ?_
          refine (cond_e (b := (ref03_Value_r17_p n_ y958)) (st' := (S59_11 n_ y955)) ).trans (bif_g ?_ ?_)
          · refine (pre1 (ref03_Value_fzx6 n_ y955 _)).trans ?_
            refine (ret_eq).trans ?_
            refine seqC_ret.trans ?_
            kernel_rfl
          · refine (skip_eq).trans ?_
            refine (seqC_normal (st' := (S59_11 n_ y955))).trans ?_
            refine .trans seq_push ?_
            refine (pre1 (ref03_Value_f20 n_ y955 _)).trans ?_
            refine (block_push (id := 4)).trans ?_
            refine (ref03_Value_l20 n_ y955 _).trans (bind_g (either_g (fun y975 => ?_) (fun y976 => ?_)))
            · refine block_same.trans ?_
              refine (seqC_normal (st' := (S59_11 n_ y955))).trans ?_
              refine (pre1 (ref03_Value_fzx9 n_ y955 _)).trans ?_
              refine (ret_eq).trans ?_
              kernel_rfl
            · refine block_ret.trans ?_
              refine seqC_ret.trans ?_
              kernel_rfl
      · refine block_ret.trans ?_
        refine seqC_ret.trans ?_
        kernel_rfl
    · refine block_ret.trans ?_
      refine seqC_ret.trans ?_
      kernel_rfl
noncomputable def cp57 : CallP := withC cp56 28 [(.agg tsNode), (pL tsI4)] (.tup [(.agg tsI4), pI]) (fun y : (I4 × Int) => (y.1, y.2, ())) (fun x => ref03_Value x.1 x.2.1)
theorem cp57_ok : PureOK E cp57 := conS eok cp56_ok ce3_ok fun x => Eq.mp (by kernel_rfl) (ref03_Value_is x.1 x.2.1)
end
section
variable {α β : Type} (g_ : Graph) (s833 : ((List I4) × Int)) (y844 : ((List I4) × Int)) (s1165 : ((List I4) × Int × Int)) (s1226 : ((List I4) × Int)) (y1232 : (List I4)) (y1233 : ((List I4) × Int)) (y1235 : (I4 × Int)) (y1238 : ((List I4) × Int × Int)) (s1252 : Int) (k : St → Option α) (q : Kont α)
noncomputable abbrev C60 := codeOf E.P 18
noncomputable abbrev P60 := @preK α E 18 cp57 ce3
noncomputable abbrev R60 := @runCode α E 18 cp57 ce3
abbrev S60_0 : St := ⟨[(1, rC tsGraph g_)], [], [], 151⟩
theorem ref03_Values_f1 : P60 1 C60 ⟨[(0, rA tsGraph g_)], [], [], 151⟩ k = k (S60_0 g_) := by kernel_rfl
def ref03_Values_r1_q (K : Bool → β) : β := (bif (decide ((g_.1.length : Int) > 4)) then (K true) else (bif (decide ((g_.2.1.length : Int) > 12)) then (K true) else (K (decide ((g_.2.2.length : Int) > 4)))))
def ref03_Values_r1_p : Bool := ref03_Values_r1_q g_ (fun y => y)
theorem ref03_Values_r1_n (K : Bool → β) : ref03_Values_r1_q g_ K = K (ref03_Values_r1_p g_) := (bif_k K rfl (bif_k K rfl rfl))
theorem ref03_Values_r1 : P60 1 C60.r.l (S60_0 g_) k = k ⟨[(1, rC tsGraph g_), (29, rb (ref03_Values_r1_p g_))], [], [], 151⟩ := Eq.trans (by kernel_rfl) (ref03_Values_r1_n g_ (fun y792 : Bool => k ⟨[(1, rC tsGraph g_), (29, rb y792)], [], [], 151⟩))
abbrev S60_1 : St := ⟨[(2, .one (.ow tsI4 [] (.v 2))), (3, ri 3)], [], [], 151⟩
theorem ref03_Values_fz : P60 1 C60.r.l.r.t (S60_0 g_) k = k S60_1 := by kernel_rfl
def ref03_Values_r3_q (K : Bool → β) : β := (bif ((g_.1.length : Int) == 0) then (K true) else (K ((g_.2.2.length : Int) == 0)))
def ref03_Values_r3_p : Bool := ref03_Values_r3_q g_ (fun y => y)
theorem ref03_Values_r3_n (K : Bool → β) : ref03_Values_r3_q g_ K = K (ref03_Values_r3_p g_) := (bif_k K rfl rfl)
theorem ref03_Values_r3 : P60 1 C60.r.r.l (S60_0 g_) k = k ⟨[(1, rC tsGraph g_), (39, rb (ref03_Values_r3_p g_))], [], [], 151⟩ := Eq.trans (by kernel_rfl) (ref03_Values_r3_n g_ (fun y794 : Bool => k ⟨[(1, rC tsGraph g_), (39, rb y794)], [], [], 151⟩))
abbrev S60_2 : St := ⟨[(2, .one (.ow tsI4 [] (.v 2))), (3, ri 13)], [], [], 151⟩
theorem ref03_Values_fzx1 : P60 1 C60.r.r.l.r.t (S60_0 g_) k = k S60_2 := by kernel_rfl
abbrev S60_3 : St := ⟨[(1, rC tsGraph g_), (4, .one (.ow tsI4 [] (.v 4)))], [], [], 151⟩
theorem ref03_Values_f6 : P60 1 C60.r.r.r (S60_0 g_) k = k (S60_3 g_) := by kernel_rfl
abbrev S60_4 : St := ⟨[(1, rC tsGraph g_), (4, .one (.ow tsI4 [] (.v 4))), (5, ri 0)], [], [], 151⟩
theorem ref03_Values_f7 : P60 1 C60.r.r.r.r.l (S60_3 g_) k = k (S60_4 g_) := by kernel_rfl
abbrev S60_5 : St := ⟨[(1, rC tsGraph g_), (4, rO tsI4 s833.1 4), (5, ri s833.2)], [], [], 151⟩
theorem ref03_Values_fzx2 : P60 1 C60.r.r.r.r.l.r.b.b.l (S60_5 g_ s833) k = k ⟨[(1, rC tsGraph g_), (4, rO tsI4 s833.1 4), (5, ri s833.2), (45, rb (decide (s833.2 < (g_.1.length : Int))))], [], [], 151⟩ := by kernel_rfl
def ref03_Values_r9_p : Option Bool := (bif (decide ((0 : Int) ≤ s833.2)) then (bif (decide (s833.2 < (g_.1.length : Int))) then (some ((ref02_May ((gt g_.1 s833.2 dI4).1, (gt g_.1 s833.2 dI4).2.1, (gt g_.1 s833.2 dI4).2.2.1)) != 0)) else none) else none)
theorem ref03_Values_r9 : P60 1 C60.r.r.r.r.l.r.b.b.r.l.b.l (S60_5 g_ s833) k = Option.bind (ref03_Values_r9_p g_ s833) (fun y840 : Bool => k ⟨[(1, rC tsGraph g_), (4, rO tsI4 s833.1 4), (5, ri s833.2), (55, rb y840)], [], [], 151⟩) := .trans (by kernel_rfl) (bif_b (bif_b some_b none_b) none_b)
theorem ref03_Values_fzx3 : P60 1 C60.r.r.r.r.l.r.b.b.r.l.b.l.r.t (S60_5 g_ s833) k = k ⟨[(2, .one (.ow tsI4 [] (.v 2))), (3, ri 10)], [], [], 151⟩ := by kernel_rfl
def ref03_Values_r11_p : Option Unit := (bif (decide ((0 : Int) ≤ s833.2)) then (bif (decide (s833.2 < (g_.1.length : Int))) then (some ()) else none) else none)
theorem ref03_Values_r11 : P60 1 C60.r.r.r.r.l.r.b.b.r.l.b.r.l (S60_5 g_ s833) k = Option.bind (ref03_Values_r11_p g_ s833) (fun y842 : Unit => k ⟨[(1, rC tsGraph g_), (4, rO tsI4 s833.1 4), (5, ri s833.2), (63, rb (!(ref03_in ((gt g_.1 s833.2 dI4).2.2.2) (-128 : Int) (127 : Int))))], [], [], 151⟩) := .trans (by kernel_rfl) (bif_b (bif_b some_b none_b) none_b)
theorem ref03_Values_fzx4 : P60 1 C60.r.r.r.r.l.r.b.b.r.l.b.r.l.r.t (S60_5 g_ s833) k = k ⟨[(2, .one (.ow tsI4 [] (.v 2))), (3, ri 11)], [], [], 151⟩ := by kernel_rfl
def ref03_Values_r13_p : Option Unit := (bif (decide ((0 : Int) ≤ s833.2)) then (bif (decide (s833.2 < (g_.1.length : Int))) then (bif (decide (s833.1.length + ([(gt g_.1 s833.2 dI4)] : List I4).length ≤ maxL)) then (some ()) else none) else none) else none)
abbrev S60_6 : St := ⟨[(1, rC tsGraph g_), (4, .one (.ow tsI4 (s833.1 ++ [(gt g_.1 s833.2 dI4)]) (.v 4))), (5, ri s833.2)], [], [], 151⟩
theorem ref03_Values_r13 : R60 C60.r.r.r.r.l.r.b.b.r.l.b.r.r (S60_5 g_ s833) q = Option.bind (ref03_Values_r13_p g_ s833) (fun y843 : Unit => q .normal (S60_6 g_ s833)) := .trans (by kernel_rfl) (bif_b (bif_b (bif_b some_b none_b) none_b) none_b)
theorem ref03_Values_r8 : R60 C60.r.r.r.r.l.r.b.b.r.r (S60_6 g_ s833) q = q .normal ⟨[(1, rC tsGraph g_), (4, .one (.ow tsI4 (s833.1 ++ [(gt g_.1 s833.2 dI4)]) (.v 4))), (5, ri (IntKind.wrap .i64 (s833.2 + 1)))], [], [], 151⟩ := by kernel_rfl
def ref03_Values_l7_p : Option (((List I4) × Int) ⊕ (((List I4) × Int) ⊕ Int)) := (bif (decide (s833.2 < (g_.1.length : Int))) then (Option.bind (ref03_Values_r9_p g_ s833) (fun y840 : Bool => (bif y840 then (some (Sum.inr (Sum.inr (10 : Int)))) else (Option.bind (ref03_Values_r11_p g_ s833) (fun y842 : Unit => (bif (!(ref03_in ((gt g_.1 s833.2 dI4).2.2.2) (-128 : Int) (127 : Int))) then (some (Sum.inr (Sum.inr (11 : Int)))) else (Option.bind (ref03_Values_r13_p g_ s833) (fun y843 : Unit => (some (Sum.inl ((s833.1 ++ [(gt g_.1 s833.2 dI4)]), (IntKind.wrap .i64 (s833.2 + 1))))))))))))) else (some (Sum.inr (Sum.inl s833))))
abbrev S60_7 : St := ⟨[(1, rC tsGraph g_), (4, rO tsI4 y844.1 4), (5, ri y844.2)], [], [], 151⟩
abbrev S60_8 (y845 : Int) : St := ⟨[(2, .one (.ow tsI4 [] (.v 2))), (3, ri y845)], [], [], 151⟩
theorem ref03_Values_l7_b : R60 C60.r.r.r.r.l.r.b.b (S60_5 g_ s833) (loopKont 0 q) = Option.bind (ref03_Values_l7_p g_ s833) (either (fun y : ((List I4) × Int) => q .normal ⟨[(1, rC tsGraph g_), (4, rO tsI4 y.1 4), (5, ri y.2)], [], [], 151⟩) (either (fun y844 : ((List I4) × Int) => q (.exit 0) (S60_7 g_ y844)) (fun y845 : Int => q .ret (S60_8 y845)))) := by
  refine .trans ?_ (bif_b (bind_b fun y840 => (bif_b e3_2 (bind_b fun y842 => (bif_b e3_2 (bind_b fun y843 => e3_0))))) e3_1)
  refine .trans seq_push ?_
  refine (pre1 (ref03_Values_fzx2 g_ s833 _)).trans ?_
  refine (cond_e (b := (decide (s833.2 < (g_.1.length : Int)))) (st' := (S60_5 g_ s833)) ).trans (bif_g ?_ ?_)
  · refine (skip_eq).trans ?_
    refine (seqC_normal (st' := (S60_5 g_ s833))).trans ?_
    refine .trans seq_push ?_
    refine (block_push (id := 1)).trans ?_
    refine .trans seq_push ?_
    refine (pre1 (ref03_Values_r9 g_ s833 _)).trans (bind_g fun y840 => ?_)
    refine (cond_e (b := y840) (st' := (S60_5 g_ s833)) ).trans (bif_g ?_ ?_)
    · refine (pre1 (ref03_Values_fzx3 g_ s833 _)).trans ?_
      refine (ret_eq).trans ?_
      refine seqC_ret.trans ?_
      refine block_ret.trans ?_
      refine seqC_ret.trans ?_
      kernel_rfl
    · refine (skip_eq).trans ?_
      refine (seqC_normal (st' := (S60_5 g_ s833))).trans ?_
      refine .trans seq_push ?_
      refine (pre1 (ref03_Values_r11 g_ s833 _)).trans (bind_g fun y842 => ?_)
      refine (cond_e (b := (!(ref03_in ((gt g_.1 s833.2 dI4).2.2.2) (-128 : Int) (127 : Int)))) (st' := (S60_5 g_ s833)) ).trans (bif_g ?_ ?_)
      · refine (pre1 (ref03_Values_fzx4 g_ s833 _)).trans ?_
        refine (ret_eq).trans ?_
        refine seqC_ret.trans ?_
        refine block_ret.trans ?_
        refine seqC_ret.trans ?_
        kernel_rfl
      · refine (skip_eq).trans ?_
        refine (seqC_normal (st' := (S60_5 g_ s833))).trans ?_
        refine (ref03_Values_r13 g_ s833 _).trans (bind_g fun y843 => ?_)
        refine block_normal.trans ?_
        refine (seqC_normal (st' := (S60_6 g_ s833))).trans ?_
        refine (ref03_Values_r8 g_ s833 _).trans ?_
        kernel_rfl
  · refine ((exit_eq (j := 0))).trans ?_
    refine seqC_exit.trans ?_
    kernel_rfl
theorem ref03_Values_l7 : R60 C60.r.r.r.r.l.r.b (S60_4 g_) q = Option.bind (iterN (ref03_Values_l7_p g_) LL ([], (0 : Int))) (either (fun y844 : ((List I4) × Int) => q (.exit 0) (S60_7 g_ y844)) (fun y845 : Int => q .ret (S60_8 y845))) :=
  Eq.trans (by kernel_rfl) (loop_iter2 (S := fun s833 : ((List I4) × Int) => (S60_5 g_ s833)) (Y1 := fun y844 : ((List I4) × Int) => ((.exit 0), (S60_7 g_ y844))) (Y2 := fun y845 : Int => (.ret, (S60_8 y845))) (fun s q => ref03_Values_l7_b g_ s q) (fun z => rfl) (fun z => rfl) LL ([], (0 : Int)))
abbrev S60_9 : St := ⟨[(1, rC tsGraph g_), (4, rO tsI4 y844.1 4)], [], [], 151⟩
abbrev S60_10 : St := ⟨[(1, rC tsGraph g_), (4, rO tsI4 y844.1 4), (6, ri 0)], [], [], 151⟩
theorem ref03_Values_f15 : P60 1 C60.r.r.r.r.r (S60_9 g_ y844) k = k (S60_10 g_ y844) := by kernel_rfl
abbrev S60_11 : St := ⟨[(1, rC tsGraph g_), (4, rO tsI4 y844.1 4), (6, ri 0), (7, ri 0)], [], [], 151⟩
theorem ref03_Values_f16 : P60 1 C60.r.r.r.r.r.r.l (S60_10 g_ y844) k = k (S60_11 g_ y844) := by kernel_rfl
abbrev S60_12 : St := ⟨[(1, rC tsGraph g_), (4, rO tsI4 s1165.1 4), (6, ri s1165.2.1), (7, ri s1165.2.2)], [], [], 151⟩
theorem ref03_Values_fzx5 : P60 1 C60.r.r.r.r.r.r.l.r.b.b.l (S60_12 g_ s1165) k = k ⟨[(1, rC tsGraph g_), (4, rO tsI4 s1165.1 4), (6, ri s1165.2.1), (7, ri s1165.2.2), (76, rb (decide (s1165.2.2 < (g_.2.1.length : Int))))], [], [], 151⟩ := by kernel_rfl
def ref03_Values_r18_p : Option Unit := (bif (decide ((0 : Int) ≤ s1165.2.2)) then (bif (decide (s1165.2.2 < (g_.2.1.length : Int))) then (some ()) else none) else none)
abbrev S60_13 : St := ⟨[(1, rC tsGraph g_), (4, rO tsI4 s1165.1 4), (6, ri s1165.2.1), (7, ri s1165.2.2), (8, rF 0)], [(tsNode.leaves (gt g_.2.1 s1165.2.2 dNode))], [], 151⟩
theorem ref03_Values_r18 : P60 1 C60.r.r.r.r.r.r.l.r.b.b.r.l.b (S60_12 g_ s1165) k = Option.bind (ref03_Values_r18_p g_ s1165) (fun y1202 : Unit => k (S60_13 g_ s1165)) := .trans (by kernel_rfl) (bif_b (bif_b some_b none_b) none_b)
abbrev S60_14 : St := ⟨[(1, rC tsGraph g_), (4, rO tsI4 s1165.1 4), (6, ri s1165.2.1), (7, ri s1165.2.2), (8, rF 0), (9, .one (.ow tsI4 [] (.v 9)))], [(tsNode.leaves (gt g_.2.1 s1165.2.2 dNode))], [], 151⟩
theorem ref03_Values_f20 : P60 1 C60.r.r.r.r.r.r.l.r.b.b.r.l.b.r (S60_13 g_ s1165) k = k (S60_14 g_ s1165) := by kernel_rfl
abbrev S60_15 : St := ⟨[(1, rC tsGraph g_), (4, rO tsI4 s1165.1 4), (6, ri s1165.2.1), (7, ri s1165.2.2), (8, rF 0), (9, .one (.ow tsI4 [] (.v 9))), (10, ri 0)], [(tsNode.leaves (gt g_.2.1 s1165.2.2 dNode))], [], 151⟩
theorem ref03_Values_f21 : P60 1 C60.r.r.r.r.r.r.l.r.b.b.r.l.b.r.r.l (S60_14 g_ s1165) k = k (S60_15 g_ s1165) := by kernel_rfl
abbrev S60_16 : St := ⟨[(1, rC tsGraph g_), (4, rO tsI4 s1165.1 4), (6, ri s1165.2.1), (7, ri s1165.2.2), (8, rF 0), (9, rO tsI4 s1226.1 9), (10, ri s1226.2)], [(tsNode.leaves (gt g_.2.1 s1165.2.2 dNode))], [], 151⟩
theorem ref03_Values_fzx6 : P60 1 C60.r.r.r.r.r.r.l.r.b.b.r.l.b.r.r.l.r.b.b.l (S60_16 g_ s1165 s1226) k = k ⟨[(1, rC tsGraph g_), (4, rO tsI4 s1165.1 4), (6, ri s1165.2.1), (7, ri s1165.2.2), (8, rF 0), (9, rO tsI4 s1226.1 9), (10, ri s1226.2), (89, rb (decide (s1226.2 < (((gt g_.2.1 s1165.2.2 dNode).2.1).length : Int))))], [(tsNode.leaves (gt g_.2.1 s1165.2.2 dNode))], [], 151⟩ := by kernel_rfl
def ref03_Values_r23_p : Option Bool := (bif (decide ((0 : Int) ≤ s1226.2)) then (bif (decide (s1226.2 < (((gt g_.2.1 s1165.2.2 dNode).2.1).length : Int))) then (some (!(ref03_in (gt ((gt g_.2.1 s1165.2.2 dNode).2.1) s1226.2 (0 : Int)) (0 : Int) (IntKind.wrap .i64 ((s1165.1.length : Int) - 1))))) else none) else none)
theorem ref03_Values_r23 : P60 1 C60.r.r.r.r.r.r.l.r.b.b.r.l.b.r.r.l.r.b.b.r.l.b.l (S60_16 g_ s1165 s1226) k = Option.bind (ref03_Values_r23_p g_ s1165 s1226) (fun y1231 : Bool => k ⟨[(1, rC tsGraph g_), (4, rO tsI4 s1165.1 4), (6, ri s1165.2.1), (7, ri s1165.2.2), (8, rF 0), (9, rO tsI4 s1226.1 9), (10, ri s1226.2), (101, rb y1231)], [(tsNode.leaves (gt g_.2.1 s1165.2.2 dNode))], [], 151⟩) := .trans (by kernel_rfl) (bif_b (bif_b some_b none_b) none_b)
abbrev S60_17 : St := ⟨[(2, .one (.ow tsI4 [] (.v 2))), (3, ri 13)], [[]], [], 151⟩
theorem ref03_Values_fzx7 : P60 1 C60.r.r.r.r.r.r.l.r.b.b.r.l.b.r.r.l.r.b.b.r.l.b.l.r.t (S60_16 g_ s1165 s1226) k = k S60_17 := by kernel_rfl
def ref03_Values_r25_p : Option (List I4) := (bif (decide ((0 : Int) ≤ s1226.2)) then (bif (decide (s1226.2 < (((gt g_.2.1 s1165.2.2 dNode).2.1).length : Int))) then (bif (decide ((0 : Int) ≤ (gt ((gt g_.2.1 s1165.2.2 dNode).2.1) s1226.2 (0 : Int)))) then (bif (decide ((gt ((gt g_.2.1 s1165.2.2 dNode).2.1) s1226.2 (0 : Int)) < (s1165.1.length : Int))) then (bif (decide (s1226.1.length + ([(gt s1165.1 (gt ((gt g_.2.1 s1165.2.2 dNode).2.1) s1226.2 (0 : Int)) dI4)] : List I4).length ≤ maxL)) then (some (s1226.1 ++ [(gt s1165.1 (gt ((gt g_.2.1 s1165.2.2 dNode).2.1) s1226.2 (0 : Int)) dI4)])) else none) else none) else none) else none) else none)
abbrev S60_18 : St := ⟨[(1, rC tsGraph g_), (4, rO tsI4 s1165.1 4), (6, ri s1165.2.1), (7, ri s1165.2.2), (8, rF 0), (9, rO tsI4 y1232 9), (10, ri s1226.2)], [(tsNode.leaves (gt g_.2.1 s1165.2.2 dNode))], [], 151⟩
theorem ref03_Values_r25 : R60 C60.r.r.r.r.r.r.l.r.b.b.r.l.b.r.r.l.r.b.b.r.l.b.r (S60_16 g_ s1165 s1226) q = Option.bind (ref03_Values_r25_p g_ s1165 s1226) (fun y1232 : (List I4) => q .normal (S60_18 g_ s1165 s1226 y1232)) := .trans (by kernel_rfl) (bif_b (bif_b (bif_b (bif_b (bif_b some_b none_b) none_b) none_b) none_b) none_b)
theorem ref03_Values_r22 : R60 C60.r.r.r.r.r.r.l.r.b.b.r.l.b.r.r.l.r.b.b.r.r (S60_18 g_ s1165 s1226 y1232) q = q .normal ⟨[(1, rC tsGraph g_), (4, rO tsI4 s1165.1 4), (6, ri s1165.2.1), (7, ri s1165.2.2), (8, rF 0), (9, rO tsI4 y1232 9), (10, ri (IntKind.wrap .i64 (s1226.2 + 1)))], [(tsNode.leaves (gt g_.2.1 s1165.2.2 dNode))], [], 151⟩ := by kernel_rfl
def ref03_Values_l21_p : Option (((List I4) × Int) ⊕ (((List I4) × Int) ⊕ Unit)) := (bif (decide (s1226.2 < (((gt g_.2.1 s1165.2.2 dNode).2.1).length : Int))) then (Option.bind (ref03_Values_r23_p g_ s1165 s1226) (fun y1231 : Bool => (bif y1231 then (some (Sum.inr (Sum.inr ()))) else (Option.bind (ref03_Values_r25_p g_ s1165 s1226) (fun y1232 : (List I4) => (some (Sum.inl (y1232, (IntKind.wrap .i64 (s1226.2 + 1)))))))))) else (some (Sum.inr (Sum.inl s1226))))
abbrev S60_19 : St := ⟨[(1, rC tsGraph g_), (4, rO tsI4 s1165.1 4), (6, ri s1165.2.1), (7, ri s1165.2.2), (8, rF 0), (9, rO tsI4 y1233.1 9), (10, ri y1233.2)], [(tsNode.leaves (gt g_.2.1 s1165.2.2 dNode))], [], 151⟩
theorem ref03_Values_l21_b : R60 C60.r.r.r.r.r.r.l.r.b.b.r.l.b.r.r.l.r.b.b (S60_16 g_ s1165 s1226) (loopKont 1 q) = Option.bind (ref03_Values_l21_p g_ s1165 s1226) (either (fun y : ((List I4) × Int) => q .normal ⟨[(1, rC tsGraph g_), (4, rO tsI4 s1165.1 4), (6, ri s1165.2.1), (7, ri s1165.2.2), (8, rF 0), (9, rO tsI4 y.1 9), (10, ri y.2)], [(tsNode.leaves (gt g_.2.1 s1165.2.2 dNode))], [], 151⟩) (either (fun y1233 : ((List I4) × Int) => q (.exit 4) (S60_19 g_ s1165 y1233)) (fun y1234 : Unit => q .ret S60_17))) := by
  refine .trans ?_ (bif_b (bind_b fun y1231 => (bif_b e3_2 (bind_b fun y1232 => e3_0))) e3_1)
  refine .trans seq_push ?_
  refine (pre1 (ref03_Values_fzx6 g_ s1165 s1226 _)).trans ?_
  refine (cond_e (b := (decide (s1226.2 < (((gt g_.2.1 s1165.2.2 dNode).2.1).length : Int)))) (st' := (S60_16 g_ s1165 s1226)) ).trans (bif_g ?_ ?_)
  · refine (skip_eq).trans ?_
    refine (seqC_normal (st' := (S60_16 g_ s1165 s1226))).trans ?_
    refine .trans seq_push ?_
    refine (block_push (id := 5)).trans ?_
    refine .trans seq_push ?_
    refine (pre1 (ref03_Values_r23 g_ s1165 s1226 _)).trans (bind_g fun y1231 => ?_)
    refine (cond_e (b := y1231) (st' := (S60_16 g_ s1165 s1226)) ).trans (bif_g ?_ ?_)
    · refine (pre1 (ref03_Values_fzx7 g_ s1165 s1226 _)).trans ?_
      refine (ret_eq).trans ?_
      refine seqC_ret.trans ?_
      refine block_ret.trans ?_
      refine seqC_ret.trans ?_
      kernel_rfl
    · refine (skip_eq).trans ?_
      refine (seqC_normal (st' := (S60_16 g_ s1165 s1226))).trans ?_
      refine (ref03_Values_r25 g_ s1165 s1226 _).trans (bind_g fun y1232 => ?_)
      refine block_normal.trans ?_
      refine (seqC_normal (st' := (S60_18 g_ s1165 s1226 y1232))).trans ?_
      refine (ref03_Values_r22 g_ s1165 s1226 y1232 _).trans ?_
      kernel_rfl
  · refine ((exit_eq (j := 4))).trans ?_
    refine seqC_exit.trans ?_
    kernel_rfl
theorem ref03_Values_l21 : R60 C60.r.r.r.r.r.r.l.r.b.b.r.l.b.r.r.l.r.b (S60_15 g_ s1165) q = Option.bind (iterN (ref03_Values_l21_p g_ s1165) LL ([], (0 : Int))) (either (fun y1233 : ((List I4) × Int) => q (.exit 4) (S60_19 g_ s1165 y1233)) (fun y1234 : Unit => q .ret S60_17)) :=
  Eq.trans (by kernel_rfl) (loop_iter2 (S := fun s1226 : ((List I4) × Int) => (S60_16 g_ s1165 s1226)) (Y1 := fun y1233 : ((List I4) × Int) => ((.exit 4), (S60_19 g_ s1165 y1233))) (Y2 := fun y1234 : Unit => (.ret, S60_17)) (fun s q => ref03_Values_l21_b g_ s1165 s q) (fun z => rfl) (fun z => rfl) LL ([], (0 : Int)))
abbrev S60_20 : St := ⟨[(1, rC tsGraph g_), (4, rO tsI4 s1165.1 4), (6, ri s1165.2.1), (7, ri s1165.2.2), (8, rF 0), (9, rO tsI4 y1233.1 9)], [(tsNode.leaves (gt g_.2.1 s1165.2.2 dNode))], [], 151⟩
abbrev S60_21 : St := ⟨[(1, rC tsGraph g_), (4, rO tsI4 s1165.1 4), (6, ri s1165.2.1), (7, ri s1165.2.2), (8, rF 0), (11, rF 1), (12, ri y1235.2)], [(tsNode.leaves (gt g_.2.1 s1165.2.2 dNode)), (tsI4.leaves y1235.1)], [], 151⟩
theorem ref03_Values_r26 : P60 1 C60.r.r.r.r.r.r.l.r.b.b.r.l.b.r.r.r (S60_20 g_ s1165 y1233) k = Option.bind (ref03_Value (gt g_.2.1 s1165.2.2 dNode) y1233.1) fun y1235 : (I4 × Int) => k (S60_21 g_ s1165 y1235) := by kernel_rfl
theorem ref03_Values_f1000028 : P60 1 C60.r.r.r.r.r.r.l.r.b.b.r.l.b.r.r.r.r.l (S60_21 g_ s1165 y1235) k = k ⟨[(1, rC tsGraph g_), (4, rO tsI4 s1165.1 4), (6, ri s1165.2.1), (7, ri s1165.2.2), (8, rF 0), (11, rF 1), (12, ri y1235.2), (120, rb (y1235.2 != 0))], [(tsNode.leaves (gt g_.2.1 s1165.2.2 dNode)), (tsI4.leaves y1235.1)], [], 151⟩ := by kernel_rfl
theorem ref03_Values_fzx8 : P60 1 C60.r.r.r.r.r.r.l.r.b.b.r.l.b.r.r.r.r.l.r.t (S60_21 g_ s1165 y1235) k = k ⟨[(2, .one (.ow tsI4 [] (.v 2))), (3, ri y1235.2)], [[], []], [], 151⟩ := by kernel_rfl
def ref03_Values_r29_p : Option Unit := (bif (decide (s1165.1.length + ([y1235.1] : List I4).length ≤ maxL)) then (some ()) else none)
abbrev S60_22 : St := ⟨[(1, rC tsGraph g_), (4, rO tsI4 s1165.1 4), (6, ri s1165.2.1), (7, ri s1165.2.2), (8, rF 0), (11, rF 1)], [(tsNode.leaves (gt g_.2.1 s1165.2.2 dNode)), (tsI4.leaves y1235.1)], [], 151⟩
abbrev S60_23 : St := ⟨[(1, rC tsGraph g_), (4, .one (.ow tsI4 (s1165.1 ++ [y1235.1]) (.v 4))), (6, ri s1165.2.1), (7, ri s1165.2.2), (8, rF 0)], [(tsNode.leaves (gt g_.2.1 s1165.2.2 dNode)), []], [], 151⟩
theorem ref03_Values_r29 : P60 1 C60.r.r.r.r.r.r.l.r.b.b.r.l.b.r.r.r.r.r (S60_22 g_ s1165 y1235) k = Option.bind (ref03_Values_r29_p s1165 y1235) (fun y1236 : Unit => k (S60_23 g_ s1165 y1235)) := .trans (by kernel_rfl) (bif_b some_b none_b)
def ref03_Values_r30_q (K : Int → β) : β := (K (IntKind.wrap .i64 (s1165.2.1 + (((gt g_.2.1 s1165.2.2 dNode).2.2.2.2.2.2.2.2.2.2.2.2.1).length : Int))))
def ref03_Values_r30_p : Int := ref03_Values_r30_q g_ s1165 (fun y => y)
theorem ref03_Values_r30_n (K : Int → β) : ref03_Values_r30_q g_ s1165 K = K (ref03_Values_r30_p g_ s1165) := rfl
abbrev S60_24 : St := ⟨[(1, rC tsGraph g_), (4, .one (.ow tsI4 (s1165.1 ++ [y1235.1]) (.v 4))), (6, ri (ref03_Values_r30_p g_ s1165)), (7, ri s1165.2.2)], [[], []], [], 151⟩
theorem ref03_Values_r30 : R60 C60.r.r.r.r.r.r.l.r.b.b.r.l.b.r.r.r.r.r.r (S60_23 g_ s1165 y1235) q = q .normal (S60_24 g_ s1165 y1235) := Eq.trans (by kernel_rfl) (ref03_Values_r30_n g_ s1165 (fun y1237 : Int => q .normal ⟨[(1, rC tsGraph g_), (4, .one (.ow tsI4 (s1165.1 ++ [y1235.1]) (.v 4))), (6, ri y1237), (7, ri s1165.2.2)], [[], []], [], 151⟩))
theorem ref03_Values_r17 : R60 C60.r.r.r.r.r.r.l.r.b.b.r.r (S60_24 g_ s1165 y1235) q = q .normal ⟨[(1, rC tsGraph g_), (4, .one (.ow tsI4 (s1165.1 ++ [y1235.1]) (.v 4))), (6, ri (ref03_Values_r30_p g_ s1165)), (7, ri (IntKind.wrap .i64 (s1165.2.2 + 1)))], [[], []], [], 151⟩ := by kernel_rfl
def ref03_Values_l16_p : Option (((List I4) × Int × Int) ⊕ (((List I4) × Int × Int) ⊕ (Unit ⊕ Int))) := (bif (decide (s1165.2.2 < (g_.2.1.length : Int))) then (Option.bind (ref03_Values_r18_p g_ s1165) (fun y1202 : Unit => (Option.bind (iterN (ref03_Values_l21_p g_ s1165) LL ([], (0 : Int))) (either (fun y1233 : ((List I4) × Int) => (Option.bind (ref03_Value (gt g_.2.1 s1165.2.2 dNode) y1233.1) (fun y1235 : (I4 × Int) => (bif (y1235.2 != 0) then (some (Sum.inr (Sum.inr (Sum.inr y1235.2)))) else (Option.bind (ref03_Values_r29_p s1165 y1235) (fun y1236 : Unit => (some (Sum.inl ((s1165.1 ++ [y1235.1]), (ref03_Values_r30_p g_ s1165), (IntKind.wrap .i64 (s1165.2.2 + 1))))))))))) (fun y1234 : Unit => (some (Sum.inr (Sum.inr (Sum.inl ()))))))))) else (some (Sum.inr (Sum.inl s1165))))
abbrev S60_25 : St := ⟨[(1, rC tsGraph g_), (4, rO tsI4 y1238.1 4), (6, ri y1238.2.1), (7, ri y1238.2.2)], [], [], 151⟩
abbrev S60_26 (y1240 : Int) : St := ⟨[(2, .one (.ow tsI4 [] (.v 2))), (3, ri y1240)], [[], []], [], 151⟩
theorem ref03_Values_l16_b : R60 C60.r.r.r.r.r.r.l.r.b.b (S60_12 g_ s1165) (loopKont 0 q) = Option.bind (ref03_Values_l16_p g_ s1165) (either (fun y : ((List I4) × Int × Int) => q .normal ⟨[(1, rC tsGraph g_), (4, rO tsI4 y.1 4), (6, ri y.2.1), (7, ri y.2.2)], [], [], 151⟩) (either (fun y1238 : ((List I4) × Int × Int) => q (.exit 2) (S60_25 g_ y1238)) (either (fun y1239 : Unit => q .ret S60_17) (fun y1240 : Int => q .ret (S60_26 y1240))))) := by
  refine .trans ?_ (bif_b (bind_b fun y1202 => (bind_b (either_b (fun y1233 => (bind_b fun y1235 => (bif_b e4_3 (bind_b fun y1236 => e4_0)))) (fun y1234 => e4_2)))) e4_1)
  refine .trans seq_push ?_
  refine (pre1 (ref03_Values_fzx5 g_ s1165 _)).trans ?_
  refine (cond_e (b := (decide (s1165.2.2 < (g_.2.1.length : Int)))) (st' := (S60_12 g_ s1165)) ).trans (bif_g ?_ ?_)
  · refine (skip_eq).trans ?_
    refine (seqC_normal (st' := (S60_12 g_ s1165))).trans ?_
    refine .trans seq_push ?_
    refine (block_push (id := 3)).trans ?_
    refine (pre1 (ref03_Values_r18 g_ s1165 _)).trans (bind_g fun y1202 => ?_)
    refine (pre1 (ref03_Values_f20 g_ s1165 _)).trans ?_
    refine .trans seq_push ?_
    refine (pre1 (ref03_Values_f21 g_ s1165 _)).trans ?_
    refine (block_push (id := 4)).trans ?_
    refine (ref03_Values_l21 g_ s1165 _).trans (bind_g (either_g (fun y1233 => ?_) (fun y1234 => ?_)))
    · refine block_same.trans ?_
      refine (seqC_normal (st' := (S60_20 g_ s1165 y1233))).trans ?_
      refine (pre1 (ref03_Values_r26 g_ s1165 y1233 _)).trans (bind_g fun y1235 => ?_)
      refine .trans seq_push ?_
      refine (pre1 (ref03_Values_f1000028 g_ s1165 y1235 _)).trans ?_
      refine (cond_e (b := (y1235.2 != 0)) (st' := (S60_21 g_ s1165 y1235)) ).trans (bif_g ?_ ?_)
      · refine (pre1 (ref03_Values_fzx8 g_ s1165 y1235 _)).trans ?_
        refine (ret_eq).trans ?_
        refine seqC_ret.trans ?_
        refine block_ret.trans ?_
        refine seqC_ret.trans ?_
        kernel_rfl
      · refine (skip_eq).trans ?_
        refine (seqC_normal (st' := (S60_22 g_ s1165 y1235))).trans ?_
        refine (pre1 (ref03_Values_r29 g_ s1165 y1235 _)).trans (bind_g fun y1236 => ?_)
        refine (ref03_Values_r30 g_ s1165 y1235 _).trans ?_
        refine block_normal.trans ?_
        refine (seqC_normal (st' := (S60_24 g_ s1165 y1235))).trans ?_
        refine (ref03_Values_r17 g_ s1165 y1235 _).trans ?_
        kernel_rfl
    · refine block_ret.trans ?_
      refine seqC_ret.trans ?_
      refine block_ret.trans ?_
      refine seqC_ret.trans ?_
      kernel_rfl
  · refine ((exit_eq (j := 2))).trans ?_
    refine seqC_exit.trans ?_
    kernel_rfl
theorem ref03_Values_l16 : R60 C60.r.r.r.r.r.r.l.r.b (S60_11 g_ y844) q = Option.bind (iterN (ref03_Values_l16_p g_) LL (y844.1, (0 : Int), (0 : Int))) (either (fun y1238 : ((List I4) × Int × Int) => q (.exit 2) (S60_25 g_ y1238)) (either (fun y1239 : Unit => q .ret S60_17) (fun y1240 : Int => q .ret (S60_26 y1240)))) :=
  Eq.trans (by kernel_rfl) (loop_iter3 (S := fun s1165 : ((List I4) × Int × Int) => (S60_12 g_ s1165)) (Y1 := fun y1238 : ((List I4) × Int × Int) => ((.exit 2), (S60_25 g_ y1238))) (Y2 := fun y1239 : Unit => (.ret, S60_17)) (Y3 := fun y1240 : Int => (.ret, (S60_26 y1240))) (fun s q => ref03_Values_l16_b g_ s q) (fun z => rfl) (fun z => rfl) (fun z => rfl) LL (y844.1, (0 : Int), (0 : Int)))
abbrev S60_27 : St := ⟨[(1, rC tsGraph g_), (4, rO tsI4 y1238.1 4), (6, ri y1238.2.1)], [], [], 151⟩
theorem ref03_Values_f1000032 : P60 1 C60.r.r.r.r.r.r.r.l (S60_27 g_ y1238) k = k ⟨[(1, rC tsGraph g_), (4, rO tsI4 y1238.1 4), (132, rb (decide (y1238.2.1 > 4096)))], [], [], 151⟩ := by kernel_rfl
abbrev S60_28 : St := ⟨[(1, rC tsGraph g_), (4, rO tsI4 y1238.1 4)], [], [], 151⟩
theorem ref03_Values_fzx9 : P60 1 C60.r.r.r.r.r.r.r.l.r.t (S60_28 g_ y1238) k = k S60_1 := by kernel_rfl
abbrev S60_29 : St := ⟨[(1, rC tsGraph g_), (4, rO tsI4 y1238.1 4), (13, ri 0)], [], [], 151⟩
theorem ref03_Values_f34 : P60 1 C60.r.r.r.r.r.r.r.r.l (S60_28 g_ y1238) k = k (S60_29 g_ y1238) := by kernel_rfl
abbrev S60_30 : St := ⟨[(1, rC tsGraph g_), (4, rO tsI4 y1238.1 4), (13, ri s1252)], [], [], 151⟩
theorem ref03_Values_fzx10 : P60 1 C60.r.r.r.r.r.r.r.r.l.r.b.b.l (S60_30 g_ y1238 s1252) k = k ⟨[(1, rC tsGraph g_), (4, rO tsI4 y1238.1 4), (13, ri s1252), (137, rb (decide (s1252 < (g_.2.2.length : Int))))], [], [], 151⟩ := by kernel_rfl
def ref03_Values_r36_p : Option Bool := (bif (decide ((0 : Int) ≤ s1252)) then (bif (decide (s1252 < (g_.2.2.length : Int))) then (some (!(ref03_in (gt g_.2.2 s1252 (0 : Int)) (0 : Int) (IntKind.wrap .i64 ((y1238.1.length : Int) - 1))))) else none) else none)
theorem ref03_Values_r36 : P60 1 C60.r.r.r.r.r.r.r.r.l.r.b.b.r.l.b (S60_30 g_ y1238 s1252) k = Option.bind (ref03_Values_r36_p g_ y1238 s1252) (fun y1254 : Bool => k ⟨[(1, rC tsGraph g_), (4, rO tsI4 y1238.1 4), (13, ri s1252), (149, rb y1254)], [], [], 151⟩) := .trans (by kernel_rfl) (bif_b (bif_b some_b none_b) none_b)
theorem ref03_Values_fzx11 : P60 1 C60.r.r.r.r.r.r.r.r.l.r.b.b.r.l.b.r.t (S60_30 g_ y1238 s1252) k = k S60_2 := by kernel_rfl
theorem ref03_Values_r35 : R60 C60.r.r.r.r.r.r.r.r.l.r.b.b.r.r (S60_30 g_ y1238 s1252) q = q .normal ⟨[(1, rC tsGraph g_), (4, rO tsI4 y1238.1 4), (13, ri (IntKind.wrap .i64 (s1252 + 1)))], [], [], 151⟩ := by kernel_rfl
def ref03_Values_l34_p : Option (Int ⊕ (Int ⊕ Unit)) := (bif (decide (s1252 < (g_.2.2.length : Int))) then (Option.bind (ref03_Values_r36_p g_ y1238 s1252) (fun y1254 : Bool => (bif y1254 then (some (Sum.inr (Sum.inr ()))) else (some (Sum.inl (IntKind.wrap .i64 (s1252 + 1))))))) else (some (Sum.inr (Sum.inl s1252))))
abbrev S60_31 (y1255 : Int) : St := ⟨[(1, rC tsGraph g_), (4, rO tsI4 y1238.1 4), (13, ri y1255)], [], [], 151⟩
theorem ref03_Values_l34_b : R60 C60.r.r.r.r.r.r.r.r.l.r.b.b (S60_30 g_ y1238 s1252) (loopKont 0 q) = Option.bind (ref03_Values_l34_p g_ y1238 s1252) (either (fun y : Int => q .normal ⟨[(1, rC tsGraph g_), (4, rO tsI4 y1238.1 4), (13, ri y)], [], [], 151⟩) (either (fun y1255 : Int => q (.exit 6) (S60_31 g_ y1238 y1255)) (fun y1256 : Unit => q .ret S60_2))) := by
  refine .trans ?_ (bif_b (bind_b fun y1254 => (bif_b e3_2 e3_0)) e3_1)
  refine .trans seq_push ?_
  refine (pre1 (ref03_Values_fzx10 g_ y1238 s1252 _)).trans ?_
  refine (cond_e (b := (decide (s1252 < (g_.2.2.length : Int)))) (st' := (S60_30 g_ y1238 s1252)) ).trans (bif_g ?_ ?_)
  · refine (skip_eq).trans ?_
    refine (seqC_normal (st' := (S60_30 g_ y1238 s1252))).trans ?_
    refine .trans seq_push ?_
    refine (block_push (id := 7)).trans ?_
    refine (pre1 (ref03_Values_r36 g_ y1238 s1252 _)).trans (bind_g fun y1254 => ?_)
    refine (cond_e (b := y1254) (st' := (S60_30 g_ y1238 s1252)) ).trans (bif_g ?_ ?_)
    · refine (pre1 (ref03_Values_fzx11 g_ y1238 s1252 _)).trans ?_
      refine (ret_eq).trans ?_
      refine block_ret.trans ?_
      refine seqC_ret.trans ?_
      kernel_rfl
    · refine (skip_eq).trans ?_
      refine block_normal.trans ?_
      refine (seqC_normal (st' := (S60_30 g_ y1238 s1252))).trans ?_
      refine (ref03_Values_r35 g_ y1238 s1252 _).trans ?_
      kernel_rfl
  · refine ((exit_eq (j := 6))).trans ?_
    refine seqC_exit.trans ?_
    kernel_rfl
theorem ref03_Values_l34 : R60 C60.r.r.r.r.r.r.r.r.l.r.b (S60_29 g_ y1238) q = Option.bind (iterN (ref03_Values_l34_p g_ y1238) LL (0 : Int)) (either (fun y1255 : Int => q (.exit 6) (S60_31 g_ y1238 y1255)) (fun y1256 : Unit => q .ret S60_2)) :=
  Eq.trans (by kernel_rfl) (loop_iter2 (S := fun s1252 : Int => (S60_30 g_ y1238 s1252)) (Y1 := fun y1255 : Int => ((.exit 6), (S60_31 g_ y1238 y1255))) (Y2 := fun y1256 : Unit => (.ret, S60_2)) (fun s q => ref03_Values_l34_b g_ y1238 s q) (fun z => rfl) (fun z => rfl) LL (0 : Int))
theorem ref03_Values_fzx12 : P60 1 C60.r.r.r.r.r.r.r.r.r ⟨[(4, rO tsI4 y1238.1 4)], [], [], 151⟩ k = k ⟨[(2, rO tsI4 y1238.1 4), (3, ri 0)], [], [], 151⟩ := by kernel_rfl
/-- quilt/quiltref03.Values -/
def ref03_Values : Option ((List I4) × Int) := (bif (ref03_Values_r1_p g_) then (some ([], (3 : Int))) else (bif (ref03_Values_r3_p g_) then (some ([], (13 : Int))) else (Option.bind (iterN (ref03_Values_l7_p g_) LL ([], (0 : Int))) (either (fun y844 : ((List I4) × Int) => (Option.bind (iterN (ref03_Values_l16_p g_) LL (y844.1, (0 : Int), (0 : Int))) (either (fun y1238 : ((List I4) × Int × Int) => (bif (decide (y1238.2.1 > 4096)) then (some ([], (3 : Int))) else (Option.bind (iterN (ref03_Values_l34_p g_ y1238) LL (0 : Int)) (either (fun y1255 : Int => (some (y1238.1, (0 : Int)))) (fun y1256 : Unit => (some ([], (13 : Int)))))))) (either (fun y1239 : Unit => (some ([], (13 : Int)))) (fun y1240 : Int => (some ([], y1240))))))) (fun y845 : Int => (some ([], y845)))))))
theorem ref03_Values_is : stepO E cp57 ce3 18 [rA tsGraph g_] = Option.bind (ref03_Values g_) (fun y : ((List I4) × Int) => some (.tup [.one (.ow tsI4 y.1 (.s 0)), ri y.2] : R)) := by
  refine .trans ?_ (bif_b some_b (bif_b some_b (bind_b (either_b (fun y844 => (bind_b (either_b (fun y1238 => (bif_b some_b (bind_b (either_b (fun y1255 => some_b) (fun y1256 => some_b))))) (either_b (fun y1239 => some_b) (fun y1240 => some_b))))) (fun y845 => some_b)))))
  refine (stepG_is (nt := 151) (regs := [(0, rA tsGraph g_)])).trans ?_
  refine (pre1 (ref03_Values_f1 g_ _)).trans ?_
  refine .trans seq_push ?_
  refine (pre1 (ref03_Values_r1 g_ _)).trans ?_
  refine (cond_e (b := (ref03_Values_r1_p g_)) (st' := (S60_0 g_)) ).trans (bif_g ?_ ?_)
  · refine (pre1 (ref03_Values_fz g_ _)).trans ?_
    refine (ret_eq).trans ?_
    refine seqC_ret.trans ?_
    kernel_rfl
  · refine (skip_eq).trans ?_
    refine (seqC_normal (st' := (S60_0 g_))).trans ?_
    refine .trans seq_push ?_
    refine (pre1 (ref03_Values_r3 g_ _)).trans ?_
    refine (cond_e (b := (ref03_Values_r3_p g_)) (st' := (S60_0 g_)) ).trans (bif_g ?_ ?_)
    · refine (pre1 (ref03_Values_fzx1 g_ _)).trans ?_
      refine (ret_eq).trans ?_
      refine seqC_ret.trans ?_
      kernel_rfl
    · refine (skip_eq).trans ?_
      refine (seqC_normal (st' := (S60_0 g_))).trans ?_
      refine (pre1 (ref03_Values_f6 g_ _)).trans ?_
      refine .trans seq_push ?_
      refine (pre1 (ref03_Values_f7 g_ _)).trans ?_
      refine (block_push (id := 0)).trans ?_
      refine (ref03_Values_l7 g_ _).trans (bind_g (either_g (fun y844 => ?_) (fun y845 => ?_)))
      · refine block_same.trans ?_
        refine (seqC_normal (st' := (S60_9 g_ y844))).trans ?_
        refine (pre1 (ref03_Values_f15 g_ y844 _)).trans ?_
        refine .trans seq_push ?_
        refine (pre1 (ref03_Values_f16 g_ y844 _)).trans ?_
        refine (block_push (id := 2)).trans ?_
        refine (ref03_Values_l16 g_ y844 _).trans (bind_g (either_g (fun y1238 => ?_) (either_g (fun y1239 => ?_) (fun y1240 => ?_))))
        · refine block_same.trans ?_
          refine (seqC_normal (st' := (S60_27 g_ y1238))).trans ?_
          refine .trans seq_push ?_
          refine (pre1 (ref03_Values_f1000032 g_ y1238 _)).trans ?_
          refine (cond_e (b := (decide (y1238.2.1 > 4096))) (st' := (S60_28 g_ y1238)) ).trans (bif_g ?_ ?_)
          · refine (pre1 (ref03_Values_fzx9 g_ y1238 _)).trans ?_
            refine (ret_eq).trans ?_
            refine seqC_ret.trans ?_
            kernel_rfl
          · refine (skip_eq).trans ?_
            refine (seqC_normal (st' := (S60_28 g_ y1238))).trans ?_
            refine .trans seq_push ?_
            refine (pre1 (ref03_Values_f34 g_ y1238 _)).trans ?_
            refine (block_push (id := 6)).trans ?_
            refine (ref03_Values_l34 g_ y1238 _).trans (bind_g (either_g (fun y1255 => ?_) (fun y1256 => ?_)))
            · refine block_same.trans ?_
              refine (seqC_normal (st' := ⟨[(4, rO tsI4 y1238.1 4)], [], [], 151⟩)).trans ?_
              refine (pre1 (ref03_Values_fzx12 y1238 _)).trans ?_
              refine (ret_eq).trans ?_
              kernel_rfl
            · refine block_ret.trans ?_
              refine seqC_ret.trans ?_
              kernel_rfl
        · refine block_ret.trans ?_
          refine seqC_ret.trans ?_
          kernel_rfl
        · refine block_ret.trans ?_
          refine seqC_ret.trans ?_
          kernel_rfl
      · refine block_ret.trans ?_
        refine seqC_ret.trans ?_
        kernel_rfl
noncomputable def cp58 : CallP := withC cp57 18 [(.agg tsGraph)] (.tup [(.one (.ow tsI4)), pI]) (fun y : ((List I4) × Int) => (y.1, y.2, ())) (fun x => ref03_Values x.1)
theorem cp58_ok : PureOK E cp58 := conO eok cp57_ok ce3_ok fun x => Eq.mp (by kernel_rfl) (ref03_Values_is x.1)
end
end Go.V.P
