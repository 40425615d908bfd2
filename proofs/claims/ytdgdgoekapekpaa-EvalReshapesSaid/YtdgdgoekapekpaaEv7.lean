/- What functions compute. -/
import Derived.Test.YtdgdgoekapekpaaEv6
namespace Go.V.P
open Go.RowKit Go.V Go.Proofs
set_option linter.unusedVariables false
set_option maxRecDepth 100000
section
variable {α β : Type} (n_ : Node) (s_ : I3) (k : St → Option α)
noncomputable abbrev C90 := codeOf E.P 26
noncomputable abbrev P90 := @preK α E 26 cp86 ce4
abbrev S90_0 : St := ⟨[(2, rC a00 n_), (3, rC tsI3 s_)], [], [], 46⟩
theorem d5n : P90 1 C90 ⟨[(0, rA a00 n_), (1, rA tsI3 s_)], [], [], 46⟩ k = k (S90_0 n_ s_) := by kernel_rfl
abbrev S90_1 : St := ⟨[(2, rC a00 n_), (3, rC tsI3 s_), (7, ri n_.1)], [], [], 46⟩
theorem d5o : P90 1 C90.r.l (S90_0 n_ s_) k = k (S90_1 n_ s_) := by kernel_rfl
theorem b88 : P90 1 C90.r.l.r.b (S90_1 n_ s_) k = k ⟨[(2, rC a00 n_), (3, rC tsI3 s_), (7, ri n_.1), (8, rb (n_.1 == 1))], [], [], 46⟩ := by kernel_rfl
def b3j (K : Int → β) : β := (K (IntKind.wrap .i64 ((IntKind.wrap .i64 ((IntKind.wrap .i64 (n_.2.2.1 * n_.2.2.1)) * s_.2.2)) * n_.2.2.2.2.2.1)))
def a7h : Int := b3j n_ s_ (fun y => y)
theorem c7o (K : Int → β) : b3j n_ s_ K = K (a7h n_ s_) := rfl
theorem d5r : P90 1 C90.r.l.r.b.r.t (S90_1 n_ s_) k = k ⟨[(4, ri (a7h n_ s_)), (5, ri n_.2.2.2.2.2.1)], [], [], 46⟩ := Eq.trans (by kernel_rfl) (c7o n_ s_ (fun y2076 : Int => k ⟨[(4, ri y2076), (5, ri n_.2.2.2.2.2.1)], [], [], 46⟩))
theorem b89 : P90 1 C90.r.l.r.b.r.e (S90_1 n_ s_) k = k ⟨[(2, rC a00 n_), (3, rC tsI3 s_), (7, ri n_.1), (23, rb (n_.1 == 2))], [], [], 46⟩ := by kernel_rfl
theorem d5p : P90 1 C90.r.l.r.b.r.e.r.t (S90_1 n_ s_) k = k ⟨[(4, ri (IntKind.wrap .i64 ((IntKind.wrap .i64 (n_.2.2.1 * n_.2.2.1)) * s_.2.2))), (5, ri s_.2.2)], [], [], 46⟩ := by kernel_rfl
theorem b8a : P90 1 C90.r.l.r.b.r.e.r.e (S90_1 n_ s_) k = k ⟨[(2, rC a00 n_), (3, rC tsI3 s_), (7, ri n_.1), (35, rb (n_.1 == 3))], [], [], 46⟩ := by kernel_rfl
theorem c7l : P90 1 C90.r.l.r.b.r.e.r.e.r.t (S90_1 n_ s_) k = k ⟨[(4, ri (IntKind.wrap .i64 ((a1r s_) * n_.2.2.2.2.2.1))), (5, ri n_.2.2.2.2.2.1)], [], [], 46⟩ := by kernel_rfl
theorem b8b : P90 1 C90.r.l.r.b.r.e.r.e.r.e (S90_1 n_ s_) k = k ⟨[(44, rb (n_.1 == 12))], [], [], 46⟩ := by kernel_rfl
theorem c7m : P90 1 C90.r.l.r.b.r.e.r.e.r.e.r.t ⟨[], [], [], 46⟩ k = k ⟨[(4, ri 256), (5, ri 0)], [], [], 46⟩ := by kernel_rfl
theorem c7n : P90 1 C90.r.r ⟨[], [], [], 46⟩ k = k ⟨[(4, ri 0), (5, ri 0)], [], [], 46⟩ := by kernel_rfl
/-- quilt/quiltref03.many -/
def b2e (K : (Int × Int) → β) : β := (bif (n_.1 == 1) then (K ((a7h n_ s_), n_.2.2.2.2.2.1)) else (bif (n_.1 == 2) then (K ((IntKind.wrap .i64 ((IntKind.wrap .i64 (n_.2.2.1 * n_.2.2.1)) * s_.2.2)), s_.2.2)) else (bif (n_.1 == 3) then (K ((IntKind.wrap .i64 ((a1r s_) * n_.2.2.2.2.2.1)), n_.2.2.2.2.2.1)) else (bif (n_.1 == 12) then (K ((256 : Int), (0 : Int))) else (K ((0 : Int), (0 : Int)))))))
def b0m : (Int × Int) := b2e n_ s_ (fun y => y)
theorem e0k (K : (Int × Int) → β) : b2e n_ s_ K = K (b0m n_ s_) := (bif_k K rfl (bif_k K rfl (bif_k K rfl (bif_k K rfl rfl))))
theorem d5q : stepS E cp86 ce4 26 [rA a00 n_, rA tsI3 s_] = (fun y : (Int × Int) => some (.tup [ri y.1, ri y.2] : R)) (b0m n_ s_) := by
  refine Eq.trans ?_ (e0k n_ s_ (fun y : (Int × Int) => some (.tup [ri y.1, ri y.2] : R)))
  refine (stepG_is (nt := 46) (regs := [(0, rA a00 n_), (1, rA tsI3 s_)])).trans ?_
  unfold b2e
  refine (pre1 (d5n n_ s_ _)).trans ?_
  refine .trans seq_push ?_
  refine (pre1 (d5o n_ s_ _)).trans ?_
  refine (block_push (id := 0)).trans ?_
  refine (pre1 (b88 n_ s_ _)).trans ?_
  refine (cond_e (b := (n_.1 == 1)) (st' := (S90_1 n_ s_)) ).trans (bif_g ?_ ?_)
  · refine (pre1 (d5r n_ s_ _)).trans ?_
    refine (ret_eq).trans ?_
    refine block_ret.trans ?_
    refine seqC_ret.trans ?_
    kernel_rfl
  · refine (pre1 (b89 n_ s_ _)).trans ?_
    refine (cond_e (b := (n_.1 == 2)) (st' := (S90_1 n_ s_)) ).trans (bif_g ?_ ?_)
    · refine (pre1 (d5p n_ s_ _)).trans ?_
      refine (ret_eq).trans ?_
      refine block_ret.trans ?_
      refine seqC_ret.trans ?_
      kernel_rfl
    · refine (pre1 (b8a n_ s_ _)).trans ?_
      refine (cond_e (b := (n_.1 == 3)) (st' := (S90_1 n_ s_)) ).trans (bif_g ?_ ?_)
      · refine (pre1 (c7l n_ s_ _)).trans ?_
        refine (ret_eq).trans ?_
        refine block_ret.trans ?_
        refine seqC_ret.trans ?_
        kernel_rfl
      · refine (pre1 (b8b n_ s_ _)).trans ?_
        refine (cond_e (b := (n_.1 == 12)) (st' := ⟨[], [], [], 46⟩) ).trans (bif_g ?_ ?_)
        · refine (pre1 (c7m _)).trans ?_
          refine (ret_eq).trans ?_
          refine block_ret.trans ?_
          refine seqC_ret.trans ?_
          kernel_rfl
        · refine (skip_eq).trans ?_
          refine block_normal.trans ?_
          refine (seqC_normal (st' := ⟨[], [], [], 46⟩)).trans ?_
          refine (pre1 (c7n _)).trans ?_
          refine (ret_eq).trans ?_
          kernel_rfl
noncomputable def cp87 : CallP := withC cp86 26 [(.agg a00), (.agg tsI3)] (.tup [pI, pI]) (fun y : (Int × Int) => (y.1, y.2, ())) (fun x => some (b0m x.1 x.2.1))
theorem e63 : PureOK E cp87 := conS eok e62 a0o fun x => Eq.mp (by kernel_rfl) (d5q x.1 x.2.1)
end
section
variable {α β : Type} (n_ : Node) (l_ : (List I4)) (s2026 : Int) (s2042 : Int) (y2074 : I3) (y2077 : (Int × Int)) (s2091 : Int) (k : St → Option α) (q : Kont α)
noncomputable abbrev C91 := codeOf E.P 18
noncomputable abbrev P91 := @preK α E 18 cp87 ce4
noncomputable abbrev R91 := @runCode α E 18 cp87 ce4
abbrev S91_0 : St := ⟨[(1, rl tsI4 l_), (2, rC a00 n_), (4, rF 0)], [[di 0, di 0, di 0, di 0]], [], 101⟩
theorem d1m : P91 1 C91 ⟨[(0, rA a00 n_), (1, rl tsI4 l_)], [], [], 101⟩ k = k (S91_0 n_ l_) := by kernel_rfl
theorem b6n : P91 1 C91.r.l (S91_0 n_ l_) k = k ⟨[(1, rl tsI4 l_), (2, rC a00 n_), (4, rF 0), (16, rb (!(a55 n_ (l_.length : Int))))], [[di 0, di 0, di 0, di 0]], [], 101⟩ := by kernel_rfl
abbrev S91_1 : St := ⟨[(4, rF 0), (5, ri 11)], [[di 0, di 0, di 0, di 0]], [], 101⟩
theorem d1p : P91 1 C91.r.l.r.t (S91_0 n_ l_) k = k S91_1 := by kernel_rfl
abbrev S91_2 : St := ⟨[(1, rl tsI4 l_), (2, rC a00 n_), (4, rF 0), (6, ri 0)], [[di 0, di 0, di 0, di 0]], [], 101⟩
theorem d1n : P91 1 C91.r.r.l (S91_0 n_ l_) k = k (S91_2 n_ l_) := by kernel_rfl
abbrev S91_3 : St := ⟨[(1, rl tsI4 l_), (2, rC a00 n_), (4, rF 0), (6, ri s2026)], [[di 0, di 0, di 0, di 0]], [], 101⟩
theorem c3b : P91 1 C91.r.r.l.r.b.b.l (S91_3 n_ l_ s2026) k = k ⟨[(1, rl tsI4 l_), (2, rC a00 n_), (4, rF 0), (6, ri s2026), (21, rb (decide (s2026 < (l_.length : Int))))], [[di 0, di 0, di 0, di 0]], [], 101⟩ := by kernel_rfl
def b27 : Option Bool := (bif (a8r n_.1) then (bif (decide ((0 : Int) ≤ s2026)) then (bif (decide (s2026 < (l_.length : Int))) then (some (((gt l_ s2026 dI4).2.2.2) != n_.2.2.2.2.2.2.2.2.1)) else none) else none) else (some false))
theorem d1u : P91 1 C91.r.r.l.r.b.b.r.l.b (S91_3 n_ l_ s2026) k = Option.bind (b27 n_ l_ s2026) (fun y2028 : Bool => k ⟨[(1, rl tsI4 l_), (2, rC a00 n_), (4, rF 0), (6, ri s2026), (36, rb y2028)], [[di 0, di 0, di 0, di 0]], [], 101⟩) := .trans (by kernel_rfl) (bif_b (bif_b (bif_b some_b none_b) none_b) some_b)
theorem c3c : P91 1 C91.r.r.l.r.b.b.r.l.b.r.t (S91_3 n_ l_ s2026) k = k S91_1 := by kernel_rfl
theorem d1t : R91 C91.r.r.l.r.b.b.r.r (S91_3 n_ l_ s2026) q = q .normal ⟨[(1, rl tsI4 l_), (2, rC a00 n_), (4, rF 0), (6, ri (IntKind.wrap .i64 (s2026 + 1)))], [[di 0, di 0, di 0, di 0]], [], 101⟩ := by kernel_rfl
def a61 : Option (Int ⊕ (Int ⊕ Unit)) := (bif (decide (s2026 < (l_.length : Int))) then (Option.bind (b27 n_ l_ s2026) (fun y2028 : Bool => (bif y2028 then (some (Sum.inr (Sum.inr ()))) else (some (Sum.inl (IntKind.wrap .i64 (s2026 + 1))))))) else (some (Sum.inr (Sum.inl s2026))))
abbrev S91_4 (y2029 : Int) : St := ⟨[(1, rl tsI4 l_), (2, rC a00 n_), (4, rF 0), (6, ri y2029)], [[di 0, di 0, di 0, di 0]], [], 101⟩
theorem c3k : R91 C91.r.r.l.r.b.b (S91_3 n_ l_ s2026) (loopKont 1 q) = Option.bind (a61 n_ l_ s2026) (either (fun y : Int => q .normal ⟨[(1, rl tsI4 l_), (2, rC a00 n_), (4, rF 0), (6, ri y)], [[di 0, di 0, di 0, di 0]], [], 101⟩) (either (fun y2029 : Int => q (.exit 0) (S91_4 n_ l_ y2029)) (fun y2030 : Unit => q .ret S91_1))) := by
  refine .trans ?_ (bif_b (bind_b fun y2028 => (bif_b e3_2 e3_0)) e3_1)
  refine .trans seq_push ?_
  refine (pre1 (c3b n_ l_ s2026 _)).trans ?_
  refine (cond_e (b := (decide (s2026 < (l_.length : Int)))) (st' := (S91_3 n_ l_ s2026)) ).trans (bif_g ?_ ?_)
  · refine (skip_eq).trans ?_
    refine (seqC_normal (st' := (S91_3 n_ l_ s2026))).trans ?_
    refine .trans seq_push ?_
    refine (block_push (id := 1)).trans ?_
    refine (pre1 (d1u n_ l_ s2026 _)).trans (bind_g fun y2028 => ?_)
    refine (cond_e (b := y2028) (st' := (S91_3 n_ l_ s2026)) ).trans (bif_g ?_ ?_)
    · refine (pre1 (c3c n_ l_ s2026 _)).trans ?_
      refine (ret_eq).trans ?_
      refine block_ret.trans ?_
      refine seqC_ret.trans ?_
      kernel_rfl
    · refine (skip_eq).trans ?_
      refine block_normal.trans ?_
      refine (seqC_normal (st' := (S91_3 n_ l_ s2026))).trans ?_
      refine (d1t n_ l_ s2026 _).trans ?_
      kernel_rfl
  · refine ((exit_eq (j := 0))).trans ?_
    refine seqC_exit.trans ?_
    kernel_rfl
theorem d1r : R91 C91.r.r.l.r.b (S91_2 n_ l_) q = Option.bind (iterN (a61 n_ l_) LL (0 : Int)) (either (fun y2029 : Int => q (.exit 0) (S91_4 n_ l_ y2029)) (fun y2030 : Unit => q .ret S91_1)) :=
  Eq.trans (by kernel_rfl) (loop_iter2 (S := fun s2026 : Int => (S91_3 n_ l_ s2026)) (Y1 := fun y2029 : Int => ((.exit 0), (S91_4 n_ l_ y2029))) (Y2 := fun y2030 : Unit => (.ret, S91_1)) (fun s q => c3k n_ l_ s q) (fun z => rfl) (fun z => rfl) LL (0 : Int))
abbrev S91_5 : St := ⟨[(1, rl tsI4 l_), (2, rC a00 n_), (4, rF 0), (7, ri 0)], [[di 0, di 0, di 0, di 0]], [], 101⟩
theorem d1o : P91 1 C91.r.r.r.l (S91_0 n_ l_) k = k (S91_5 n_ l_) := by kernel_rfl
abbrev S91_6 : St := ⟨[(1, rl tsI4 l_), (2, rC a00 n_), (4, rF 0), (7, ri s2042)], [[di 0, di 0, di 0, di 0]], [], 101⟩
theorem c3d : P91 1 C91.r.r.r.l.r.b.b.l (S91_6 n_ l_ s2042) k = k ⟨[(1, rl tsI4 l_), (2, rC a00 n_), (4, rF 0), (7, ri s2042), (41, rb (decide (s2042 < (l_.length : Int))))], [[di 0, di 0, di 0, di 0]], [], 101⟩ := by kernel_rfl
def b02 : Option Bool := (bif (decide ((0 : Int) ≤ s2042)) then (bif (decide (s2042 < (l_.length : Int))) then (some ((a1l ((gt l_ s2042 dI4).1, (gt l_ s2042 dI4).2.1, (gt l_ s2042 dI4).2.2.1)) != 0)) else none) else none)
theorem c6v : P91 1 C91.r.r.r.l.r.b.b.r.l.b (S91_6 n_ l_ s2042) k = Option.bind (b02 l_ s2042) (fun y2044 : Bool => k ⟨[(1, rl tsI4 l_), (2, rC a00 n_), (4, rF 0), (7, ri s2042), (50, rb y2044)], [[di 0, di 0, di 0, di 0]], [], 101⟩) := .trans (by kernel_rfl) (bif_b (bif_b some_b none_b) none_b)
abbrev S91_7 : St := ⟨[(4, rF 0), (5, ri 10)], [[di 0, di 0, di 0, di 0]], [], 101⟩
theorem c3e : P91 1 C91.r.r.r.l.r.b.b.r.l.b.r.t (S91_6 n_ l_ s2042) k = k S91_7 := by kernel_rfl
theorem c6u : R91 C91.r.r.r.l.r.b.b.r.r (S91_6 n_ l_ s2042) q = q .normal ⟨[(1, rl tsI4 l_), (2, rC a00 n_), (4, rF 0), (7, ri (IntKind.wrap .i64 (s2042 + 1)))], [[di 0, di 0, di 0, di 0]], [], 101⟩ := by kernel_rfl
def a62 : Option (Int ⊕ (Int ⊕ Unit)) := (bif (decide (s2042 < (l_.length : Int))) then (Option.bind (b02 l_ s2042) (fun y2044 : Bool => (bif y2044 then (some (Sum.inr (Sum.inr ()))) else (some (Sum.inl (IntKind.wrap .i64 (s2042 + 1))))))) else (some (Sum.inr (Sum.inl s2042))))
abbrev S91_8 (y2045 : Int) : St := ⟨[(1, rl tsI4 l_), (2, rC a00 n_), (4, rF 0), (7, ri y2045)], [[di 0, di 0, di 0, di 0]], [], 101⟩
theorem c3l : R91 C91.r.r.r.l.r.b.b (S91_6 n_ l_ s2042) (loopKont 1 q) = Option.bind (a62 l_ s2042) (either (fun y : Int => q .normal ⟨[(1, rl tsI4 l_), (2, rC a00 n_), (4, rF 0), (7, ri y)], [[di 0, di 0, di 0, di 0]], [], 101⟩) (either (fun y2045 : Int => q (.exit 2) (S91_8 n_ l_ y2045)) (fun y2046 : Unit => q .ret S91_7))) := by
  refine .trans ?_ (bif_b (bind_b fun y2044 => (bif_b e3_2 e3_0)) e3_1)
  refine .trans seq_push ?_
  refine (pre1 (c3d n_ l_ s2042 _)).trans ?_
  refine (cond_e (b := (decide (s2042 < (l_.length : Int)))) (st' := (S91_6 n_ l_ s2042)) ).trans (bif_g ?_ ?_)
  · refine (skip_eq).trans ?_
    refine (seqC_normal (st' := (S91_6 n_ l_ s2042))).trans ?_
    refine .trans seq_push ?_
    refine (block_push (id := 3)).trans ?_
    refine (pre1 (c6v n_ l_ s2042 _)).trans (bind_g fun y2044 => ?_)
    refine (cond_e (b := y2044) (st' := (S91_6 n_ l_ s2042)) ).trans (bif_g ?_ ?_)
    · refine (pre1 (c3e n_ l_ s2042 _)).trans ?_
      refine (ret_eq).trans ?_
      refine block_ret.trans ?_
      refine seqC_ret.trans ?_
      kernel_rfl
    · refine (skip_eq).trans ?_
      refine block_normal.trans ?_
      refine (seqC_normal (st' := (S91_6 n_ l_ s2042))).trans ?_
      refine (c6u n_ l_ s2042 _).trans ?_
      kernel_rfl
  · refine ((exit_eq (j := 2))).trans ?_
    refine seqC_exit.trans ?_
    kernel_rfl
theorem d1s : R91 C91.r.r.r.l.r.b (S91_5 n_ l_) q = Option.bind (iterN (a62 l_) LL (0 : Int)) (either (fun y2045 : Int => q (.exit 2) (S91_8 n_ l_ y2045)) (fun y2046 : Unit => q .ret S91_7)) :=
  Eq.trans (by kernel_rfl) (loop_iter2 (S := fun s2042 : Int => (S91_6 n_ l_ s2042)) (Y1 := fun y2045 : Int => ((.exit 2), (S91_8 n_ l_ y2045))) (Y2 := fun y2046 : Unit => (.ret, S91_7)) (fun s q => c3l n_ l_ s q) (fun z => rfl) (fun z => rfl) LL (0 : Int))
abbrev S91_9 : St := ⟨[(1, rl tsI4 l_), (2, rC a00 n_), (4, rF 0), (8, rF 1)], [[di 0, di 0, di 0, di 0], (tsI3.leaves y2074)], [], 101⟩
theorem c6w : P91 1 C91.r.r.r.r (S91_0 n_ l_) k = Option.bind (b0l n_ l_) fun y2074 : I3 => k (S91_9 n_ l_ y2074) := by kernel_rfl
theorem b6o : P91 1 C91.r.r.r.r.r.l (S91_9 n_ l_ y2074) k = k ⟨[(1, rl tsI4 l_), (2, rC a00 n_), (4, rF 0), (8, rF 1), (57, rb ((a1l y2074) != 0))], [[di 0, di 0, di 0, di 0], (tsI3.leaves y2074)], [], 101⟩ := by kernel_rfl
theorem c3f : P91 1 C91.r.r.r.r.r.l.r.t (S91_9 n_ l_ y2074) k = k ⟨[(4, rF 0), (5, ri 10)], [[di 0, di 0, di 0, di 0], []], [], 101⟩ := by kernel_rfl
def b03 : Option (Int × Int) := (bif (decide ((0 : Int) < (l_.length : Int))) then (some (b0m n_ ((gt l_ (0 : Int) dI4).1, (gt l_ (0 : Int) dI4).2.1, (gt l_ (0 : Int) dI4).2.2.1))) else none)
abbrev e3g : St := ⟨[(2, rC a00 n_), (4, rF 0), (8, rF 1), (9, ri y2077.1), (10, ri y2077.2)], [[di 0, di 0, di 0, di 0], (tsI3.leaves y2074)], [], 101⟩
theorem c6x : P91 1 C91.r.r.r.r.r.r (S91_9 n_ l_ y2074) k = Option.bind (b03 n_ l_) (fun y2077 : (Int × Int) => k (e3g n_ y2074 y2077)) := .trans (by kernel_rfl) (bif_b some_b none_b)
def b04 (K : Bool → β) : β := (bif ((n_.2.2.2.2.2.2.2.2.2.2.2.2.1.length : Int) != y2077.1) then (K true) else (K ((n_.2.2.2.2.2.2.2.2.2.2.2.2.2.length : Int) != y2077.2)))
def a2r : Bool := b04 n_ y2077 (fun y => y)
theorem c13 (K : Bool → β) : b04 n_ y2077 K = K (a2r n_ y2077) := (bif_k K rfl rfl)
theorem c6y : P91 1 C91.r.r.r.r.r.r.r.l (e3g n_ y2074 y2077) k = k ⟨[(2, rC a00 n_), (4, rF 0), (8, rF 1), (79, rb (a2r n_ y2077))], [[di 0, di 0, di 0, di 0], (tsI3.leaves y2074)], [], 101⟩ := Eq.trans (by kernel_rfl) (c13 n_ y2077 (fun y2079 : Bool => k ⟨[(2, rC a00 n_), (4, rF 0), (8, rF 1), (79, rb y2079)], [[di 0, di 0, di 0, di 0], (tsI3.leaves y2074)], [], 101⟩))
abbrev b4t : St := ⟨[(2, rC a00 n_), (4, rF 0), (8, rF 1)], [[di 0, di 0, di 0, di 0], (tsI3.leaves y2074)], [], 101⟩
abbrev b8m : St := ⟨[(4, rF 0), (5, ri 12)], [[di 0, di 0, di 0, di 0], []], [], 101⟩
theorem c3g : P91 1 C91.r.r.r.r.r.r.r.l.r.t (b4t n_ y2074) k = k b8m := by kernel_rfl
abbrev e3h : St := ⟨[(2, rC a00 n_), (4, rF 0), (8, rF 1), (11, ri 0)], [[di 0, di 0, di 0, di 0], (tsI3.leaves y2074)], [], 101⟩
theorem c6s : P91 1 C91.r.r.r.r.r.r.r.r.l (b4t n_ y2074) k = k (e3h n_ y2074) := by kernel_rfl
abbrev a5k : St := ⟨[(2, rC a00 n_), (4, rF 0), (8, rF 1), (11, ri s2091)], [[di 0, di 0, di 0, di 0], (tsI3.leaves y2074)], [], 101⟩
theorem c3h : P91 1 C91.r.r.r.r.r.r.r.r.l.r.b.b.l (a5k n_ y2074 s2091) k = k ⟨[(2, rC a00 n_), (4, rF 0), (8, rF 1), (11, ri s2091), (85, rb (decide (s2091 < (n_.2.2.2.2.2.2.2.2.2.2.2.2.2.length : Int))))], [[di 0, di 0, di 0, di 0], (tsI3.leaves y2074)], [], 101⟩ := by kernel_rfl
def b05 : Option Bool := (bif (decide ((0 : Int) ≤ s2091)) then (bif (decide (s2091 < (n_.2.2.2.2.2.2.2.2.2.2.2.2.2.length : Int))) then (some (!(a0v (IntKind.wrap .i64 (gt n_.2.2.2.2.2.2.2.2.2.2.2.2.2 s2091 (0 : Int))) (-16777216 : Int) (16777216 : Int)))) else none) else none)
theorem c70 : P91 1 C91.r.r.r.r.r.r.r.r.l.r.b.b.r.l.b (a5k n_ y2074 s2091) k = Option.bind (b05 n_ s2091) (fun y2093 : Bool => k ⟨[(2, rC a00 n_), (4, rF 0), (8, rF 1), (11, ri s2091), (95, rb y2093)], [[di 0, di 0, di 0, di 0], (tsI3.leaves y2074)], [], 101⟩) := .trans (by kernel_rfl) (bif_b (bif_b some_b none_b) none_b)
theorem c3i : P91 1 C91.r.r.r.r.r.r.r.r.l.r.b.b.r.l.b.r.t (a5k n_ y2074 s2091) k = k b8m := by kernel_rfl
theorem c6z : R91 C91.r.r.r.r.r.r.r.r.l.r.b.b.r.r (a5k n_ y2074 s2091) q = q .normal ⟨[(2, rC a00 n_), (4, rF 0), (8, rF 1), (11, ri (IntKind.wrap .i64 (s2091 + 1)))], [[di 0, di 0, di 0, di 0], (tsI3.leaves y2074)], [], 101⟩ := by kernel_rfl
def a5d : Option (Int ⊕ (Int ⊕ Unit)) := (bif (decide (s2091 < (n_.2.2.2.2.2.2.2.2.2.2.2.2.2.length : Int))) then (Option.bind (b05 n_ s2091) (fun y2093 : Bool => (bif y2093 then (some (Sum.inr (Sum.inr ()))) else (some (Sum.inl (IntKind.wrap .i64 (s2091 + 1))))))) else (some (Sum.inr (Sum.inl s2091))))
abbrev d76 (y2094 : Int) : St := ⟨[(2, rC a00 n_), (4, rF 0), (8, rF 1), (11, ri y2094)], [[di 0, di 0, di 0, di 0], (tsI3.leaves y2074)], [], 101⟩
theorem c0z : R91 C91.r.r.r.r.r.r.r.r.l.r.b.b (a5k n_ y2074 s2091) (loopKont 2 q) = Option.bind (a5d n_ s2091) (either (fun y : Int => q .normal ⟨[(2, rC a00 n_), (4, rF 0), (8, rF 1), (11, ri y)], [[di 0, di 0, di 0, di 0], (tsI3.leaves y2074)], [], 101⟩) (either (fun y2094 : Int => q (.exit 4) (d76 n_ y2074 y2094)) (fun y2095 : Unit => q .ret b8m))) := by
  refine .trans ?_ (bif_b (bind_b fun y2093 => (bif_b e3_2 e3_0)) e3_1)
  refine .trans seq_push ?_
  refine (pre1 (c3h n_ y2074 s2091 _)).trans ?_
  refine (cond_e (b := (decide (s2091 < (n_.2.2.2.2.2.2.2.2.2.2.2.2.2.length : Int)))) (st' := (a5k n_ y2074 s2091)) ).trans (bif_g ?_ ?_)
  · refine (skip_eq).trans ?_
    refine (seqC_normal (st' := (a5k n_ y2074 s2091))).trans ?_
    refine .trans seq_push ?_
    refine (block_push (id := 5)).trans ?_
    refine (pre1 (c70 n_ y2074 s2091 _)).trans (bind_g fun y2093 => ?_)
    refine (cond_e (b := y2093) (st' := (a5k n_ y2074 s2091)) ).trans (bif_g ?_ ?_)
    · refine (pre1 (c3i n_ y2074 s2091 _)).trans ?_
      refine (ret_eq).trans ?_
      refine block_ret.trans ?_
      refine seqC_ret.trans ?_
      kernel_rfl
    · refine (skip_eq).trans ?_
      refine block_normal.trans ?_
      refine (seqC_normal (st' := (a5k n_ y2074 s2091))).trans ?_
      refine (c6z n_ y2074 s2091 _).trans ?_
      kernel_rfl
  · refine ((exit_eq (j := 4))).trans ?_
    refine seqC_exit.trans ?_
    kernel_rfl
theorem c6t : R91 C91.r.r.r.r.r.r.r.r.l.r.b (e3h n_ y2074) q = Option.bind (iterN (a5d n_) LL (0 : Int)) (either (fun y2094 : Int => q (.exit 4) (d76 n_ y2074 y2094)) (fun y2095 : Unit => q .ret b8m)) :=
  Eq.trans (by kernel_rfl) (loop_iter2 (S := fun s2091 : Int => (a5k n_ y2074 s2091)) (Y1 := fun y2094 : Int => ((.exit 4), (d76 n_ y2074 y2094))) (Y2 := fun y2095 : Unit => (.ret, b8m)) (fun s q => c0z n_ y2074 s q) (fun z => rfl) (fun z => rfl) LL (0 : Int))
theorem c3j : P91 1 C91.r.r.r.r.r.r.r.r.r (b4t n_ y2074) k = k ⟨[(4, rF 0), (5, ri 0)], [[di y2074.1, di y2074.2.1, di y2074.2.2, di n_.2.2.2.2.2.2.2.2.1], []], [], 101⟩ := by kernel_rfl
/-- quilt/quiltref03.Value -/
def a8q : Option (I4 × Int) := (bif (!(a55 n_ (l_.length : Int))) then (some (((0 : Int), (0 : Int), (0 : Int), (0 : Int)), (11 : Int))) else (Option.bind (iterN (a61 n_ l_) LL (0 : Int)) (either (fun y2029 : Int => (Option.bind (iterN (a62 l_) LL (0 : Int)) (either (fun y2045 : Int => (Option.bind (b0l n_ l_) (fun y2074 : I3 => (bif ((a1l y2074) != 0) then (some (((0 : Int), (0 : Int), (0 : Int), (0 : Int)), (10 : Int))) else (Option.bind (b03 n_ l_) (fun y2077 : (Int × Int) => (bif (a2r n_ y2077) then (some (((0 : Int), (0 : Int), (0 : Int), (0 : Int)), (12 : Int))) else (Option.bind (iterN (a5d n_) LL (0 : Int)) (either (fun y2094 : Int => (some ((y2074.1, y2074.2.1, y2074.2.2, n_.2.2.2.2.2.2.2.2.1), (0 : Int)))) (fun y2095 : Unit => (some (((0 : Int), (0 : Int), (0 : Int), (0 : Int)), (12 : Int))))))))))))) (fun y2046 : Unit => (some (((0 : Int), (0 : Int), (0 : Int), (0 : Int)), (10 : Int))))))) (fun y2030 : Unit => (some (((0 : Int), (0 : Int), (0 : Int), (0 : Int)), (11 : Int)))))))
theorem d1q : stepS E cp87 ce4 18 [rA a00 n_, rl tsI4 l_] = Option.bind (a8q n_ l_) (fun y : (I4 × Int) => some (.tup [rA tsI4 y.1, ri y.2] : R)) := by
  refine .trans ?_ (bif_b some_b (bind_b (either_b (fun y2029 => (bind_b (either_b (fun y2045 => (bind_b fun y2074 => (bif_b some_b (bind_b fun y2077 => (bif_b some_b (bind_b (either_b (fun y2094 => some_b) (fun y2095 => some_b)))))))) (fun y2046 => some_b)))) (fun y2030 => some_b))))
  refine (stepG_is (nt := 101) (regs := [(0, rA a00 n_), (1, rl tsI4 l_)])).trans ?_
  refine (pre1 (d1m n_ l_ _)).trans ?_
  refine .trans seq_push ?_
  refine (pre1 (b6n n_ l_ _)).trans ?_
  refine (cond_e (b := (!(a55 n_ (l_.length : Int)))) (st' := (S91_0 n_ l_)) ).trans (bif_g ?_ ?_)
  · refine (pre1 (d1p n_ l_ _)).trans ?_
    refine (ret_eq).trans ?_
    refine seqC_ret.trans ?_
    kernel_rfl
  · refine (skip_eq).trans ?_
    refine (seqC_normal (st' := (S91_0 n_ l_))).trans ?_
    refine .trans seq_push ?_
    refine (pre1 (d1n n_ l_ _)).trans ?_
    refine (block_push (id := 0)).trans ?_
    refine (d1r n_ l_ _).trans (bind_g (either_g (fun y2029 => ?_) (fun y2030 => ?_)))
    · refine block_same.trans ?_
      refine (seqC_normal (st' := (S91_0 n_ l_))).trans ?_
      refine .trans seq_push ?_
      refine (pre1 (d1o n_ l_ _)).trans ?_
      refine (block_push (id := 2)).trans ?_
      refine (d1s n_ l_ _).trans (bind_g (either_g (fun y2045 => ?_) (fun y2046 => ?_)))
      · refine block_same.trans ?_
        refine (seqC_normal (st' := (S91_0 n_ l_))).trans ?_
        refine (pre1 (c6w n_ l_ _)).trans (bind_g fun y2074 => ?_)
        refine .trans seq_push ?_
        refine (pre1 (b6o n_ l_ y2074 _)).trans ?_
        refine (cond_e (b := ((a1l y2074) != 0)) (st' := (S91_9 n_ l_ y2074)) ).trans (bif_g ?_ ?_)
        · refine (pre1 (c3f n_ l_ y2074 _)).trans ?_
          refine (ret_eq).trans ?_
          refine seqC_ret.trans ?_
          kernel_rfl
        · refine (skip_eq).trans ?_
          refine (seqC_normal (st' := (S91_9 n_ l_ y2074))).trans ?_
          refine (pre1 (c6x n_ l_ y2074 _)).trans (bind_g fun y2077 => ?_)
          refine .trans seq_push ?_
          refine (pre1 (c6y n_ y2074 y2077 _)).trans ?_
          refine (cond_e (b := (a2r n_ y2077)) (st' := (b4t n_ y2074)) ).trans (bif_g ?_ ?_)
          · refine (pre1 (c3g n_ y2074 _)).trans ?_
            refine (ret_eq).trans ?_
            refine seqC_ret.trans ?_
            kernel_rfl
          · refine (skip_eq).trans ?_
            refine (seqC_normal (st' := (b4t n_ y2074))).trans ?_
            refine .trans seq_push ?_
            refine (pre1 (c6s n_ y2074 _)).trans ?_
            refine (block_push (id := 4)).trans ?_
            refine (c6t n_ y2074 _).trans (bind_g (either_g (fun y2094 => ?_) (fun y2095 => ?_)))
            · refine block_same.trans ?_
              refine (seqC_normal (st' := (b4t n_ y2074))).trans ?_
              refine (pre1 (c3j n_ y2074 _)).trans ?_
              refine (ret_eq).trans ?_
              kernel_rfl
            · refine block_ret.trans ?_
              refine seqC_ret.trans ?_
              kernel_rfl
      · refine block_ret.trans ?_
        refine seqC_ret.trans ?_
        kernel_rfl
    · refine block_ret.trans ?_
      refine seqC_ret.trans ?_
      kernel_rfl
noncomputable def cp88 : CallP := withC cp87 18 [(.agg a00), (pL tsI4)] (.tup [(.agg tsI4), pI]) (fun y : (I4 × Int) => (y.1, y.2, ())) (fun x => a8q x.1 x.2.1)
theorem e64 : PureOK E cp88 := conS eok e63 a0o fun x => Eq.mp (by kernel_rfl) (d1q x.1 x.2.1)
end
section
variable {α β : Type} (g_ : Graph) (s1952 : ((List I4) × Int)) (y1963 : ((List I4) × Int)) (s2284 : ((List I4) × Int × Int)) (s2345 : ((List I4) × Int)) (y2351 : (List I4)) (y2352 : ((List I4) × Int)) (y2354 : (I4 × Int)) (y2357 : ((List I4) × Int × Int)) (s2371 : Int) (k : St → Option α) (q : Kont α)
noncomputable abbrev C92 := codeOf E.P 9
noncomputable abbrev P92 := @preK α E 9 cp88 ce4
noncomputable abbrev R92 := @runCode α E 9 cp88 ce4
abbrev S92_0 : St := ⟨[(1, rC a01 g_)], [], [], 151⟩
theorem c71 : P92 1 C92 ⟨[(0, rA a01 g_)], [], [], 151⟩ k = k (S92_0 g_) := by kernel_rfl
def b06 (K : Bool → β) : β := (bif (decide ((g_.1.length : Int) > 4)) then (K true) else (bif (decide ((g_.2.1.length : Int) > 12)) then (K true) else (K (decide ((g_.2.2.length : Int) > 4)))))
def a2s : Bool := b06 g_ (fun y => y)
theorem c1e (K : Bool → β) : b06 g_ K = K (a2s g_) := (bif_k K rfl (bif_k K rfl rfl))
theorem c77 : P92 1 C92.r.l (S92_0 g_) k = k ⟨[(1, rC a01 g_), (29, rb (a2s g_))], [], [], 151⟩ := Eq.trans (by kernel_rfl) (c1e g_ (fun y1911 : Bool => k ⟨[(1, rC a01 g_), (29, rb y1911)], [], [], 151⟩))
abbrev S92_1 : St := ⟨[(2, .one (.ow tsI4 [] (.v 2))), (3, ri 3)], [], [], 151⟩
theorem c74 : P92 1 C92.r.l.r.t (S92_0 g_) k = k S92_1 := by kernel_rfl
def b07 (K : Bool → β) : β := (bif ((g_.1.length : Int) == 0) then (K true) else (K ((g_.2.2.length : Int) == 0)))
def a2t : Bool := b07 g_ (fun y => y)
theorem c1f (K : Bool → β) : b07 g_ K = K (a2t g_) := (bif_k K rfl rfl)
theorem c78 : P92 1 C92.r.r.l (S92_0 g_) k = k ⟨[(1, rC a01 g_), (39, rb (a2t g_))], [], [], 151⟩ := Eq.trans (by kernel_rfl) (c1f g_ (fun y1913 : Bool => k ⟨[(1, rC a01 g_), (39, rb y1913)], [], [], 151⟩))
abbrev S92_2 : St := ⟨[(2, .one (.ow tsI4 [] (.v 2))), (3, ri 13)], [], [], 151⟩
theorem c14 : P92 1 C92.r.r.l.r.t (S92_0 g_) k = k S92_2 := by kernel_rfl
abbrev S92_3 : St := ⟨[(1, rC a01 g_), (4, .one (.ow tsI4 [] (.v 4)))], [], [], 151⟩
theorem c72 : P92 1 C92.r.r.r (S92_0 g_) k = k (S92_3 g_) := by kernel_rfl
abbrev S92_4 : St := ⟨[(1, rC a01 g_), (4, .one (.ow tsI4 [] (.v 4))), (5, ri 0)], [], [], 151⟩
theorem c73 : P92 1 C92.r.r.r.r.l (S92_3 g_) k = k (S92_4 g_) := by kernel_rfl
abbrev S92_5 : St := ⟨[(1, rC a01 g_), (4, rO tsI4 s1952.1 4), (5, ri s1952.2)], [], [], 151⟩
theorem c15 : P92 1 C92.r.r.r.r.l.r.b.b.l (S92_5 g_ s1952) k = k ⟨[(1, rC a01 g_), (4, rO tsI4 s1952.1 4), (5, ri s1952.2), (45, rb (decide (s1952.2 < (g_.1.length : Int))))], [], [], 151⟩ := by kernel_rfl
def b08 : Option Bool := (bif (decide ((0 : Int) ≤ s1952.2)) then (bif (decide (s1952.2 < (g_.1.length : Int))) then (some ((a1l ((gt g_.1 s1952.2 dI4).1, (gt g_.1 s1952.2 dI4).2.1, (gt g_.1 s1952.2 dI4).2.2.1)) != 0)) else none) else none)
theorem c7a : P92 1 C92.r.r.r.r.l.r.b.b.r.l.b.l (S92_5 g_ s1952) k = Option.bind (b08 g_ s1952) (fun y1959 : Bool => k ⟨[(1, rC a01 g_), (4, rO tsI4 s1952.1 4), (5, ri s1952.2), (55, rb y1959)], [], [], 151⟩) := .trans (by kernel_rfl) (bif_b (bif_b some_b none_b) none_b)
theorem c16 : P92 1 C92.r.r.r.r.l.r.b.b.r.l.b.l.r.t (S92_5 g_ s1952) k = k ⟨[(2, .one (.ow tsI4 [] (.v 2))), (3, ri 10)], [], [], 151⟩ := by kernel_rfl
def a93 : Option Unit := (bif (decide ((0 : Int) ≤ s1952.2)) then (bif (decide (s1952.2 < (g_.1.length : Int))) then (some ()) else none) else none)
theorem c3u : P92 1 C92.r.r.r.r.l.r.b.b.r.l.b.r.l (S92_5 g_ s1952) k = Option.bind (a93 g_ s1952) (fun y1961 : Unit => k ⟨[(1, rC a01 g_), (4, rO tsI4 s1952.1 4), (5, ri s1952.2), (63, rb (!(a0v ((gt g_.1 s1952.2 dI4).2.2.2) (-128 : Int) (127 : Int))))], [], [], 151⟩) := .trans (by kernel_rfl) (bif_b (bif_b some_b none_b) none_b)
theorem c17 : P92 1 C92.r.r.r.r.l.r.b.b.r.l.b.r.l.r.t (S92_5 g_ s1952) k = k ⟨[(2, .one (.ow tsI4 [] (.v 2))), (3, ri 11)], [], [], 151⟩ := by kernel_rfl
def a94 : Option Unit := (bif (decide ((0 : Int) ≤ s1952.2)) then (bif (decide (s1952.2 < (g_.1.length : Int))) then (bif (decide (s1952.1.length + ([(gt g_.1 s1952.2 dI4)] : List I4).length ≤ maxL)) then (some ()) else none) else none) else none)
abbrev S92_6 : St := ⟨[(1, rC a01 g_), (4, .one (.ow tsI4 (s1952.1 ++ [(gt g_.1 s1952.2 dI4)]) (.v 4))), (5, ri s1952.2)], [], [], 151⟩
theorem c3v : R92 C92.r.r.r.r.l.r.b.b.r.l.b.r.r (S92_5 g_ s1952) q = Option.bind (a94 g_ s1952) (fun y1962 : Unit => q .normal (S92_6 g_ s1952)) := .trans (by kernel_rfl) (bif_b (bif_b (bif_b some_b none_b) none_b) none_b)
theorem c79 : R92 C92.r.r.r.r.l.r.b.b.r.r (S92_6 g_ s1952) q = q .normal ⟨[(1, rC a01 g_), (4, .one (.ow tsI4 (s1952.1 ++ [(gt g_.1 s1952.2 dI4)]) (.v 4))), (5, ri (IntKind.wrap .i64 (s1952.2 + 1)))], [], [], 151⟩ := by kernel_rfl
def a5e : Option (((List I4) × Int) ⊕ (((List I4) × Int) ⊕ Int)) := (bif (decide (s1952.2 < (g_.1.length : Int))) then (Option.bind (b08 g_ s1952) (fun y1959 : Bool => (bif y1959 then (some (Sum.inr (Sum.inr (10 : Int)))) else (Option.bind (a93 g_ s1952) (fun y1961 : Unit => (bif (!(a0v ((gt g_.1 s1952.2 dI4).2.2.2) (-128 : Int) (127 : Int))) then (some (Sum.inr (Sum.inr (11 : Int)))) else (Option.bind (a94 g_ s1952) (fun y1962 : Unit => (some (Sum.inl ((s1952.1 ++ [(gt g_.1 s1952.2 dI4)]), (IntKind.wrap .i64 (s1952.2 + 1))))))))))))) else (some (Sum.inr (Sum.inl s1952))))
abbrev S92_7 : St := ⟨[(1, rC a01 g_), (4, rO tsI4 y1963.1 4), (5, ri y1963.2)], [], [], 151⟩
abbrev S92_8 (y1964 : Int) : St := ⟨[(2, .one (.ow tsI4 [] (.v 2))), (3, ri y1964)], [], [], 151⟩
theorem c1d : R92 C92.r.r.r.r.l.r.b.b (S92_5 g_ s1952) (loopKont 0 q) = Option.bind (a5e g_ s1952) (either (fun y : ((List I4) × Int) => q .normal ⟨[(1, rC a01 g_), (4, rO tsI4 y.1 4), (5, ri y.2)], [], [], 151⟩) (either (fun y1963 : ((List I4) × Int) => q (.exit 0) (S92_7 g_ y1963)) (fun y1964 : Int => q .ret (S92_8 y1964)))) := by
  refine .trans ?_ (bif_b (bind_b fun y1959 => (bif_b e3_2 (bind_b fun y1961 => (bif_b e3_2 (bind_b fun y1962 => e3_0))))) e3_1)
  refine .trans seq_push ?_
  refine (pre1 (c15 g_ s1952 _)).trans ?_
  refine (cond_e (b := (decide (s1952.2 < (g_.1.length : Int)))) (st' := (S92_5 g_ s1952)) ).trans (bif_g ?_ ?_)
  · refine (skip_eq).trans ?_
    refine (seqC_normal (st' := (S92_5 g_ s1952))).trans ?_
    refine .trans seq_push ?_
    refine (block_push (id := 1)).trans ?_
    refine .trans seq_push ?_
    refine (pre1 (c7a g_ s1952 _)).trans (bind_g fun y1959 => ?_)
    refine (cond_e (b := y1959) (st' := (S92_5 g_ s1952)) ).trans (bif_g ?_ ?_)
    · refine (pre1 (c16 g_ s1952 _)).trans ?_
      refine (ret_eq).trans ?_
      refine seqC_ret.trans ?_
      refine block_ret.trans ?_
      refine seqC_ret.trans ?_
      kernel_rfl
    · refine (skip_eq).trans ?_
      refine (seqC_normal (st' := (S92_5 g_ s1952))).trans ?_
      refine .trans seq_push ?_
      refine (pre1 (c3u g_ s1952 _)).trans (bind_g fun y1961 => ?_)
      refine (cond_e (b := (!(a0v ((gt g_.1 s1952.2 dI4).2.2.2) (-128 : Int) (127 : Int)))) (st' := (S92_5 g_ s1952)) ).trans (bif_g ?_ ?_)
      · refine (pre1 (c17 g_ s1952 _)).trans ?_
        refine (ret_eq).trans ?_
        refine seqC_ret.trans ?_
        refine block_ret.trans ?_
        refine seqC_ret.trans ?_
        kernel_rfl
      · refine (skip_eq).trans ?_
        refine (seqC_normal (st' := (S92_5 g_ s1952))).trans ?_
        refine (c3v g_ s1952 _).trans (bind_g fun y1962 => ?_)
        refine block_normal.trans ?_
        refine (seqC_normal (st' := (S92_6 g_ s1952))).trans ?_
        refine (c79 g_ s1952 _).trans ?_
        kernel_rfl
  · refine ((exit_eq (j := 0))).trans ?_
    refine seqC_exit.trans ?_
    kernel_rfl
theorem c76 : R92 C92.r.r.r.r.l.r.b (S92_4 g_) q = Option.bind (iterN (a5e g_) LL ([], (0 : Int))) (either (fun y1963 : ((List I4) × Int) => q (.exit 0) (S92_7 g_ y1963)) (fun y1964 : Int => q .ret (S92_8 y1964))) :=
  Eq.trans (by kernel_rfl) (loop_iter2 (S := fun s1952 : ((List I4) × Int) => (S92_5 g_ s1952)) (Y1 := fun y1963 : ((List I4) × Int) => ((.exit 0), (S92_7 g_ y1963))) (Y2 := fun y1964 : Int => (.ret, (S92_8 y1964))) (fun s q => c1d g_ s q) (fun z => rfl) (fun z => rfl) LL ([], (0 : Int)))
abbrev S92_9 : St := ⟨[(1, rC a01 g_), (4, rO tsI4 y1963.1 4)], [], [], 151⟩
abbrev e3i : St := ⟨[(1, rC a01 g_), (4, rO tsI4 y1963.1 4), (6, ri 0)], [], [], 151⟩
theorem c3m : P92 1 C92.r.r.r.r.r (S92_9 g_ y1963) k = k (e3i g_ y1963) := by kernel_rfl
abbrev e3j : St := ⟨[(1, rC a01 g_), (4, rO tsI4 y1963.1 4), (6, ri 0), (7, ri 0)], [], [], 151⟩
theorem c3n : P92 1 C92.r.r.r.r.r.r.l (e3i g_ y1963) k = k (e3j g_ y1963) := by kernel_rfl
abbrev b4u : St := ⟨[(1, rC a01 g_), (4, rO tsI4 s2284.1 4), (6, ri s2284.2.1), (7, ri s2284.2.2)], [], [], 151⟩
theorem c18 : P92 1 C92.r.r.r.r.r.r.l.r.b.b.l (b4u g_ s2284) k = k ⟨[(1, rC a01 g_), (4, rO tsI4 s2284.1 4), (6, ri s2284.2.1), (7, ri s2284.2.2), (76, rb (decide (s2284.2.2 < (g_.2.1.length : Int))))], [], [], 151⟩ := by kernel_rfl
def a95 : Option Unit := (bif (decide ((0 : Int) ≤ s2284.2.2)) then (bif (decide (s2284.2.2 < (g_.2.1.length : Int))) then (some ()) else none) else none)
abbrev e3k : St := ⟨[(1, rC a01 g_), (4, rO tsI4 s2284.1 4), (6, ri s2284.2.1), (7, ri s2284.2.2), (8, rF 0)], [(a00.leaves (gt g_.2.1 s2284.2.2 dNode))], [], 151⟩
theorem c3x : P92 1 C92.r.r.r.r.r.r.l.r.b.b.r.l.b (b4u g_ s2284) k = Option.bind (a95 g_ s2284) (fun y2321 : Unit => k (e3k g_ s2284)) := .trans (by kernel_rfl) (bif_b (bif_b some_b none_b) none_b)
abbrev e3l : St := ⟨[(1, rC a01 g_), (4, rO tsI4 s2284.1 4), (6, ri s2284.2.1), (7, ri s2284.2.2), (8, rF 0), (9, .one (.ow tsI4 [] (.v 9)))], [(a00.leaves (gt g_.2.1 s2284.2.2 dNode))], [], 151⟩
theorem c3o : P92 1 C92.r.r.r.r.r.r.l.r.b.b.r.l.b.r (e3k g_ s2284) k = k (e3l g_ s2284) := by kernel_rfl
abbrev e3m : St := ⟨[(1, rC a01 g_), (4, rO tsI4 s2284.1 4), (6, ri s2284.2.1), (7, ri s2284.2.2), (8, rF 0), (9, .one (.ow tsI4 [] (.v 9))), (10, ri 0)], [(a00.leaves (gt g_.2.1 s2284.2.2 dNode))], [], 151⟩
theorem c3p : P92 1 C92.r.r.r.r.r.r.l.r.b.b.r.l.b.r.r.l (e3l g_ s2284) k = k (e3m g_ s2284) := by kernel_rfl
abbrev a5l : St := ⟨[(1, rC a01 g_), (4, rO tsI4 s2284.1 4), (6, ri s2284.2.1), (7, ri s2284.2.2), (8, rF 0), (9, rO tsI4 s2345.1 9), (10, ri s2345.2)], [(a00.leaves (gt g_.2.1 s2284.2.2 dNode))], [], 151⟩
theorem c19 : P92 1 C92.r.r.r.r.r.r.l.r.b.b.r.l.b.r.r.l.r.b.b.l (a5l g_ s2284 s2345) k = k ⟨[(1, rC a01 g_), (4, rO tsI4 s2284.1 4), (6, ri s2284.2.1), (7, ri s2284.2.2), (8, rF 0), (9, rO tsI4 s2345.1 9), (10, ri s2345.2), (89, rb (decide (s2345.2 < (((gt g_.2.1 s2284.2.2 dNode).2.1).length : Int))))], [(a00.leaves (gt g_.2.1 s2284.2.2 dNode))], [], 151⟩ := by kernel_rfl
def a96 : Option Bool := (bif (decide ((0 : Int) ≤ s2345.2)) then (bif (decide (s2345.2 < (((gt g_.2.1 s2284.2.2 dNode).2.1).length : Int))) then (some (!(a0v (gt ((gt g_.2.1 s2284.2.2 dNode).2.1) s2345.2 (0 : Int)) (0 : Int) (IntKind.wrap .i64 ((s2284.1.length : Int) - 1))))) else none) else none)
theorem c3z : P92 1 C92.r.r.r.r.r.r.l.r.b.b.r.l.b.r.r.l.r.b.b.r.l.b.l (a5l g_ s2284 s2345) k = Option.bind (a96 g_ s2284 s2345) (fun y2350 : Bool => k ⟨[(1, rC a01 g_), (4, rO tsI4 s2284.1 4), (6, ri s2284.2.1), (7, ri s2284.2.2), (8, rF 0), (9, rO tsI4 s2345.1 9), (10, ri s2345.2), (101, rb y2350)], [(a00.leaves (gt g_.2.1 s2284.2.2 dNode))], [], 151⟩) := .trans (by kernel_rfl) (bif_b (bif_b some_b none_b) none_b)
abbrev b0o : St := ⟨[(2, .one (.ow tsI4 [] (.v 2))), (3, ri 13)], [[]], [], 151⟩
theorem c1a : P92 1 C92.r.r.r.r.r.r.l.r.b.b.r.l.b.r.r.l.r.b.b.r.l.b.l.r.t (a5l g_ s2284 s2345) k = k b0o := by kernel_rfl
def a97 : Option (List I4) := (bif (decide ((0 : Int) ≤ s2345.2)) then (bif (decide (s2345.2 < (((gt g_.2.1 s2284.2.2 dNode).2.1).length : Int))) then (bif (decide ((0 : Int) ≤ (gt ((gt g_.2.1 s2284.2.2 dNode).2.1) s2345.2 (0 : Int)))) then (bif (decide ((gt ((gt g_.2.1 s2284.2.2 dNode).2.1) s2345.2 (0 : Int)) < (s2284.1.length : Int))) then (bif (decide (s2345.1.length + ([(gt s2284.1 (gt ((gt g_.2.1 s2284.2.2 dNode).2.1) s2345.2 (0 : Int)) dI4)] : List I4).length ≤ maxL)) then (some (s2345.1 ++ [(gt s2284.1 (gt ((gt g_.2.1 s2284.2.2 dNode).2.1) s2345.2 (0 : Int)) dI4)])) else none) else none) else none) else none) else none)
abbrev d77 : St := ⟨[(1, rC a01 g_), (4, rO tsI4 s2284.1 4), (6, ri s2284.2.1), (7, ri s2284.2.2), (8, rF 0), (9, rO tsI4 y2351 9), (10, ri s2345.2)], [(a00.leaves (gt g_.2.1 s2284.2.2 dNode))], [], 151⟩
theorem c40 : R92 C92.r.r.r.r.r.r.l.r.b.b.r.l.b.r.r.l.r.b.b.r.l.b.r (a5l g_ s2284 s2345) q = Option.bind (a97 g_ s2284 s2345) (fun y2351 : (List I4) => q .normal (d77 g_ s2284 s2345 y2351)) := .trans (by kernel_rfl) (bif_b (bif_b (bif_b (bif_b (bif_b some_b none_b) none_b) none_b) none_b) none_b)
theorem c3y : R92 C92.r.r.r.r.r.r.l.r.b.b.r.l.b.r.r.l.r.b.b.r.r (d77 g_ s2284 s2345 y2351) q = q .normal ⟨[(1, rC a01 g_), (4, rO tsI4 s2284.1 4), (6, ri s2284.2.1), (7, ri s2284.2.2), (8, rF 0), (9, rO tsI4 y2351 9), (10, ri (IntKind.wrap .i64 (s2345.2 + 1)))], [(a00.leaves (gt g_.2.1 s2284.2.2 dNode))], [], 151⟩ := by kernel_rfl
def a4u : Option (((List I4) × Int) ⊕ (((List I4) × Int) ⊕ Unit)) := (bif (decide (s2345.2 < (((gt g_.2.1 s2284.2.2 dNode).2.1).length : Int))) then (Option.bind (a96 g_ s2284 s2345) (fun y2350 : Bool => (bif y2350 then (some (Sum.inr (Sum.inr ()))) else (Option.bind (a97 g_ s2284 s2345) (fun y2351 : (List I4) => (some (Sum.inl (y2351, (IntKind.wrap .i64 (s2345.2 + 1)))))))))) else (some (Sum.inr (Sum.inl s2345))))
abbrev d78 : St := ⟨[(1, rC a01 g_), (4, rO tsI4 s2284.1 4), (6, ri s2284.2.1), (7, ri s2284.2.2), (8, rF 0), (9, rO tsI4 y2352.1 9), (10, ri y2352.2)], [(a00.leaves (gt g_.2.1 s2284.2.2 dNode))], [], 151⟩
theorem b9m : R92 C92.r.r.r.r.r.r.l.r.b.b.r.l.b.r.r.l.r.b.b (a5l g_ s2284 s2345) (loopKont 1 q) = Option.bind (a4u g_ s2284 s2345) (either (fun y : ((List I4) × Int) => q .normal ⟨[(1, rC a01 g_), (4, rO tsI4 s2284.1 4), (6, ri s2284.2.1), (7, ri s2284.2.2), (8, rF 0), (9, rO tsI4 y.1 9), (10, ri y.2)], [(a00.leaves (gt g_.2.1 s2284.2.2 dNode))], [], 151⟩) (either (fun y2352 : ((List I4) × Int) => q (.exit 4) (d78 g_ s2284 y2352)) (fun y2353 : Unit => q .ret b0o))) := by
  refine .trans ?_ (bif_b (bind_b fun y2350 => (bif_b e3_2 (bind_b fun y2351 => e3_0))) e3_1)
  refine .trans seq_push ?_
  refine (pre1 (c19 g_ s2284 s2345 _)).trans ?_
  refine (cond_e (b := (decide (s2345.2 < (((gt g_.2.1 s2284.2.2 dNode).2.1).length : Int)))) (st' := (a5l g_ s2284 s2345)) ).trans (bif_g ?_ ?_)
  · refine (skip_eq).trans ?_
    refine (seqC_normal (st' := (a5l g_ s2284 s2345))).trans ?_
    refine .trans seq_push ?_
    refine (block_push (id := 5)).trans ?_
    refine .trans seq_push ?_
    refine (pre1 (c3z g_ s2284 s2345 _)).trans (bind_g fun y2350 => ?_)
    refine (cond_e (b := y2350) (st' := (a5l g_ s2284 s2345)) ).trans (bif_g ?_ ?_)
    · refine (pre1 (c1a g_ s2284 s2345 _)).trans ?_
      refine (ret_eq).trans ?_
      refine seqC_ret.trans ?_
      refine block_ret.trans ?_
      refine seqC_ret.trans ?_
      kernel_rfl
    · refine (skip_eq).trans ?_
      refine (seqC_normal (st' := (a5l g_ s2284 s2345))).trans ?_
      refine (c40 g_ s2284 s2345 _).trans (bind_g fun y2351 => ?_)
      refine block_normal.trans ?_
      refine (seqC_normal (st' := (d77 g_ s2284 s2345 y2351))).trans ?_
      refine (c3y g_ s2284 s2345 y2351 _).trans ?_
      kernel_rfl
  · refine ((exit_eq (j := 4))).trans ?_
    refine seqC_exit.trans ?_
    kernel_rfl
theorem c3s : R92 C92.r.r.r.r.r.r.l.r.b.b.r.l.b.r.r.l.r.b (e3m g_ s2284) q = Option.bind (iterN (a4u g_ s2284) LL ([], (0 : Int))) (either (fun y2352 : ((List I4) × Int) => q (.exit 4) (d78 g_ s2284 y2352)) (fun y2353 : Unit => q .ret b0o)) :=
  Eq.trans (by kernel_rfl) (loop_iter2 (S := fun s2345 : ((List I4) × Int) => (a5l g_ s2284 s2345)) (Y1 := fun y2352 : ((List I4) × Int) => ((.exit 4), (d78 g_ s2284 y2352))) (Y2 := fun y2353 : Unit => (.ret, b0o)) (fun s q => b9m g_ s2284 s q) (fun z => rfl) (fun z => rfl) LL ([], (0 : Int)))
abbrev e3n : St := ⟨[(1, rC a01 g_), (4, rO tsI4 s2284.1 4), (6, ri s2284.2.1), (7, ri s2284.2.2), (8, rF 0), (9, rO tsI4 y2352.1 9)], [(a00.leaves (gt g_.2.1 s2284.2.2 dNode))], [], 151⟩
abbrev c50 : St := ⟨[(1, rC a01 g_), (4, rO tsI4 s2284.1 4), (6, ri s2284.2.1), (7, ri s2284.2.2), (8, rF 0), (11, rF 1), (12, ri y2354.2)], [(a00.leaves (gt g_.2.1 s2284.2.2 dNode)), (tsI4.leaves y2354.1)], [], 151⟩
theorem c41 : P92 1 C92.r.r.r.r.r.r.l.r.b.b.r.l.b.r.r.r (e3n g_ s2284 y2352) k = Option.bind (a8q (gt g_.2.1 s2284.2.2 dNode) y2352.1) fun y2354 : (I4 × Int) => k (c50 g_ s2284 y2354) := by kernel_rfl
theorem b5w : P92 1 C92.r.r.r.r.r.r.l.r.b.b.r.l.b.r.r.r.r.l (c50 g_ s2284 y2354) k = k ⟨[(1, rC a01 g_), (4, rO tsI4 s2284.1 4), (6, ri s2284.2.1), (7, ri s2284.2.2), (8, rF 0), (11, rF 1), (12, ri y2354.2), (120, rb (y2354.2 != 0))], [(a00.leaves (gt g_.2.1 s2284.2.2 dNode)), (tsI4.leaves y2354.1)], [], 151⟩ := by kernel_rfl
theorem c1b : P92 1 C92.r.r.r.r.r.r.l.r.b.b.r.l.b.r.r.r.r.l.r.t (c50 g_ s2284 y2354) k = k ⟨[(2, .one (.ow tsI4 [] (.v 2))), (3, ri y2354.2)], [[], []], [], 151⟩ := by kernel_rfl
def a98 : Option Unit := (bif (decide (s2284.1.length + ([y2354.1] : List I4).length ≤ maxL)) then (some ()) else none)
abbrev e3o : St := ⟨[(1, rC a01 g_), (4, rO tsI4 s2284.1 4), (6, ri s2284.2.1), (7, ri s2284.2.2), (8, rF 0), (11, rF 1)], [(a00.leaves (gt g_.2.1 s2284.2.2 dNode)), (tsI4.leaves y2354.1)], [], 151⟩
abbrev e3p : St := ⟨[(1, rC a01 g_), (4, .one (.ow tsI4 (s2284.1 ++ [y2354.1]) (.v 4))), (6, ri s2284.2.1), (7, ri s2284.2.2), (8, rF 0)], [(a00.leaves (gt g_.2.1 s2284.2.2 dNode)), []], [], 151⟩
theorem c42 : P92 1 C92.r.r.r.r.r.r.l.r.b.b.r.l.b.r.r.r.r.r (e3o g_ s2284 y2354) k = Option.bind (a98 s2284 y2354) (fun y2355 : Unit => k (e3p g_ s2284 y2354)) := .trans (by kernel_rfl) (bif_b some_b none_b)
def a99 (K : Int → β) : β := (K (IntKind.wrap .i64 (s2284.2.1 + (((gt g_.2.1 s2284.2.2 dNode).2.2.2.2.2.2.2.2.2.2.2.2.1).length : Int))))
def a2e : Int := a99 g_ s2284 (fun y => y)
theorem b9o (K : Int → β) : a99 g_ s2284 K = K (a2e g_ s2284) := rfl
abbrev d79 : St := ⟨[(1, rC a01 g_), (4, .one (.ow tsI4 (s2284.1 ++ [y2354.1]) (.v 4))), (6, ri (a2e g_ s2284)), (7, ri s2284.2.2)], [[], []], [], 151⟩
theorem c43 : R92 C92.r.r.r.r.r.r.l.r.b.b.r.l.b.r.r.r.r.r.r (e3p g_ s2284 y2354) q = q .normal (d79 g_ s2284 y2354) := Eq.trans (by kernel_rfl) (b9o g_ s2284 (fun y2356 : Int => q .normal ⟨[(1, rC a01 g_), (4, .one (.ow tsI4 (s2284.1 ++ [y2354.1]) (.v 4))), (6, ri y2356), (7, ri s2284.2.2)], [[], []], [], 151⟩))
theorem c3w : R92 C92.r.r.r.r.r.r.l.r.b.b.r.r (d79 g_ s2284 y2354) q = q .normal ⟨[(1, rC a01 g_), (4, .one (.ow tsI4 (s2284.1 ++ [y2354.1]) (.v 4))), (6, ri (a2e g_ s2284)), (7, ri (IntKind.wrap .i64 (s2284.2.2 + 1)))], [[], []], [], 151⟩ := by kernel_rfl
def a4t : Option (((List I4) × Int × Int) ⊕ (((List I4) × Int × Int) ⊕ (Unit ⊕ Int))) := (bif (decide (s2284.2.2 < (g_.2.1.length : Int))) then (Option.bind (a95 g_ s2284) (fun y2321 : Unit => (Option.bind (iterN (a4u g_ s2284) LL ([], (0 : Int))) (either (fun y2352 : ((List I4) × Int) => (Option.bind (a8q (gt g_.2.1 s2284.2.2 dNode) y2352.1) (fun y2354 : (I4 × Int) => (bif (y2354.2 != 0) then (some (Sum.inr (Sum.inr (Sum.inr y2354.2)))) else (Option.bind (a98 s2284 y2354) (fun y2355 : Unit => (some (Sum.inl ((s2284.1 ++ [y2354.1]), (a2e g_ s2284), (IntKind.wrap .i64 (s2284.2.2 + 1))))))))))) (fun y2353 : Unit => (some (Sum.inr (Sum.inr (Sum.inl ()))))))))) else (some (Sum.inr (Sum.inl s2284))))
abbrev d7a : St := ⟨[(1, rC a01 g_), (4, rO tsI4 y2357.1 4), (6, ri y2357.2.1), (7, ri y2357.2.2)], [], [], 151⟩
abbrev d7b (y2359 : Int) : St := ⟨[(2, .one (.ow tsI4 [] (.v 2))), (3, ri y2359)], [[], []], [], 151⟩
theorem b9l : R92 C92.r.r.r.r.r.r.l.r.b.b (b4u g_ s2284) (loopKont 0 q) = Option.bind (a4t g_ s2284) (either (fun y : ((List I4) × Int × Int) => q .normal ⟨[(1, rC a01 g_), (4, rO tsI4 y.1 4), (6, ri y.2.1), (7, ri y.2.2)], [], [], 151⟩) (either (fun y2357 : ((List I4) × Int × Int) => q (.exit 2) (d7a g_ y2357)) (either (fun y2358 : Unit => q .ret b0o) (fun y2359 : Int => q .ret (d7b y2359))))) := by
  refine .trans ?_ (bif_b (bind_b fun y2321 => (bind_b (either_b (fun y2352 => (bind_b fun y2354 => (bif_b e4_3 (bind_b fun y2355 => e4_0)))) (fun y2353 => e4_2)))) e4_1)
  refine .trans seq_push ?_
  refine (pre1 (c18 g_ s2284 _)).trans ?_
  refine (cond_e (b := (decide (s2284.2.2 < (g_.2.1.length : Int)))) (st' := (b4u g_ s2284)) ).trans (bif_g ?_ ?_)
  · refine (skip_eq).trans ?_
    refine (seqC_normal (st' := (b4u g_ s2284))).trans ?_
    refine .trans seq_push ?_
    refine (block_push (id := 3)).trans ?_
    refine (pre1 (c3x g_ s2284 _)).trans (bind_g fun y2321 => ?_)
    refine (pre1 (c3o g_ s2284 _)).trans ?_
    refine .trans seq_push ?_
    refine (pre1 (c3p g_ s2284 _)).trans ?_
    refine (block_push (id := 4)).trans ?_
    refine (c3s g_ s2284 _).trans (bind_g (either_g (fun y2352 => ?_) (fun y2353 => ?_)))
    · refine block_same.trans ?_
      refine (seqC_normal (st' := (e3n g_ s2284 y2352))).trans ?_
      refine (pre1 (c41 g_ s2284 y2352 _)).trans (bind_g fun y2354 => ?_)
      refine .trans seq_push ?_
      refine (pre1 (b5w g_ s2284 y2354 _)).trans ?_
      refine (cond_e (b := (y2354.2 != 0)) (st' := (c50 g_ s2284 y2354)) ).trans (bif_g ?_ ?_)
      · refine (pre1 (c1b g_ s2284 y2354 _)).trans ?_
        refine (ret_eq).trans ?_
        refine seqC_ret.trans ?_
        refine block_ret.trans ?_
        refine seqC_ret.trans ?_
        kernel_rfl
      · refine (skip_eq).trans ?_
        refine (seqC_normal (st' := (e3o g_ s2284 y2354))).trans ?_
        refine (pre1 (c42 g_ s2284 y2354 _)).trans (bind_g fun y2355 => ?_)
        refine (c43 g_ s2284 y2354 _).trans ?_
        refine block_normal.trans ?_
        refine (seqC_normal (st' := (d79 g_ s2284 y2354))).trans ?_
        refine (c3w g_ s2284 y2354 _).trans ?_
        kernel_rfl
    · refine block_ret.trans ?_
      refine seqC_ret.trans ?_
      refine block_ret.trans ?_
      refine seqC_ret.trans ?_
      kernel_rfl
  · refine ((exit_eq (j := 2))).trans ?_
    refine seqC_exit.trans ?_
    kernel_rfl
theorem c3r : R92 C92.r.r.r.r.r.r.l.r.b (e3j g_ y1963) q = Option.bind (iterN (a4t g_) LL (y1963.1, (0 : Int), (0 : Int))) (either (fun y2357 : ((List I4) × Int × Int) => q (.exit 2) (d7a g_ y2357)) (either (fun y2358 : Unit => q .ret b0o) (fun y2359 : Int => q .ret (d7b y2359)))) :=
  Eq.trans (by kernel_rfl) (loop_iter3 (S := fun s2284 : ((List I4) × Int × Int) => (b4u g_ s2284)) (Y1 := fun y2357 : ((List I4) × Int × Int) => ((.exit 2), (d7a g_ y2357))) (Y2 := fun y2358 : Unit => (.ret, b0o)) (Y3 := fun y2359 : Int => (.ret, (d7b y2359))) (fun s q => b9l g_ s q) (fun z => rfl) (fun z => rfl) (fun z => rfl) LL (y1963.1, (0 : Int), (0 : Int)))
abbrev e3q : St := ⟨[(1, rC a01 g_), (4, rO tsI4 y2357.1 4), (6, ri y2357.2.1)], [], [], 151⟩
theorem b5x : P92 1 C92.r.r.r.r.r.r.r.l (e3q g_ y2357) k = k ⟨[(1, rC a01 g_), (4, rO tsI4 y2357.1 4), (132, rb (decide (y2357.2.1 > 4096)))], [], [], 151⟩ := by kernel_rfl
abbrev c51 : St := ⟨[(1, rC a01 g_), (4, rO tsI4 y2357.1 4)], [], [], 151⟩
theorem c1c : P92 1 C92.r.r.r.r.r.r.r.l.r.t (c51 g_ y2357) k = k S92_1 := by kernel_rfl
abbrev e3r : St := ⟨[(1, rC a01 g_), (4, rO tsI4 y2357.1 4), (13, ri 0)], [], [], 151⟩
theorem c3q : P92 1 C92.r.r.r.r.r.r.r.r.l (c51 g_ y2357) k = k (e3r g_ y2357) := by kernel_rfl
abbrev a5m : St := ⟨[(1, rC a01 g_), (4, rO tsI4 y2357.1 4), (13, ri s2371)], [], [], 151⟩
theorem b9i : P92 1 C92.r.r.r.r.r.r.r.r.l.r.b.b.l (a5m g_ y2357 s2371) k = k ⟨[(1, rC a01 g_), (4, rO tsI4 y2357.1 4), (13, ri s2371), (137, rb (decide (s2371 < (g_.2.2.length : Int))))], [], [], 151⟩ := by kernel_rfl
def a9a : Option Bool := (bif (decide ((0 : Int) ≤ s2371)) then (bif (decide (s2371 < (g_.2.2.length : Int))) then (some (!(a0v (gt g_.2.2 s2371 (0 : Int)) (0 : Int) (IntKind.wrap .i64 ((y2357.1.length : Int) - 1))))) else none) else none)
theorem c45 : P92 1 C92.r.r.r.r.r.r.r.r.l.r.b.b.r.l.b (a5m g_ y2357 s2371) k = Option.bind (a9a g_ y2357 s2371) (fun y2373 : Bool => k ⟨[(1, rC a01 g_), (4, rO tsI4 y2357.1 4), (13, ri s2371), (149, rb y2373)], [], [], 151⟩) := .trans (by kernel_rfl) (bif_b (bif_b some_b none_b) none_b)
theorem b9j : P92 1 C92.r.r.r.r.r.r.r.r.l.r.b.b.r.l.b.r.t (a5m g_ y2357 s2371) k = k S92_2 := by kernel_rfl
theorem c44 : R92 C92.r.r.r.r.r.r.r.r.l.r.b.b.r.r (a5m g_ y2357 s2371) q = q .normal ⟨[(1, rC a01 g_), (4, rO tsI4 y2357.1 4), (13, ri (IntKind.wrap .i64 (s2371 + 1)))], [], [], 151⟩ := by kernel_rfl
def a4v : Option (Int ⊕ (Int ⊕ Unit)) := (bif (decide (s2371 < (g_.2.2.length : Int))) then (Option.bind (a9a g_ y2357 s2371) (fun y2373 : Bool => (bif y2373 then (some (Sum.inr (Sum.inr ()))) else (some (Sum.inl (IntKind.wrap .i64 (s2371 + 1))))))) else (some (Sum.inr (Sum.inl s2371))))
abbrev d7c (y2374 : Int) : St := ⟨[(1, rC a01 g_), (4, rO tsI4 y2357.1 4), (13, ri y2374)], [], [], 151⟩
theorem b9n : R92 C92.r.r.r.r.r.r.r.r.l.r.b.b (a5m g_ y2357 s2371) (loopKont 0 q) = Option.bind (a4v g_ y2357 s2371) (either (fun y : Int => q .normal ⟨[(1, rC a01 g_), (4, rO tsI4 y2357.1 4), (13, ri y)], [], [], 151⟩) (either (fun y2374 : Int => q (.exit 6) (d7c g_ y2357 y2374)) (fun y2375 : Unit => q .ret S92_2))) := by
  refine .trans ?_ (bif_b (bind_b fun y2373 => (bif_b e3_2 e3_0)) e3_1)
  refine .trans seq_push ?_
  refine (pre1 (b9i g_ y2357 s2371 _)).trans ?_
  refine (cond_e (b := (decide (s2371 < (g_.2.2.length : Int)))) (st' := (a5m g_ y2357 s2371)) ).trans (bif_g ?_ ?_)
  · refine (skip_eq).trans ?_
    refine (seqC_normal (st' := (a5m g_ y2357 s2371))).trans ?_
    refine .trans seq_push ?_
    refine (block_push (id := 7)).trans ?_
    refine (pre1 (c45 g_ y2357 s2371 _)).trans (bind_g fun y2373 => ?_)
    refine (cond_e (b := y2373) (st' := (a5m g_ y2357 s2371)) ).trans (bif_g ?_ ?_)
    · refine (pre1 (b9j g_ y2357 s2371 _)).trans ?_
      refine (ret_eq).trans ?_
      refine block_ret.trans ?_
      refine seqC_ret.trans ?_
      kernel_rfl
    · refine (skip_eq).trans ?_
      refine block_normal.trans ?_
      refine (seqC_normal (st' := (a5m g_ y2357 s2371))).trans ?_
      refine (c44 g_ y2357 s2371 _).trans ?_
      kernel_rfl
  · refine ((exit_eq (j := 6))).trans ?_
    refine seqC_exit.trans ?_
    kernel_rfl
theorem c3t : R92 C92.r.r.r.r.r.r.r.r.l.r.b (e3r g_ y2357) q = Option.bind (iterN (a4v g_ y2357) LL (0 : Int)) (either (fun y2374 : Int => q (.exit 6) (d7c g_ y2357 y2374)) (fun y2375 : Unit => q .ret S92_2)) :=
  Eq.trans (by kernel_rfl) (loop_iter2 (S := fun s2371 : Int => (a5m g_ y2357 s2371)) (Y1 := fun y2374 : Int => ((.exit 6), (d7c g_ y2357 y2374))) (Y2 := fun y2375 : Unit => (.ret, S92_2)) (fun s q => b9n g_ y2357 s q) (fun z => rfl) (fun z => rfl) LL (0 : Int))
theorem b9k : P92 1 C92.r.r.r.r.r.r.r.r.r ⟨[(4, rO tsI4 y2357.1 4)], [], [], 151⟩ k = k ⟨[(2, rO tsI4 y2357.1 4), (3, ri 0)], [], [], 151⟩ := by kernel_rfl
/-- quilt/quiltref03.Values -/
def a17 : Option ((List I4) × Int) := (bif (a2s g_) then (some ([], (3 : Int))) else (bif (a2t g_) then (some ([], (13 : Int))) else (Option.bind (iterN (a5e g_) LL ([], (0 : Int))) (either (fun y1963 : ((List I4) × Int) => (Option.bind (iterN (a4t g_) LL (y1963.1, (0 : Int), (0 : Int))) (either (fun y2357 : ((List I4) × Int × Int) => (bif (decide (y2357.2.1 > 4096)) then (some ([], (3 : Int))) else (Option.bind (iterN (a4v g_ y2357) LL (0 : Int)) (either (fun y2374 : Int => (some (y2357.1, (0 : Int)))) (fun y2375 : Unit => (some ([], (13 : Int)))))))) (either (fun y2358 : Unit => (some ([], (13 : Int)))) (fun y2359 : Int => (some ([], y2359))))))) (fun y1964 : Int => (some ([], y1964)))))))
theorem c75 : stepO E cp88 ce4 9 [rA a01 g_] = Option.bind (a17 g_) (fun y : ((List I4) × Int) => some (.tup [.one (.ow tsI4 y.1 (.s 0)), ri y.2] : R)) := by
  refine .trans ?_ (bif_b some_b (bif_b some_b (bind_b (either_b (fun y1963 => (bind_b (either_b (fun y2357 => (bif_b some_b (bind_b (either_b (fun y2374 => some_b) (fun y2375 => some_b))))) (either_b (fun y2358 => some_b) (fun y2359 => some_b))))) (fun y1964 => some_b)))))
  refine (stepG_is (nt := 151) (regs := [(0, rA a01 g_)])).trans ?_
  refine (pre1 (c71 g_ _)).trans ?_
  refine .trans seq_push ?_
  refine (pre1 (c77 g_ _)).trans ?_
  refine (cond_e (b := (a2s g_)) (st' := (S92_0 g_)) ).trans (bif_g ?_ ?_)
  · refine (pre1 (c74 g_ _)).trans ?_
    refine (ret_eq).trans ?_
    refine seqC_ret.trans ?_
    kernel_rfl
  · refine (skip_eq).trans ?_
    refine (seqC_normal (st' := (S92_0 g_))).trans ?_
    refine .trans seq_push ?_
    refine (pre1 (c78 g_ _)).trans ?_
    refine (cond_e (b := (a2t g_)) (st' := (S92_0 g_)) ).trans (bif_g ?_ ?_)
    · refine (pre1 (c14 g_ _)).trans ?_
      refine (ret_eq).trans ?_
      refine seqC_ret.trans ?_
      kernel_rfl
    · refine (skip_eq).trans ?_
      refine (seqC_normal (st' := (S92_0 g_))).trans ?_
      refine (pre1 (c72 g_ _)).trans ?_
      refine .trans seq_push ?_
      refine (pre1 (c73 g_ _)).trans ?_
      refine (block_push (id := 0)).trans ?_
      refine (c76 g_ _).trans (bind_g (either_g (fun y1963 => ?_) (fun y1964 => ?_)))
      · refine block_same.trans ?_
        refine (seqC_normal (st' := (S92_9 g_ y1963))).trans ?_
        refine (pre1 (c3m g_ y1963 _)).trans ?_
        refine .trans seq_push ?_
        refine (pre1 (c3n g_ y1963 _)).trans ?_
        refine (block_push (id := 2)).trans ?_
        refine (c3r g_ y1963 _).trans (bind_g (either_g (fun y2357 => ?_) (either_g (fun y2358 => ?_) (fun y2359 => ?_))))
        · refine block_same.trans ?_
          refine (seqC_normal (st' := (e3q g_ y2357))).trans ?_
          refine .trans seq_push ?_
          refine (pre1 (b5x g_ y2357 _)).trans ?_
          refine (cond_e (b := (decide (y2357.2.1 > 4096))) (st' := (c51 g_ y2357)) ).trans (bif_g ?_ ?_)
          · refine (pre1 (c1c g_ y2357 _)).trans ?_
            refine (ret_eq).trans ?_
            refine seqC_ret.trans ?_
            kernel_rfl
          · refine (skip_eq).trans ?_
            refine (seqC_normal (st' := (c51 g_ y2357))).trans ?_
            refine .trans seq_push ?_
            refine (pre1 (c3q g_ y2357 _)).trans ?_
            refine (block_push (id := 6)).trans ?_
            refine (c3t g_ y2357 _).trans (bind_g (either_g (fun y2374 => ?_) (fun y2375 => ?_)))
            · refine block_same.trans ?_
              refine (seqC_normal (st' := ⟨[(4, rO tsI4 y2357.1 4)], [], [], 151⟩)).trans ?_
              refine (pre1 (b9k y2357 _)).trans ?_
              refine (ret_eq).trans ?_
              kernel_rfl
            · refine block_ret.trans ?_
              refine seqC_ret.trans ?_
              kernel_rfl
        · refine block_ret.trans ?_
          refine seqC_ret.trans ?_
          kernel_rfl
        · refine block_ret.trans ?_
          refine seqC_ret.trans ?_
          kernel_rfl
      · refine block_ret.trans ?_
        refine seqC_ret.trans ?_
        kernel_rfl
noncomputable def cp89 : CallP := withC cp88 9 [(.agg a01)] (.tup [(.one (.ow tsI4)), pI]) (fun y : ((List I4) × Int) => (y.1, y.2, ())) (fun x => a17 x.1)
theorem e65 : PureOK E cp89 := conO eok e64 a0o fun x => Eq.mp (by kernel_rfl) (c75 x.1)
end
section
variable {α : Type} (g_ : Graph) (l_ : (List Int)) (s2587 : ((List (List Int)) × Int × Int)) (s2647 : (Int × (List Int) × Int)) (y2654 : Int) (y2656 : (Int × (List Int) × Int)) (y2658 : ((List (List Int)) × Int × Int)) (k : St → Option α) (q : Kont α)
noncomputable abbrev C93 := codeOf E.P 10
noncomputable abbrev P93 := @preK α E 10 cp89 ce4
noncomputable abbrev R93 := @runCode α E 10 cp89 ce4
noncomputable abbrev Q93 := @seqC α E 10 cp89 ce4
abbrev S93_0 : St := ⟨[(1, rl (.one (.int .i8)) l_), (2, rC a01 g_), (5, .one (.ow (.one (.sl (.one (.int .i8)))) [] (.v 5))), (6, ri 0)], [], [], 52⟩
theorem c80 : P93 3 C93 ⟨[(0, rA a01 g_), (1, rl (.one (.int .i8)) l_)], [], [], 52⟩ k = k (S93_0 g_ l_) := by kernel_rfl
abbrev S93_1 : St := ⟨[(1, rl (.one (.int .i8)) l_), (2, rC a01 g_), (5, .one (.ow (.one (.sl (.one (.int .i8)))) [] (.v 5))), (6, ri 0), (7, ri 0)], [], [], 52⟩
theorem c81 : P93 1 C93.r.r.r.l (S93_0 g_ l_) k = k (S93_1 g_ l_) := by kernel_rfl
abbrev S93_2 : St := ⟨[(1, rl (.one (.int .i8)) l_), (2, rC a01 g_), (5, .one (.ow (.one (.sl (.one (.int .i8)))) s2587.1 (.v 5))), (6, ri s2587.2.1), (7, ri s2587.2.2)], [], [], 52⟩
theorem c84 : P93 1 C93.r.r.r.l.r.b.b.l (S93_2 g_ l_ s2587) k = k ⟨[(1, rl (.one (.int .i8)) l_), (2, rC a01 g_), (5, .one (.ow (.one (.sl (.one (.int .i8)))) s2587.1 (.v 5))), (6, ri s2587.2.1), (7, ri s2587.2.2), (16, rb (decide (s2587.2.2 < (g_.1.length : Int))))], [], [], 52⟩ := by kernel_rfl
abbrev S93_3 : St := ⟨[(1, rl (.one (.int .i8)) l_), (2, rC a01 g_), (5, .one (.ow (.one (.sl (.one (.int .i8)))) s2587.1 (.v 5))), (6, ri s2587.2.1), (7, ri s2587.2.2), (8, .one (.ow (.one (.int .i8)) [] (.v 8)))], [], [], 52⟩
theorem c82 : P93 1 C93.r.r.r.l.r.b.b.r.l.b (S93_2 g_ l_ s2587) k = k (S93_3 g_ l_ s2587) := by kernel_rfl
abbrev S93_4 : St := ⟨[(1, rl (.one (.int .i8)) l_), (2, rC a01 g_), (5, .one (.ow (.one (.sl (.one (.int .i8)))) s2587.1 (.v 5))), (6, ri s2587.2.1), (7, ri s2587.2.2), (8, .one (.ow (.one (.int .i8)) [] (.v 8))), (9, ri 0)], [], [], 52⟩
theorem c83 : P93 1 C93.r.r.r.l.r.b.b.r.l.b.r.l (S93_3 g_ l_ s2587) k = k (S93_4 g_ l_ s2587) := by kernel_rfl
def b0a : Option Bool := (bif (decide ((0 : Int) ≤ s2587.2.2)) then (bif (decide (s2587.2.2 < (g_.1.length : Int))) then (some (decide (s2647.2.2 < (a1r ((gt g_.1 s2587.2.2 dI4).1, (gt g_.1 s2587.2.2 dI4).2.1, (gt g_.1 s2587.2.2 dI4).2.2.1))))) else none) else none)
abbrev S93_5 : St := ⟨[(1, rl (.one (.int .i8)) l_), (2, rC a01 g_), (5, .one (.ow (.one (.sl (.one (.int .i8)))) s2587.1 (.v 5))), (6, ri s2647.1), (7, ri s2587.2.2), (8, .one (.ow (.one (.int .i8)) s2647.2.1 (.v 8))), (9, ri s2647.2.2)], [], [], 52⟩
theorem c89 : P93 1 C93.r.r.r.l.r.b.b.r.l.b.r.l.r.b.b.l (S93_5 g_ l_ s2587 s2647) k = Option.bind (b0a g_ s2587 s2647) (fun y2649 : Bool => k ⟨[(1, rl (.one (.int .i8)) l_), (2, rC a01 g_), (5, .one (.ow (.one (.sl (.one (.int .i8)))) s2587.1 (.v 5))), (6, ri s2647.1), (7, ri s2587.2.2), (8, .one (.ow (.one (.int .i8)) s2647.2.1 (.v 8))), (9, ri s2647.2.2), (28, rb y2649)], [], [], 52⟩) := .trans (by kernel_rfl) (bif_b (bif_b some_b none_b) none_b)
abbrev S93_6 : St := ⟨[(1, rl (.one (.int .i8)) l_), (2, rC a01 g_), (5, .one (.ow (.one (.sl (.one (.int .i8)))) s2587.1 (.v 5))), (6, ri s2647.1), (7, ri s2587.2.2), (8, .one (.ow (.one (.int .i8)) s2647.2.1 (.v 8))), (9, ri s2647.2.2), (10, rk .i8 (0 : Int))], [], [], 52⟩
theorem c4f : P93 1 C93.r.r.r.l.r.b.b.r.l.b.r.l.r.b.b.r.l.b (S93_5 g_ l_ s2587 s2647) k = k (S93_6 g_ l_ s2587 s2647) := by kernel_rfl
theorem b5y : P93 1 C93.r.r.r.l.r.b.b.r.l.b.r.l.r.b.b.r.l.b.r.l (S93_6 g_ l_ s2587 s2647) k = k ⟨[(1, rl (.one (.int .i8)) l_), (2, rC a01 g_), (5, .one (.ow (.one (.sl (.one (.int .i8)))) s2587.1 (.v 5))), (6, ri s2647.1), (7, ri s2587.2.2), (8, .one (.ow (.one (.int .i8)) s2647.2.1 (.v 8))), (9, ri s2647.2.2), (10, rk .i8 (0 : Int)), (33, rb (decide ((l_.length : Int) > 0)))], [], [], 52⟩ := by kernel_rfl
def a9c : Option Unit := (bif ((l_.length : Int) == 0) then none else (bif (decide ((0 : Int) ≤ (Int.tmod s2647.1 (l_.length : Int)))) then (bif (decide ((Int.tmod s2647.1 (l_.length : Int)) < (l_.length : Int))) then (some ()) else none) else none))
abbrev S93_7 : St := ⟨[(1, rl (.one (.int .i8)) l_), (2, rC a01 g_), (5, .one (.ow (.one (.sl (.one (.int .i8)))) s2587.1 (.v 5))), (6, ri s2647.1), (7, ri s2587.2.2), (8, .one (.ow (.one (.int .i8)) s2647.2.1 (.v 8))), (9, ri s2647.2.2), (10, rk .i8 (gt l_ (Int.tmod s2647.1 (l_.length : Int)) (0 : Int)))], [], [], 52⟩
theorem c4i : R93 C93.r.r.r.l.r.b.b.r.l.b.r.l.r.b.b.r.l.b.r.l.r.t (S93_6 g_ l_ s2587 s2647) q = Option.bind (a9c l_ s2647) (fun y2653 : Unit => q .normal (S93_7 g_ l_ s2587 s2647)) := .trans (by kernel_rfl) (bif_b none_b (bif_b (bif_b some_b none_b) none_b))
def a9b : Option Int := (bif (decide ((l_.length : Int) > 0)) then (Option.bind (a9c l_ s2647) (fun y2653 : Unit => (some (gt l_ (Int.tmod s2647.1 (l_.length : Int)) (0 : Int))))) else (some (0 : Int)))
abbrev S93_8 : St := ⟨[(1, rl (.one (.int .i8)) l_), (2, rC a01 g_), (5, .one (.ow (.one (.sl (.one (.int .i8)))) s2587.1 (.v 5))), (6, ri s2647.1), (7, ri s2587.2.2), (8, .one (.ow (.one (.int .i8)) s2647.2.1 (.v 8))), (9, ri s2647.2.2), (10, rk .i8 y2654)], [], [], 52⟩
theorem c4h : R93 C93.r.r.r.l.r.b.b.r.l.b.r.l.r.b.b.r.l.b.r.l (S93_6 g_ l_ s2587 s2647) (Q93 C93.r.r.r.l.r.b.b.r.l.b.r.l.r.b.b.r.l.b.r.r q) = Option.bind (a9b l_ s2647) (fun y2654 : Int => R93 C93.r.r.r.l.r.b.b.r.l.b.r.l.r.b.b.r.l.b.r.r (S93_8 g_ l_ s2587 s2647 y2654) q) := by
  refine .trans ?_ (bif_b (bind_b fun y2653 => some_b) some_b)
  refine (pre1 (b5y g_ l_ s2587 s2647 _)).trans ?_
  refine (cond_e (b := (decide ((l_.length : Int) > 0))) (st' := (S93_6 g_ l_ s2587 s2647)) ).trans (bif_g ?_ ?_)
  · refine (c4i g_ l_ s2587 s2647 _).trans (bind_g fun y2653 => ?_)
    refine (seqC_normal (st' := (S93_7 g_ l_ s2587 s2647))).trans ?_
    kernel_rfl
  · refine (skip_eq).trans ?_
    refine (seqC_normal (st' := (S93_6 g_ l_ s2587 s2647))).trans ?_
    kernel_rfl
abbrev S93_9 : St := ⟨[(1, rl (.one (.int .i8)) l_), (2, rC a01 g_), (5, .one (.ow (.one (.sl (.one (.int .i8)))) s2587.1 (.v 5))), (6, ri (IntKind.wrap .i64 (s2647.1 + 1))), (7, ri s2587.2.2), (8, .one (.ow (.one (.int .i8)) s2647.2.1 (.v 8))), (9, ri s2647.2.2), (10, rk .i8 y2654)], [], [], 52⟩
theorem c4g : P93 1 C93.r.r.r.l.r.b.b.r.l.b.r.l.r.b.b.r.l.b.r.r (S93_8 g_ l_ s2587 s2647 y2654) k = k (S93_9 g_ l_ s2587 s2647 y2654) := by kernel_rfl
def a9d : Option Unit := (bif (decide (s2647.2.1.length + ([y2654] : List Int).length ≤ maxL)) then (some ()) else none)
abbrev d7d : St := ⟨[(1, rl (.one (.int .i8)) l_), (2, rC a01 g_), (5, .one (.ow (.one (.sl (.one (.int .i8)))) s2587.1 (.v 5))), (6, ri (IntKind.wrap .i64 (s2647.1 + 1))), (7, ri s2587.2.2), (8, .one (.ow (.one (.int .i8)) (s2647.2.1 ++ [y2654]) (.v 8))), (9, ri s2647.2.2)], [], [], 52⟩
theorem c4j : R93 C93.r.r.r.l.r.b.b.r.l.b.r.l.r.b.b.r.l.b.r.r.r (S93_9 g_ l_ s2587 s2647 y2654) q = Option.bind (a9d s2647 y2654) (fun y2655 : Unit => q .normal (d7d g_ l_ s2587 s2647 y2654)) := .trans (by kernel_rfl) (bif_b some_b none_b)
theorem c8a : R93 C93.r.r.r.l.r.b.b.r.l.b.r.l.r.b.b.r.r (d7d g_ l_ s2587 s2647 y2654) q = q .normal ⟨[(1, rl (.one (.int .i8)) l_), (2, rC a01 g_), (5, .one (.ow (.one (.sl (.one (.int .i8)))) s2587.1 (.v 5))), (6, ri (IntKind.wrap .i64 (s2647.1 + 1))), (7, ri s2587.2.2), (8, .one (.ow (.one (.int .i8)) (s2647.2.1 ++ [y2654]) (.v 8))), (9, ri (IntKind.wrap .i64 (s2647.2.2 + 1)))], [], [], 52⟩ := by kernel_rfl
def a5h : Option ((Int × (List Int) × Int) ⊕ (Int × (List Int) × Int)) := (Option.bind (b0a g_ s2587 s2647) (fun y2649 : Bool => (bif y2649 then (Option.bind (a9b l_ s2647) (fun y2654 : Int => (Option.bind (a9d s2647 y2654) (fun y2655 : Unit => (some (Sum.inl ((IntKind.wrap .i64 (s2647.1 + 1)), (s2647.2.1 ++ [y2654]), (IntKind.wrap .i64 (s2647.2.2 + 1))))))))) else (some (Sum.inr s2647)))))
abbrev d7e : St := ⟨[(1, rl (.one (.int .i8)) l_), (2, rC a01 g_), (5, .one (.ow (.one (.sl (.one (.int .i8)))) s2587.1 (.v 5))), (6, ri y2656.1), (7, ri s2587.2.2), (8, .one (.ow (.one (.int .i8)) y2656.2.1 (.v 8))), (9, ri y2656.2.2)], [], [], 52⟩
theorem c1j : R93 C93.r.r.r.l.r.b.b.r.l.b.r.l.r.b.b (S93_5 g_ l_ s2587 s2647) (loopKont 0 q) = Option.bind (a5h g_ l_ s2587 s2647) (either (fun y : (Int × (List Int) × Int) => q .normal ⟨[(1, rl (.one (.int .i8)) l_), (2, rC a01 g_), (5, .one (.ow (.one (.sl (.one (.int .i8)))) s2587.1 (.v 5))), (6, ri y.1), (7, ri s2587.2.2), (8, .one (.ow (.one (.int .i8)) y.2.1 (.v 8))), (9, ri y.2.2)], [], [], 52⟩) (fun y2656 : (Int × (List Int) × Int) => q (.exit 2) (d7e g_ l_ s2587 y2656))) := by
  refine .trans ?_ (bind_b fun y2649 => (bif_b (bind_b fun y2654 => (bind_b fun y2655 => e2_0)) e2_1))
  refine .trans seq_push ?_
  refine (pre1 (c89 g_ l_ s2587 s2647 _)).trans (bind_g fun y2649 => ?_)
  refine (cond_e (b := y2649) (st' := (S93_5 g_ l_ s2587 s2647)) ).trans (bif_g ?_ ?_)
  · refine (skip_eq).trans ?_
    refine (seqC_normal (st' := (S93_5 g_ l_ s2587 s2647))).trans ?_
    refine .trans seq_push ?_
    refine (block_push (id := 3)).trans ?_
    refine (pre1 (c4f g_ l_ s2587 s2647 _)).trans ?_
    refine .trans seq_push ?_
    refine (c4h g_ l_ s2587 s2647 _).trans (bind_g fun y2654 => ?_)
    refine (pre1 (c4g g_ l_ s2587 s2647 y2654 _)).trans ?_
    refine (c4j g_ l_ s2587 s2647 y2654 _).trans (bind_g fun y2655 => ?_)
    refine block_normal.trans ?_
    refine (seqC_normal (st' := (d7d g_ l_ s2587 s2647 y2654))).trans ?_
    refine (c8a g_ l_ s2587 s2647 y2654 _).trans ?_
    kernel_rfl
  · refine ((exit_eq (j := 2))).trans ?_
    refine seqC_exit.trans ?_
    kernel_rfl
theorem c87 : R93 C93.r.r.r.l.r.b.b.r.l.b.r.l.r.b (S93_4 g_ l_ s2587) q = Option.bind (iterN (a5h g_ l_ s2587) LL (s2587.2.1, [], (0 : Int))) (fun y2656 : (Int × (List Int) × Int) => q (.exit 2) (d7e g_ l_ s2587 y2656)) :=
  Eq.trans (by kernel_rfl) (loop_iter1 (S := fun s2647 : (Int × (List Int) × Int) => (S93_5 g_ l_ s2587 s2647)) (Y1 := fun y2656 : (Int × (List Int) × Int) => ((.exit 2), (d7e g_ l_ s2587 y2656))) (fun s q => c1j g_ l_ s2587 s q) (fun z => rfl) LL (s2587.2.1, [], (0 : Int)))
def a9e : Option Unit := (bif (decide (s2587.1.length + ([y2656.2.1] : List (List Int)).length ≤ maxL)) then (some ()) else none)
abbrev e3s : St := ⟨[(1, rl (.one (.int .i8)) l_), (2, rC a01 g_), (5, .one (.ow (.one (.sl (.one (.int .i8)))) s2587.1 (.v 5))), (6, ri y2656.1), (7, ri s2587.2.2), (8, .one (.ow (.one (.int .i8)) y2656.2.1 (.v 8)))], [], [], 52⟩
abbrev d7f : St := ⟨[(1, rl (.one (.int .i8)) l_), (2, rC a01 g_), (5, .one (.ow (.one (.sl (.one (.int .i8)))) (s2587.1 ++ [y2656.2.1]) (.v 5))), (6, ri y2656.1), (7, ri s2587.2.2)], [], [], 52⟩
theorem c4k : R93 C93.r.r.r.l.r.b.b.r.l.b.r.r (e3s g_ l_ s2587 y2656) q = Option.bind (a9e s2587 y2656) (fun y2657 : Unit => q .normal (d7f g_ l_ s2587 y2656)) := .trans (by kernel_rfl) (bif_b some_b none_b)
theorem c88 : R93 C93.r.r.r.l.r.b.b.r.r (d7f g_ l_ s2587 y2656) q = q .normal ⟨[(1, rl (.one (.int .i8)) l_), (2, rC a01 g_), (5, .one (.ow (.one (.sl (.one (.int .i8)))) (s2587.1 ++ [y2656.2.1]) (.v 5))), (6, ri y2656.1), (7, ri (IntKind.wrap .i64 (s2587.2.2 + 1)))], [], [], 52⟩ := by kernel_rfl
def a5g : Option (((List (List Int)) × Int × Int) ⊕ ((List (List Int)) × Int × Int)) := (bif (decide (s2587.2.2 < (g_.1.length : Int))) then (Option.bind (iterN (a5h g_ l_ s2587) LL (s2587.2.1, [], (0 : Int))) (fun y2656 : (Int × (List Int) × Int) => (Option.bind (a9e s2587 y2656) (fun y2657 : Unit => (some (Sum.inl ((s2587.1 ++ [y2656.2.1]), y2656.1, (IntKind.wrap .i64 (s2587.2.2 + 1))))))))) else (some (Sum.inr s2587)))
abbrev d7g : St := ⟨[(1, rl (.one (.int .i8)) l_), (2, rC a01 g_), (5, .one (.ow (.one (.sl (.one (.int .i8)))) y2658.1 (.v 5))), (6, ri y2658.2.1), (7, ri y2658.2.2)], [], [], 52⟩
theorem c1i : R93 C93.r.r.r.l.r.b.b (S93_2 g_ l_ s2587) (loopKont 0 q) = Option.bind (a5g g_ l_ s2587) (either (fun y : ((List (List Int)) × Int × Int) => q .normal ⟨[(1, rl (.one (.int .i8)) l_), (2, rC a01 g_), (5, .one (.ow (.one (.sl (.one (.int .i8)))) y.1 (.v 5))), (6, ri y.2.1), (7, ri y.2.2)], [], [], 52⟩) (fun y2658 : ((List (List Int)) × Int × Int) => q (.exit 0) (d7g g_ l_ y2658))) := by
  refine .trans ?_ (bif_b (bind_b fun y2656 => (bind_b fun y2657 => e2_0)) e2_1)
  refine .trans seq_push ?_
  refine (pre1 (c84 g_ l_ s2587 _)).trans ?_
  refine (cond_e (b := (decide (s2587.2.2 < (g_.1.length : Int)))) (st' := (S93_2 g_ l_ s2587)) ).trans (bif_g ?_ ?_)
  · refine (skip_eq).trans ?_
    refine (seqC_normal (st' := (S93_2 g_ l_ s2587))).trans ?_
    refine .trans seq_push ?_
    refine (block_push (id := 1)).trans ?_
    refine (pre1 (c82 g_ l_ s2587 _)).trans ?_
    refine .trans seq_push ?_
    refine (pre1 (c83 g_ l_ s2587 _)).trans ?_
    refine (block_push (id := 2)).trans ?_
    refine (c87 g_ l_ s2587 _).trans (bind_g fun y2656 => ?_)
    refine block_same.trans ?_
    refine (seqC_normal (st' := (e3s g_ l_ s2587 y2656))).trans ?_
    refine (c4k g_ l_ s2587 y2656 _).trans (bind_g fun y2657 => ?_)
    refine block_normal.trans ?_
    refine (seqC_normal (st' := (d7f g_ l_ s2587 y2656))).trans ?_
    refine (c88 g_ l_ s2587 y2656 _).trans ?_
    kernel_rfl
  · refine ((exit_eq (j := 0))).trans ?_
    refine seqC_exit.trans ?_
    kernel_rfl
theorem c86 : R93 C93.r.r.r.l.r.b (S93_1 g_ l_) q = Option.bind (iterN (a5g g_ l_) LL ([], (0 : Int), (0 : Int))) (fun y2658 : ((List (List Int)) × Int × Int) => q (.exit 0) (d7g g_ l_ y2658)) :=
  Eq.trans (by kernel_rfl) (loop_iter1 (S := fun s2587 : ((List (List Int)) × Int × Int) => (S93_2 g_ l_ s2587)) (Y1 := fun y2658 : ((List (List Int)) × Int × Int) => ((.exit 0), (d7g g_ l_ y2658))) (fun s q => c1i g_ l_ s q) (fun z => rfl) LL ([], (0 : Int), (0 : Int)))
abbrev e3t : St := ⟨[(5, .one (.ow (.one (.sl (.one (.int .i8)))) y2658.1 (.v 5)))], [], [], 52⟩
theorem c1h : P93 1 C93.r.r.r.r (e3t y2658) k = k ⟨[(4, .one (.ow (.one (.sl (.one (.int .i8)))) y2658.1 (.v 5)))], [], [], 52⟩ := by kernel_rfl
/-- quilt/quiltref06.Filled -/
def a2y : Option (List (List Int)) := (Option.bind (iterN (a5g g_ l_) LL ([], (0 : Int), (0 : Int))) (fun y2658 : ((List (List Int)) × Int × Int) => (some y2658.1)))
theorem c85 : stepO E cp89 ce4 10 [rA a01 g_, rl (.one (.int .i8)) l_] = Option.bind (a2y g_ l_) (fun y : (List (List Int)) => some (.one (.ow (.one (.sl (.one (.int .i8)))) y (.s 0)) : R)) := by
  refine .trans ?_ (bind_b fun y2658 => some_b)
  refine (stepG_is (nt := 52) (regs := [(0, rA a01 g_), (1, rl (.one (.int .i8)) l_)])).trans ?_
  refine (pre3 (c80 g_ l_ _)).trans ?_
  refine .trans seq_push ?_
  refine (pre1 (c81 g_ l_ _)).trans ?_
  refine (block_push (id := 0)).trans ?_
  refine (c86 g_ l_ _).trans (bind_g fun y2658 => ?_)
  refine block_same.trans ?_
  refine (seqC_normal (st' := (e3t y2658))).trans ?_
  refine (pre1 (c1h y2658 _)).trans ?_
  refine (ret_eq).trans ?_
  kernel_rfl
noncomputable def cp90 : CallP := withC cp89 10 [(.agg a01), (.one (.g (.sl (.one (.int .i8)))))] (.one (.one (.ow (.one (.sl (.one (.int .i8))))))) (fun y : (List (List Int)) => y) (fun x => a2y x.1 x.2.1)
theorem e66 : PureOK E cp90 := conO eok e65 a0o fun x => Eq.mp (by kernel_rfl) (c85 x.1 x.2.1)
end
section
variable {α : Type} (a_ : (List Int)) (b_ : (List Int)) (s2677 : Int) (k : St → Option α) (q : Kont α)
noncomputable abbrev C94 := codeOf E.P 13
noncomputable abbrev P94 := @preK α E 13 cp90 ce4
noncomputable abbrev R94 := @runCode α E 13 cp90 ce4
abbrev S94_0 : St := ⟨[(0, rl (.one (.int .i8)) a_), (1, rl (.one (.int .i8)) b_)], [], [], 26⟩
theorem d63 : P94 1 C94 (S94_0 a_ b_) k = k (S94_0 a_ b_) := by kernel_rfl
theorem b8f : P94 1 C94.r.l (S94_0 a_ b_) k = k ⟨[(0, rl (.one (.int .i8)) a_), (1, rl (.one (.int .i8)) b_), (10, rb ((a_.length : Int) != (b_.length : Int)))], [], [], 26⟩ := by kernel_rfl
abbrev S94_1 : St := ⟨[(4, rb false)], [], [], 26⟩
theorem d65 : P94 1 C94.r.l.r.t (S94_0 a_ b_) k = k S94_1 := by kernel_rfl
abbrev S94_2 : St := ⟨[(0, rl (.one (.int .i8)) a_), (1, rl (.one (.int .i8)) b_), (5, ri 0)], [], [], 26⟩
theorem d64 : P94 1 C94.r.r.l (S94_0 a_ b_) k = k (S94_2 a_ b_) := by kernel_rfl
abbrev S94_3 : St := ⟨[(0, rl (.one (.int .i8)) a_), (1, rl (.one (.int .i8)) b_), (5, ri s2677)], [], [], 26⟩
theorem c7w : P94 1 C94.r.r.l.r.b.b.l (S94_3 a_ b_ s2677) k = k ⟨[(0, rl (.one (.int .i8)) a_), (1, rl (.one (.int .i8)) b_), (5, ri s2677), (14, rb (decide (s2677 < (a_.length : Int))))], [], [], 26⟩ := by kernel_rfl
def b3o : Option Unit := (bif (decide ((0 : Int) ≤ s2677)) then (bif (decide (s2677 < (a_.length : Int))) then (bif (decide ((0 : Int) ≤ s2677)) then (bif (decide (s2677 < (b_.length : Int))) then (some ()) else none) else none) else none) else none)
theorem d69 : P94 1 C94.r.r.l.r.b.b.r.l.b (S94_3 a_ b_ s2677) k = Option.bind (b3o a_ b_ s2677) (fun y2679 : Unit => k ⟨[(0, rl (.one (.int .i8)) a_), (1, rl (.one (.int .i8)) b_), (5, ri s2677), (25, rb ((gt a_ s2677 (0 : Int)) != (gt b_ s2677 (0 : Int))))], [], [], 26⟩) := .trans (by kernel_rfl) (bif_b (bif_b (bif_b (bif_b some_b none_b) none_b) none_b) none_b)
theorem c7x : P94 1 C94.r.r.l.r.b.b.r.l.b.r.t (S94_3 a_ b_ s2677) k = k S94_1 := by kernel_rfl
theorem d68 : R94 C94.r.r.l.r.b.b.r.r (S94_3 a_ b_ s2677) q = q .normal ⟨[(0, rl (.one (.int .i8)) a_), (1, rl (.one (.int .i8)) b_), (5, ri (IntKind.wrap .i64 (s2677 + 1)))], [], [], 26⟩ := by kernel_rfl
def a7n : Option (Int ⊕ (Int ⊕ Unit)) := (bif (decide (s2677 < (a_.length : Int))) then (Option.bind (b3o a_ b_ s2677) (fun y2679 : Unit => (bif ((gt a_ s2677 (0 : Int)) != (gt b_ s2677 (0 : Int))) then (some (Sum.inr (Sum.inr ()))) else (some (Sum.inl (IntKind.wrap .i64 (s2677 + 1))))))) else (some (Sum.inr (Sum.inl s2677))))
abbrev S94_4 (y2680 : Int) : St := ⟨[(0, rl (.one (.int .i8)) a_), (1, rl (.one (.int .i8)) b_), (5, ri y2680)], [], [], 26⟩
theorem c7z : R94 C94.r.r.l.r.b.b (S94_3 a_ b_ s2677) (loopKont 0 q) = Option.bind (a7n a_ b_ s2677) (either (fun y : Int => q .normal ⟨[(0, rl (.one (.int .i8)) a_), (1, rl (.one (.int .i8)) b_), (5, ri y)], [], [], 26⟩) (either (fun y2680 : Int => q (.exit 0) (S94_4 a_ b_ y2680)) (fun y2681 : Unit => q .ret S94_1))) := by
  refine .trans ?_ (bif_b (bind_b fun y2679 => (bif_b e3_2 e3_0)) e3_1)
  refine .trans seq_push ?_
  refine (pre1 (c7w a_ b_ s2677 _)).trans ?_
  refine (cond_e (b := (decide (s2677 < (a_.length : Int)))) (st' := (S94_3 a_ b_ s2677)) ).trans (bif_g ?_ ?_)
  · refine (skip_eq).trans ?_
    refine (seqC_normal (st' := (S94_3 a_ b_ s2677))).trans ?_
    refine .trans seq_push ?_
    refine (block_push (id := 1)).trans ?_
    refine (pre1 (d69 a_ b_ s2677 _)).trans (bind_g fun y2679 => ?_)
    refine (cond_e (b := ((gt a_ s2677 (0 : Int)) != (gt b_ s2677 (0 : Int)))) (st' := (S94_3 a_ b_ s2677)) ).trans (bif_g ?_ ?_)
    · refine (pre1 (c7x a_ b_ s2677 _)).trans ?_
      refine (ret_eq).trans ?_
      refine block_ret.trans ?_
      refine seqC_ret.trans ?_
      kernel_rfl
    · refine (skip_eq).trans ?_
      refine block_normal.trans ?_
      refine (seqC_normal (st' := (S94_3 a_ b_ s2677))).trans ?_
      refine (d68 a_ b_ s2677 _).trans ?_
      kernel_rfl
  · refine ((exit_eq (j := 0))).trans ?_
    refine seqC_exit.trans ?_
    kernel_rfl
theorem d67 : R94 C94.r.r.l.r.b (S94_2 a_ b_) q = Option.bind (iterN (a7n a_ b_) LL (0 : Int)) (either (fun y2680 : Int => q (.exit 0) (S94_4 a_ b_ y2680)) (fun y2681 : Unit => q .ret S94_1)) :=
  Eq.trans (by kernel_rfl) (loop_iter2 (S := fun s2677 : Int => (S94_3 a_ b_ s2677)) (Y1 := fun y2680 : Int => ((.exit 0), (S94_4 a_ b_ y2680))) (Y2 := fun y2681 : Unit => (.ret, S94_1)) (fun s q => c7z a_ b_ s q) (fun z => rfl) (fun z => rfl) LL (0 : Int))
theorem c7y : P94 1 C94.r.r.r ⟨[], [], [], 26⟩ k = k ⟨[(4, rb true)], [], [], 26⟩ := by kernel_rfl
/-- quilt/quiltref05.Same -/
def a2f : Option Bool := (bif ((a_.length : Int) != (b_.length : Int)) then (some false) else (Option.bind (iterN (a7n a_ b_) LL (0 : Int)) (either (fun y2680 : Int => (some true)) (fun y2681 : Unit => (some false)))))
theorem d66 : stepS E cp90 ce4 13 [rl (.one (.int .i8)) a_, rl (.one (.int .i8)) b_] = Option.bind (a2f a_ b_) (fun y : Bool => some (rb y : R)) := by
  refine .trans ?_ (bif_b some_b (bind_b (either_b (fun y2680 => some_b) (fun y2681 => some_b))))
  refine (stepG_is (nt := 26) (regs := [(0, rl (.one (.int .i8)) a_), (1, rl (.one (.int .i8)) b_)])).trans ?_
  refine (pre1 (d63 a_ b_ _)).trans ?_
  refine .trans seq_push ?_
  refine (pre1 (b8f a_ b_ _)).trans ?_
  refine (cond_e (b := ((a_.length : Int) != (b_.length : Int))) (st' := (S94_0 a_ b_)) ).trans (bif_g ?_ ?_)
  · refine (pre1 (d65 a_ b_ _)).trans ?_
    refine (ret_eq).trans ?_
    refine seqC_ret.trans ?_
    kernel_rfl
  · refine (skip_eq).trans ?_
    refine (seqC_normal (st' := (S94_0 a_ b_))).trans ?_
    refine .trans seq_push ?_
    refine (pre1 (d64 a_ b_ _)).trans ?_
    refine (block_push (id := 0)).trans ?_
    refine (d67 a_ b_ _).trans (bind_g (either_g (fun y2680 => ?_) (fun y2681 => ?_)))
    · refine block_same.trans ?_
      refine (seqC_normal (st' := ⟨[], [], [], 26⟩)).trans ?_
      refine (pre1 (c7y _)).trans ?_
      refine (ret_eq).trans ?_
      kernel_rfl
    · refine block_ret.trans ?_
      refine seqC_ret.trans ?_
      kernel_rfl
noncomputable def cp91 : CallP := withC cp90 13 [(.one (.g (.sl (.one (.int .i8))))), (.one (.g (.sl (.one (.int .i8)))))] (.one pB) (fun y : Bool => y) (fun x => a2f x.1 x.2.1)
theorem e67 : PureOK E cp91 := conS eok e66 a0o fun x => Eq.mp (by kernel_rfl) (d66 x.1 x.2.1)
end
end Go.V.P
