/- What functions compute. -/
import Derived.Test.YtdgdgoekapekpaaEv0
namespace Go.V.P
open Go.RowKit Go.V Go.Proofs
set_option linter.unusedVariables false
set_option maxRecDepth 100000
section
variable {α : Type} (s_ : (List I4)) (f_ : Node) (k : St → Option α)
noncomputable abbrev C12 := codeOf E.P 43
noncomputable abbrev P12 := @preK α E 43 cp12 noE
theorem a30 : P12 2 C12 ⟨[(0, rl tsI4 s_), (1, .one (.fn 44 [.cell (a00.leaves f_)]))], [], [], 9⟩ k = Option.bind (a0p s_ f_) fun y216 : Int => k ⟨[(4, rb (decide (y216 ≥ 0)))], [], [], 9⟩ := by kernel_rfl
/-- slices.ContainsFunc[[]quilt/api.Value,quilt/api.Value] -/
def a0w : Option Bool := (Option.bind (a0p s_ f_) (fun y216 : Int => (some (decide (y216 ≥ 0)))))
theorem a2z : stepS E cp12 noE 43 [rl tsI4 s_, .one (.fn 44 [.cell (a00.leaves f_)])] = Option.bind (a0w s_ f_) (fun y : Bool => some (rb y : R)) := by
  refine .trans ?_ (bind_b fun y216 => some_b)
  refine (stepG_is (nt := 9) (regs := [(0, rl tsI4 s_), (1, .one (.fn 44 [.cell (a00.leaves f_)]))])).trans ?_
  refine (pre2 (a30 s_ f_ _)).trans (bind_g fun y216 => ?_)
  refine (ret_eq).trans ?_
  kernel_rfl
noncomputable def cp13 : CallP := withC cp12 43 [(pL tsI4), (.one (.fn 44 (.cons (.cell (.cons (.g (.int .i64)) (.cons (.g (.sl (.one (.int .i64)))) (.cons (.g (.int .i64)) (.cons (.g (.int .i64)) (.cons (.g (.int .i64)) (.cons (.g (.int .i64)) (.cons (.g (.int .i64)) (.cons (.g (.int .i64)) (.cons (.g (.int .i64)) (.cons (.g (.int .i64)) (.cons (.g (.int .i64)) (.cons (.g (.int .i64)) (.cons (.g (.sl (.one (.int .i8)))) (.cons (.g (.sl (.one (.int .i32)))) .nil))))))))))))))) .nil)))] (.one pB) (fun y : Bool => y) (fun x => a0w x.1 (x.2.1.1.1, x.2.1.1.2.1, x.2.1.1.2.2.1, x.2.1.1.2.2.2.1, x.2.1.1.2.2.2.2.1, x.2.1.1.2.2.2.2.2.1, x.2.1.1.2.2.2.2.2.2.1, x.2.1.1.2.2.2.2.2.2.2.1, x.2.1.1.2.2.2.2.2.2.2.2.1, x.2.1.1.2.2.2.2.2.2.2.2.2.1, x.2.1.1.2.2.2.2.2.2.2.2.2.2.1, x.2.1.1.2.2.2.2.2.2.2.2.2.2.2.1, x.2.1.1.2.2.2.2.2.2.2.2.2.2.2.2.1, x.2.1.1.2.2.2.2.2.2.2.2.2.2.2.2.2.1))
theorem e45 : PureOK E cp13 := conS eok e44 noE_ok fun x => Eq.mp (by kernel_rfl) (a2z x.1 (x.2.1.1.1, x.2.1.1.2.1, x.2.1.1.2.2.1, x.2.1.1.2.2.2.1, x.2.1.1.2.2.2.2.1, x.2.1.1.2.2.2.2.2.1, x.2.1.1.2.2.2.2.2.2.1, x.2.1.1.2.2.2.2.2.2.2.1, x.2.1.1.2.2.2.2.2.2.2.2.1, x.2.1.1.2.2.2.2.2.2.2.2.2.1, x.2.1.1.2.2.2.2.2.2.2.2.2.2.1, x.2.1.1.2.2.2.2.2.2.2.2.2.2.2.1, x.2.1.1.2.2.2.2.2.2.2.2.2.2.2.2.1, x.2.1.1.2.2.2.2.2.2.2.2.2.2.2.2.2.1))
end
noncomputable abbrev C13 := codeOf E.P 45
noncomputable abbrev P13 {α : Type} := @preK α E 45 cp13 noE
theorem c23 {α : Type} (v_ : I4) (k : St → Option α) : P13 2 C13 ⟨[(0, rA tsI4 v_)], [], [], 7⟩ k = Option.bind (a38 (v_.1, v_.2.1, v_.2.2.1)) fun y222 : Int => k ⟨[(2, rb (y222 != 0))], [], [], 7⟩ := by kernel_rfl
/-- quilt/graph.Value$2 -/
def a9j (v_ : I4) : Option Bool := (Option.bind (a38 (v_.1, v_.2.1, v_.2.2.1)) (fun y222 : Int => (some (y222 != 0))))
theorem c22 (v_ : I4) : stepS E cp13 noE 45 [rA tsI4 v_] = Option.bind (a9j v_) (fun y : Bool => some (rb y : R)) := by
  refine .trans ?_ (bind_b fun y222 => some_b)
  refine (stepG_is (nt := 7) (regs := [(0, rA tsI4 v_)])).trans ?_
  refine (pre2 (c23 v_ _)).trans (bind_g fun y222 => ?_)
  refine (ret_eq).trans ?_
  kernel_rfl
noncomputable def cp14 : CallP := withC cp13 45 [(.agg tsI4)] (.one pB) (fun y : Bool => y) (fun x => a9j x.1)
theorem e46 : PureOK E cp14 := conS eok e45 noE_ok fun x => Eq.mp (by kernel_rfl) (c22 x.1)
section
variable {α : Type} (s_ : (List I4)) (s239 : Int) (k : St → Option α) (q : Kont α)
noncomputable abbrev C14 := codeOf E.P 67
noncomputable abbrev P14 := @preK α E 67 cp14 noE
noncomputable abbrev R14 := @runCode α E 67 cp14 noE
abbrev S14_0 : St := ⟨[(0, rl tsI4 s_), (1, .one (.fn 45 []))], [], [], 19⟩
theorem a31 : P14 1 C14 (S14_0 s_) k = k (S14_0 s_) := by kernel_rfl
abbrev S14_1 : St := ⟨[(0, rl tsI4 s_), (1, .one (.fn 45 [])), (7, ri (s_.length : Int)), (8, ri 0)], [], [], 19⟩
theorem a32 : P14 1 C14.r.l (S14_0 s_) k = k (S14_1 s_) := by kernel_rfl
abbrev S14_2 : St := ⟨[(0, rl tsI4 s_), (1, .one (.fn 45 [])), (7, ri (s_.length : Int)), (8, ri s239)], [], [], 19⟩
theorem a33 : P14 1 C14.r.l.r.b.b (S14_2 s_ s239) k = k ⟨[(0, rl tsI4 s_), (1, .one (.fn 45 [])), (7, ri (s_.length : Int)), (8, ri s239), (9, rb (decide (s239 < (s_.length : Int))))], [], [], 19⟩ := by kernel_rfl
def a18 : Option Bool := (bif (decide ((0 : Int) ≤ s239)) then (bif (decide (s239 < (s_.length : Int))) then (Option.bind (a9j (gt s_ s239 dI4)) (fun y242 : Bool => (some y242))) else none) else none)
theorem a36 : P14 2 C14.r.l.r.b.b.r.r.l.b (S14_2 s_ s239) k = Option.bind (a18 s_ s239) (fun y243 : Bool => k ⟨[(0, rl tsI4 s_), (1, .one (.fn 45 [])), (5, ri s239), (7, ri (s_.length : Int)), (8, ri s239), (16, rb y243)], [], [], 19⟩) := .trans (by kernel_rfl) (bif_b (bif_b (bind_b fun y242 => some_b) none_b) none_b)
abbrev S14_3 : St := ⟨[(0, rl tsI4 s_), (1, .one (.fn 45 [])), (5, ri s239), (7, ri (s_.length : Int)), (8, ri s239)], [], [], 19⟩
theorem a2j : P14 1 C14.r.l.r.b.b.r.r.l.b.r.r.t (S14_3 s_ s239) k = k ⟨[(4, ri s239)], [], [], 19⟩ := by kernel_rfl
theorem a37 : R14 C14.r.l.r.b.b.r.r.r (S14_2 s_ s239) q = q .normal ⟨[(0, rl tsI4 s_), (1, .one (.fn 45 [])), (7, ri (s_.length : Int)), (8, ri (IntKind.wrap .i64 (s239 + 1)))], [], [], 19⟩ := by kernel_rfl
def a0q : Option (Int ⊕ (Int ⊕ Int)) := (bif (decide (s239 < (s_.length : Int))) then (Option.bind (a18 s_ s239) (fun y243 : Bool => (bif y243 then (some (Sum.inr (Sum.inr s239))) else (some (Sum.inl (IntKind.wrap .i64 (s239 + 1))))))) else (some (Sum.inr (Sum.inl s239))))
abbrev S14_4 (y244 : Int) : St := ⟨[(0, rl tsI4 s_), (1, .one (.fn 45 [])), (7, ri (s_.length : Int)), (8, ri y244)], [], [], 19⟩
theorem a2l : R14 C14.r.l.r.b.b (S14_2 s_ s239) (loopKont 0 q) = Option.bind (a0q s_ s239) (either (fun y : Int => q .normal ⟨[(0, rl tsI4 s_), (1, .one (.fn 45 [])), (7, ri (s_.length : Int)), (8, ri y)], [], [], 19⟩) (either (fun y244 : Int => q (.exit 0) (S14_4 s_ y244)) (fun y245 : Int => q .ret ⟨[(4, ri y245)], [], [], 19⟩))) := by
  refine .trans ?_ (bif_b (bind_b fun y243 => (bif_b e3_2 e3_0)) e3_1)
  refine (pre1 (a33 s_ s239 _)).trans ?_
  refine .trans seq_push ?_
  refine (cond_e (b := (decide (s239 < (s_.length : Int)))) (st' := (S14_2 s_ s239)) ).trans (bif_g ?_ ?_)
  · refine (skip_eq).trans ?_
    refine (seqC_normal (st' := (S14_2 s_ s239))).trans ?_
    refine .trans seq_push ?_
    refine (block_push (id := 1)).trans ?_
    refine (pre2 (a36 s_ s239 _)).trans (bind_g fun y243 => ?_)
    refine (cond_e (b := y243) (st' := (S14_3 s_ s239)) ).trans (bif_g ?_ ?_)
    · refine (pre1 (a2j s_ s239 _)).trans ?_
      refine (ret_eq).trans ?_
      refine block_ret.trans ?_
      refine seqC_ret.trans ?_
      kernel_rfl
    · refine (skip_eq).trans ?_
      refine block_normal.trans ?_
      refine (seqC_normal (st' := (S14_2 s_ s239))).trans ?_
      refine (a37 s_ s239 _).trans ?_
      kernel_rfl
  · refine ((exit_eq (j := 0))).trans ?_
    refine seqC_exit.trans ?_
    kernel_rfl
theorem a35 : R14 C14.r.l.r.b (S14_1 s_) q = Option.bind (iterN (a0q s_) LL (0 : Int)) (either (fun y244 : Int => q (.exit 0) (S14_4 s_ y244)) (fun y245 : Int => q .ret ⟨[(4, ri y245)], [], [], 19⟩)) :=
  Eq.trans (by kernel_rfl) (loop_iter2 (S := fun s239 : Int => (S14_2 s_ s239)) (Y1 := fun y244 : Int => ((.exit 0), (S14_4 s_ y244))) (Y2 := fun y245 : Int => (.ret, ⟨[(4, ri y245)], [], [], 19⟩)) (fun s q => a2l s_ s q) (fun z => rfl) (fun z => rfl) LL (0 : Int))
theorem a2k : P14 1 C14.r.r ⟨[], [], [], 19⟩ k = k ⟨[(4, ri (-1 : Int))], [], [], 19⟩ := by kernel_rfl
/-- slices.IndexFunc[[]quilt/api.Value,quilt/api.Value] -/
def a0l : Option Int := (Option.bind (iterN (a0q s_) LL (0 : Int)) (either (fun y244 : Int => (some (-1 : Int))) (fun y245 : Int => (some y245))))
theorem a34 : stepS E cp14 noE 67 [rl tsI4 s_, .one (.fn 45 [])] = Option.bind (a0l s_) (fun y : Int => some (ri y : R)) := by
  refine .trans ?_ (bind_b (either_b (fun y244 => some_b) (fun y245 => some_b)))
  refine (stepG_is (nt := 19) (regs := [(0, rl tsI4 s_), (1, .one (.fn 45 []))])).trans ?_
  refine (pre1 (a31 s_ _)).trans ?_
  refine .trans seq_push ?_
  refine (pre1 (a32 s_ _)).trans ?_
  refine (block_push (id := 0)).trans ?_
  refine (a35 s_ _).trans (bind_g (either_g (fun y244 => ?_) (fun y245 => ?_)))
  · refine block_same.trans ?_
    refine (seqC_normal (st' := ⟨[], [], [], 19⟩)).trans ?_
    refine (pre1 (a2k _)).trans ?_
    refine (ret_eq).trans ?_
    kernel_rfl
  · refine block_ret.trans ?_
    refine seqC_ret.trans ?_
    kernel_rfl
noncomputable def cp15 : CallP := withC cp14 67 [(pL tsI4), (.one (.fn 45 .nil))] (.one pI) (fun y : Int => y) (fun x => a0l x.1)
theorem e47 : PureOK E cp15 := conS eok e46 noE_ok fun x => Eq.mp (by kernel_rfl) (a34 x.1)
end
noncomputable abbrev C15 := codeOf E.P 43
noncomputable abbrev P15 {α : Type} := @preK α E 43 cp15 noE
theorem a2i {α : Type} (s_ : (List I4)) (k : St → Option α) : P15 2 C15 ⟨[(0, rl tsI4 s_), (1, .one (.fn 45 []))], [], [], 9⟩ k = Option.bind (a0l s_) fun y246 : Int => k ⟨[(4, rb (decide (y246 ≥ 0)))], [], [], 9⟩ := by kernel_rfl
/-- slices.ContainsFunc[[]quilt/api.Value,quilt/api.Value] -/
def a0i (s_ : (List I4)) : Option Bool := (Option.bind (a0l s_) (fun y246 : Int => (some (decide (y246 ≥ 0)))))
theorem a2h (s_ : (List I4)) : stepS E cp15 noE 43 [rl tsI4 s_, .one (.fn 45 [])] = Option.bind (a0i s_) (fun y : Bool => some (rb y : R)) := by
  refine .trans ?_ (bind_b fun y246 => some_b)
  refine (stepG_is (nt := 9) (regs := [(0, rl tsI4 s_), (1, .one (.fn 45 []))])).trans ?_
  refine (pre2 (a2i s_ _)).trans (bind_g fun y246 => ?_)
  refine (ret_eq).trans ?_
  kernel_rfl
noncomputable def cp16 : CallP := withC cp15 43 [(pL tsI4), (.one (.fn 45 .nil))] (.one pB) (fun y : Bool => y) (fun x => a0i x.1)
theorem e48 : PureOK E cp16 := conS eok e47 noE_ok fun x => Eq.mp (by kernel_rfl) (a2h x.1)
section
variable {α β : Type} (a0 : Node) (a_ : I3) (a2 : I3) (k : St → Option α)
noncomputable abbrev C16 := codeOf E.P 53
noncomputable abbrev P16 := @preK α E 53 cp16 noE
theorem c9e : P16 2 C16 ⟨[(0, rA a00 a0), (1, rA tsI3 a_), (2, rA tsI3 a2)], [], [], 8⟩ k = k ⟨[(6, rF 0)], [(tsI3.leaves a_)], [], 8⟩ := by kernel_rfl
/-- quilt/graph.first -/
def a9k {β : Type} (a0 : Node) (a_ : I3) (a2 : I3) (K : I3 → β) : β := (K a_)
def a8p : I3 := a9k a0 a_ a2 (fun y => y)
theorem d3d (K : I3 → β) : a9k a0 a_ a2 K = K (a8p a0 a_ a2) := rfl
theorem c9f : stepS E cp16 noE 53 [rA a00 a0, rA tsI3 a_, rA tsI3 a2] = (fun y : I3 => some (rA tsI3 y : R)) (a8p a0 a_ a2) := by
  refine Eq.trans ?_ (d3d a0 a_ a2 (fun y : I3 => some (rA tsI3 y : R)))
  refine (stepG_is (nt := 8) (regs := [(0, rA a00 a0), (1, rA tsI3 a_), (2, rA tsI3 a2)])).trans ?_
  unfold a9k
  refine (pre2 (c9e a0 a_ a2 _)).trans ?_
  refine (ret_eq).trans ?_
  kernel_rfl
noncomputable def cp17 : CallP := withC cp16 53 [(.agg a00), (.agg tsI3), (.agg tsI3)] (.one (.agg tsI3)) (fun y : I3 => y) (fun x => some (a8p x.1 x.2.1 x.2.2.1))
theorem e49 : PureOK E cp17 := conS eok e48 noE_ok fun x => Eq.mp (by kernel_rfl) (c9f x.1 x.2.1 x.2.2.1)
end
section
variable {α : Type} (size : Int) (k_ : Int) (stride : Int) (pad : Int) (k : St → Option α)
noncomputable abbrev C17 := codeOf E.P 82
noncomputable abbrev P17 := @preK α E 82 cp17 noE
abbrev S17_0 : St := ⟨[(0, ri size), (1, ri k_), (2, ri stride), (3, ri pad)], [], [], 46⟩
theorem e0q : P17 1 C17 (S17_0 size k_ stride pad) k = k (S17_0 size k_ stride pad) := by kernel_rfl
def b5z : Option Bool := (Option.bind (a0t [size] (((a0b (1 : Int) (64 : Int)).1).1) (((a0b (1 : Int) (64 : Int)).2.1).1)) (fun y255 : Bool => (bif (!y255) then (some true) else (Option.bind (a0t [k_, stride] (((a0b (1 : Int) (16 : Int)).1).1) (((a0b (1 : Int) (16 : Int)).2.1).1)) (fun y256 : Bool => (bif (!y256) then (some true) else (Option.bind (a0t [pad] (((a0b (0 : Int) (16 : Int)).1).1) (((a0b (0 : Int) (16 : Int)).2.1).1)) (fun y257 : Bool => (bif (!y257) then (some true) else (some (decide (k_ > (IntKind.wrap .i64 (size + (IntKind.wrap .i64 ((2 : Int) * pad))))))))))))))))
theorem e0t : P17 1 C17.r.l (S17_0 size k_ stride pad) k = Option.bind (b5z size k_ stride pad) (fun y258 : Bool => k ⟨[(0, ri size), (1, ri k_), (2, ri stride), (3, ri pad), (36, rb y258)], [], [], 46⟩) := .trans (by kernel_rfl) (bind_b fun y255 => (bif_b some_b (bind_b fun y256 => (bif_b some_b (bind_b fun y257 => (bif_b some_b some_b))))))
theorem e0r : P17 1 C17.r.l.r.t (S17_0 size k_ stride pad) k = k ⟨[(8, ri 0)], [], [], 46⟩ := by kernel_rfl
def b60 : Option Int := (bif (stride == 0) then none else (some (IntKind.wrap .i64 ((1 : Int) + (IntKind.wrap .i64 (Int.tdiv (IntKind.wrap .i64 ((IntKind.wrap .i64 (size + (IntKind.wrap .i64 ((2 : Int) * pad)))) - k_)) stride))))))
theorem e0u : P17 1 C17.r.r (S17_0 size k_ stride pad) k = Option.bind (b60 size k_ stride pad) (fun y259 : Int => k ⟨[(8, ri y259)], [], [], 46⟩) := .trans (by kernel_rfl) (bif_b none_b some_b)
/-- quilt/shape.Out -/
def a6v : Option Int := (Option.bind (b5z size k_ stride pad) (fun y258 : Bool => (bif y258 then (some (0 : Int)) else (Option.bind (b60 size k_ stride pad) (fun y259 : Int => (some y259))))))
theorem e0s : stepS E cp17 noE 82 [ri size, ri k_, ri stride, ri pad] = Option.bind (a6v size k_ stride pad) (fun y : Int => some (ri y : R)) := by
  refine .trans ?_ (bind_b fun y258 => (bif_b some_b (bind_b fun y259 => some_b)))
  refine (stepG_is (nt := 46) (regs := [(0, ri size), (1, ri k_), (2, ri stride), (3, ri pad)])).trans ?_
  refine (pre1 (e0q size k_ stride pad _)).trans ?_
  refine .trans seq_push ?_
  refine (pre1 (e0t size k_ stride pad _)).trans (bind_g fun y258 => ?_)
  refine (cond_e (b := y258) (st' := (S17_0 size k_ stride pad)) ).trans (bif_g ?_ ?_)
  · refine (pre1 (e0r size k_ stride pad _)).trans ?_
    refine (ret_eq).trans ?_
    refine seqC_ret.trans ?_
    kernel_rfl
  · refine (skip_eq).trans ?_
    refine (seqC_normal (st' := (S17_0 size k_ stride pad))).trans ?_
    refine (pre1 (e0u size k_ stride pad _)).trans (bind_g fun y259 => ?_)
    refine (ret_eq).trans ?_
    kernel_rfl
noncomputable def cp18 : CallP := withC cp17 82 [pI, pI, pI, pI] (.one pI) (fun y : Int => y) (fun x => a6v x.1 x.2.1 x.2.2.1 x.2.2.2.1)
theorem e4a : PureOK E cp18 := conS eok e49 noE_ok fun x => Eq.mp (by kernel_rfl) (e0s x.1 x.2.1 x.2.2.1 x.2.2.2.1)
end
section
variable {α : Type} (n_ : Node) (s_ : I3) (c_ : Int) (k : St → Option α)
noncomputable abbrev C18 := codeOf E.P 56
noncomputable abbrev P18 := @preK α E 56 cp18 noE
def b34 : Option (Int × Int) := (Option.bind (a6v s_.1 n_.2.2.1 n_.2.2.2.1 n_.2.2.2.2.1) (fun y260 : Int => (Option.bind (a6v s_.2.1 n_.2.2.1 n_.2.2.2.1 n_.2.2.2.2.1) (fun y261 : Int => (some (y260, y261))))))
theorem d3x : P18 2 C18 ⟨[(0, rA a00 n_), (1, rA tsI3 s_), (2, ri c_)], [], [], 27⟩ k = Option.bind (b34 n_ s_) (fun y262 : (Int × Int) => k ⟨[(6, rF 0)], [[di y262.1, di y262.2, di c_]], [], 27⟩) := .trans (by kernel_rfl) (bind_b fun y260 => (bind_b fun y261 => some_b))
/-- quilt/graph.slid -/
def a50 : Option I3 := (Option.bind (b34 n_ s_) (fun y262 : (Int × Int) => (some (y262.1, y262.2, c_))))
theorem d3w : stepS E cp18 noE 56 [rA a00 n_, rA tsI3 s_, ri c_] = Option.bind (a50 n_ s_ c_) (fun y : I3 => some (rA tsI3 y : R)) := by
  refine .trans ?_ (bind_b fun y262 => some_b)
  refine (stepG_is (nt := 27) (regs := [(0, rA a00 n_), (1, rA tsI3 s_), (2, ri c_)])).trans ?_
  refine (pre2 (d3x n_ s_ c_ _)).trans (bind_g fun y262 => ?_)
  refine (ret_eq).trans ?_
  kernel_rfl
noncomputable def cp19 : CallP := withC cp18 56 [(.agg a00), (.agg tsI3), pI] (.one (.agg tsI3)) (fun y : I3 => y) (fun x => a50 x.1 x.2.1 x.2.2.1)
theorem e4b : PureOK E cp19 := conS eok e4a noE_ok fun x => Eq.mp (by kernel_rfl) (d3w x.1 x.2.1 x.2.2.1)
end
section
variable {α : Type} (n_ : Node) (a_ : I3) (a2 : I3) (k : St → Option α)
noncomputable abbrev C19 := codeOf E.P 55
noncomputable abbrev P19 := @preK α E 55 cp19 noE
theorem d3f : P19 2 C19 ⟨[(0, rA a00 n_), (1, rA tsI3 a_), (2, rA tsI3 a2)], [], [], 12⟩ k = Option.bind (a50 n_ a_ n_.2.2.2.2.2.1) fun y263 : I3 => k ⟨[(6, rF 0)], [(tsI3.leaves y263)], [], 12⟩ := by kernel_rfl
/-- quilt/graph.of$1 -/
def b66 (n_ : Node) (a_ : I3) (a2 : I3) : Option I3 := (Option.bind (a50 n_ a_ n_.2.2.2.2.2.1) (fun y263 : I3 => (some y263)))
theorem d3e : stepS E cp19 noE 55 [rA a00 n_, rA tsI3 a_, rA tsI3 a2] = Option.bind (b66 n_ a_ a2) (fun y : I3 => some (rA tsI3 y : R)) := by
  refine .trans ?_ (bind_b fun y263 => some_b)
  refine (stepG_is (nt := 12) (regs := [(0, rA a00 n_), (1, rA tsI3 a_), (2, rA tsI3 a2)])).trans ?_
  refine (pre2 (d3f n_ a_ a2 _)).trans (bind_g fun y263 => ?_)
  refine (ret_eq).trans ?_
  kernel_rfl
noncomputable def cp20 : CallP := withC cp19 55 [(.agg a00), (.agg tsI3), (.agg tsI3)] (.one (.agg tsI3)) (fun y : I3 => y) (fun x => b66 x.1 x.2.1 x.2.2.1)
theorem e4c : PureOK E cp20 := conS eok e4b noE_ok fun x => Eq.mp (by kernel_rfl) (d3e x.1 x.2.1 x.2.2.1)
end
section
variable {α : Type} (n_ : Node) (a_ : I3) (a2 : I3) (k : St → Option α)
noncomputable abbrev C20 := codeOf E.P 58
noncomputable abbrev P20 := @preK α E 58 cp20 noE
theorem c65 : P20 2 C20 ⟨[(0, rA a00 n_), (1, rA tsI3 a_), (2, rA tsI3 a2)], [], [], 12⟩ k = Option.bind (a50 n_ a_ a_.2.2) fun y266 : I3 => k ⟨[(6, rF 0)], [(tsI3.leaves y266)], [], 12⟩ := by kernel_rfl
/-- quilt/graph.pooled -/
def b19 (n_ : Node) (a_ : I3) (a2 : I3) : Option I3 := (Option.bind (a50 n_ a_ a_.2.2) (fun y266 : I3 => (some y266)))
theorem c64 : stepS E cp20 noE 58 [rA a00 n_, rA tsI3 a_, rA tsI3 a2] = Option.bind (b19 n_ a_ a2) (fun y : I3 => some (rA tsI3 y : R)) := by
  refine .trans ?_ (bind_b fun y266 => some_b)
  refine (stepG_is (nt := 12) (regs := [(0, rA a00 n_), (1, rA tsI3 a_), (2, rA tsI3 a2)])).trans ?_
  refine (pre2 (c65 n_ a_ a2 _)).trans (bind_g fun y266 => ?_)
  refine (ret_eq).trans ?_
  kernel_rfl
noncomputable def cp21 : CallP := withC cp20 58 [(.agg a00), (.agg tsI3), (.agg tsI3)] (.one (.agg tsI3)) (fun y : I3 => y) (fun x => b19 x.1 x.2.1 x.2.2.1)
theorem e4d : PureOK E cp21 := conS eok e4c noE_ok fun x => Eq.mp (by kernel_rfl) (c64 x.1 x.2.1 x.2.2.1)
end
section
variable {α β : Type} (n_ : Node) (a1 : I3) (a2 : I3) (k : St → Option α)
noncomputable abbrev C21 := codeOf E.P 60
noncomputable abbrev P21 := @preK α E 60 cp21 noE
theorem d3k : P21 2 C21 ⟨[(0, rA a00 n_), (1, rA tsI3 a1), (2, rA tsI3 a2)], [], [], 10⟩ k = k ⟨[(6, rF 0)], [[di 1, di 1, di n_.2.2.2.2.2.1]], [], 10⟩ := by kernel_rfl
/-- quilt/graph.of$4 -/
def b16 {β : Type} (n_ : Node) (a1 : I3) (a2 : I3) (K : I3 → β) : β := (K ((1 : Int), (1 : Int), n_.2.2.2.2.2.1))
def b0f : I3 := b16 n_ a1 a2 (fun y => y)
theorem d8e (K : I3 → β) : b16 n_ a1 a2 K = K (b0f n_ a1 a2) := rfl
theorem d3l : stepS E cp21 noE 60 [rA a00 n_, rA tsI3 a1, rA tsI3 a2] = (fun y : I3 => some (rA tsI3 y : R)) (b0f n_ a1 a2) := by
  refine Eq.trans ?_ (d8e n_ a1 a2 (fun y : I3 => some (rA tsI3 y : R)))
  refine (stepG_is (nt := 10) (regs := [(0, rA a00 n_), (1, rA tsI3 a1), (2, rA tsI3 a2)])).trans ?_
  unfold b16
  refine (pre2 (d3k n_ a1 a2 _)).trans ?_
  refine (ret_eq).trans ?_
  kernel_rfl
noncomputable def cp22 : CallP := withC cp21 60 [(.agg a00), (.agg tsI3), (.agg tsI3)] (.one (.agg tsI3)) (fun y : I3 => y) (fun x => some (b0f x.1 x.2.1 x.2.2.1))
theorem e4e : PureOK E cp22 := conS eok e4d noE_ok fun x => Eq.mp (by kernel_rfl) (d3l x.1 x.2.1 x.2.2.1)
end
section
variable {α β : Type} (a0 : Node) (a_ : I3) (b_ : I3) (k : St → Option α)
noncomputable abbrev C22 := codeOf E.P 62
noncomputable abbrev P22 := @preK α E 62 cp22 noE
abbrev S22_0 : St := ⟨[(4, rC tsI3 a_), (5, rC tsI3 b_), (6, rF 0)], [[di 0, di 0, di 0]], [], 12⟩
theorem d3t : P22 1 C22 ⟨[(0, rA a00 a0), (1, rA tsI3 a_), (2, rA tsI3 b_)], [], [], 12⟩ k = k (S22_0 a_ b_) := by kernel_rfl
theorem b77 : P22 1 C22.r.l (S22_0 a_ b_) k = k ⟨[(4, rC tsI3 a_), (6, rF 0), (9, rb (!((a_.1 == b_.1) && ((a_.2.1 == b_.2.1) && ((a_.2.2 == b_.2.2) && true)))))], [[di 0, di 0, di 0]], [], 12⟩ := by kernel_rfl
abbrev S22_1 : St := ⟨[(4, rC tsI3 a_), (6, rF 0)], [[di 0, di 0, di 0]], [], 12⟩
theorem d3u : P22 1 C22.r.l.r.t (S22_1 a_) k = k ⟨[(6, rF 0)], [[di 0, di 0, di 0]], [], 12⟩ := by kernel_rfl
theorem c66 : P22 1 C22.r.r (S22_1 a_) k = k ⟨[(6, rF 0)], [(tsI3.leaves a_)], [], 12⟩ := by kernel_rfl
/-- quilt/graph.same -/
def b1a {β : Type} (a0 : Node) (a_ : I3) (b_ : I3) (K : I3 → β) : β := (bif (!((a_.1 == b_.1) && ((a_.2.1 == b_.2.1) && ((a_.2.2 == b_.2.2) && true)))) then (K ((0 : Int), (0 : Int), (0 : Int))) else (K a_))
def b0i : I3 := b1a a0 a_ b_ (fun y => y)
theorem d8x (K : I3 → β) : b1a a0 a_ b_ K = K (b0i a0 a_ b_) := (bif_k K rfl rfl)
theorem d3v : stepS E cp22 noE 62 [rA a00 a0, rA tsI3 a_, rA tsI3 b_] = (fun y : I3 => some (rA tsI3 y : R)) (b0i a0 a_ b_) := by
  refine Eq.trans ?_ (d8x a0 a_ b_ (fun y : I3 => some (rA tsI3 y : R)))
  refine (stepG_is (nt := 12) (regs := [(0, rA a00 a0), (1, rA tsI3 a_), (2, rA tsI3 b_)])).trans ?_
  unfold b1a
  refine (pre1 (d3t a0 a_ b_ _)).trans ?_
  refine .trans seq_push ?_
  refine (pre1 (b77 a_ b_ _)).trans ?_
  refine (cond_e (b := (!((a_.1 == b_.1) && ((a_.2.1 == b_.2.1) && ((a_.2.2 == b_.2.2) && true))))) (st' := (S22_1 a_)) ).trans (bif_g ?_ ?_)
  · refine (pre1 (d3u a_ _)).trans ?_
    refine (ret_eq).trans ?_
    refine seqC_ret.trans ?_
    kernel_rfl
  · refine (skip_eq).trans ?_
    refine (seqC_normal (st' := (S22_1 a_))).trans ?_
    refine (pre1 (c66 a_ _)).trans ?_
    refine (ret_eq).trans ?_
    kernel_rfl
noncomputable def cp23 : CallP := withC cp22 62 [(.agg a00), (.agg tsI3), (.agg tsI3)] (.one (.agg tsI3)) (fun y : I3 => y) (fun x => some (b0i x.1 x.2.1 x.2.2.1))
theorem e4f : PureOK E cp23 := conS eok e4e noE_ok fun x => Eq.mp (by kernel_rfl) (d3v x.1 x.2.1 x.2.2.1)
end
section
variable {α β : Type} (a0 : Node) (a_ : I3) (a2 : I3) (k : St → Option α)
noncomputable abbrev C23 := codeOf E.P 63
noncomputable abbrev P23 := @preK α E 63 cp23 noE
theorem d3o : P23 2 C23 ⟨[(0, rA a00 a0), (1, rA tsI3 a_), (2, rA tsI3 a2)], [], [], 16⟩ k = k ⟨[(6, rF 0)], [[di (IntKind.wrap .i64 (a_.1 + 2)), di (IntKind.wrap .i64 (a_.2.1 + 2)), di a_.2.2]], [], 16⟩ := by kernel_rfl
/-- quilt/graph.of$6 -/
def b17 {β : Type} (a0 : Node) (a_ : I3) (a2 : I3) (K : I3 → β) : β := (K ((IntKind.wrap .i64 (a_.1 + 2)), (IntKind.wrap .i64 (a_.2.1 + 2)), a_.2.2))
def b0g : I3 := b17 a0 a_ a2 (fun y => y)
theorem d8f (K : I3 → β) : b17 a0 a_ a2 K = K (b0g a0 a_ a2) := rfl
theorem d3p : stepS E cp23 noE 63 [rA a00 a0, rA tsI3 a_, rA tsI3 a2] = (fun y : I3 => some (rA tsI3 y : R)) (b0g a0 a_ a2) := by
  refine Eq.trans ?_ (d8f a0 a_ a2 (fun y : I3 => some (rA tsI3 y : R)))
  refine (stepG_is (nt := 16) (regs := [(0, rA a00 a0), (1, rA tsI3 a_), (2, rA tsI3 a2)])).trans ?_
  unfold b17
  refine (pre2 (d3o a0 a_ a2 _)).trans ?_
  refine (ret_eq).trans ?_
  kernel_rfl
noncomputable def cp24 : CallP := withC cp23 63 [(.agg a00), (.agg tsI3), (.agg tsI3)] (.one (.agg tsI3)) (fun y : I3 => y) (fun x => some (b0g x.1 x.2.1 x.2.2.1))
theorem e4g : PureOK E cp24 := conS eok e4f noE_ok fun x => Eq.mp (by kernel_rfl) (d3p x.1 x.2.1 x.2.2.1)
end
section
variable {α β : Type} (a0 : Node) (a_ : I3) (b_ : I3) (k : St → Option α)
noncomputable abbrev C24 := codeOf E.P 64
noncomputable abbrev P24 := @preK α E 64 cp24 noE
abbrev S24_0 : St := ⟨[(4, rC tsI3 a_), (5, rC tsI3 b_), (6, rF 0)], [[di 0, di 0, di 0]], [], 30⟩
theorem c5h : P24 1 C24 ⟨[(0, rA a00 a0), (1, rA tsI3 a_), (2, rA tsI3 b_)], [], [], 30⟩ k = k (S24_0 a_ b_) := by kernel_rfl
def a9s (K : Bool → β) : β := (bif (a_.1 != b_.1) then (K true) else (K (a_.2.1 != b_.2.1)))
def a2m : Bool := a9s a_ b_ (fun y => y)
theorem b9z (K : Bool → β) : a9s a_ b_ K = K (a2m a_ b_) := (bif_k K rfl rfl)
theorem c5k : P24 1 C24.r.l (S24_0 a_ b_) k = k ⟨[(4, rC tsI3 a_), (5, rC tsI3 b_), (6, rF 0), (18, rb (a2m a_ b_))], [[di 0, di 0, di 0]], [], 30⟩ := Eq.trans (by kernel_rfl) (b9z a_ b_ (fun y273 : Bool => k ⟨[(4, rC tsI3 a_), (5, rC tsI3 b_), (6, rF 0), (18, rb y273)], [[di 0, di 0, di 0]], [], 30⟩))
theorem c5i : P24 1 C24.r.l.r.t (S24_0 a_ b_) k = k ⟨[(6, rF 0)], [[di 0, di 0, di 0]], [], 30⟩ := by kernel_rfl
theorem b9y : P24 1 C24.r.r (S24_0 a_ b_) k = k ⟨[(6, rF 0)], [[di a_.1, di a_.2.1, di (IntKind.wrap .i64 (a_.2.2 + b_.2.2))]], [], 30⟩ := by kernel_rfl
/-- quilt/graph.beside -/
def a88 {β : Type} (a0 : Node) (a_ : I3) (b_ : I3) (K : I3 → β) : β := (bif (a2m a_ b_) then (K ((0 : Int), (0 : Int), (0 : Int))) else (K (a_.1, a_.2.1, (IntKind.wrap .i64 (a_.2.2 + b_.2.2)))))
def a6z : I3 := a88 a0 a_ b_ (fun y => y)
theorem c9d (K : I3 → β) : a88 a0 a_ b_ K = K (a6z a0 a_ b_) := (bif_k K rfl rfl)
theorem c5j : stepS E cp24 noE 64 [rA a00 a0, rA tsI3 a_, rA tsI3 b_] = (fun y : I3 => some (rA tsI3 y : R)) (a6z a0 a_ b_) := by
  refine Eq.trans ?_ (c9d a0 a_ b_ (fun y : I3 => some (rA tsI3 y : R)))
  refine (stepG_is (nt := 30) (regs := [(0, rA a00 a0), (1, rA tsI3 a_), (2, rA tsI3 b_)])).trans ?_
  unfold a88
  refine (pre1 (c5h a0 a_ b_ _)).trans ?_
  refine .trans seq_push ?_
  refine (pre1 (c5k a_ b_ _)).trans ?_
  refine (cond_e (b := (a2m a_ b_)) (st' := (S24_0 a_ b_)) ).trans (bif_g ?_ ?_)
  · refine (pre1 (c5i a_ b_ _)).trans ?_
    refine (ret_eq).trans ?_
    refine seqC_ret.trans ?_
    kernel_rfl
  · refine (skip_eq).trans ?_
    refine (seqC_normal (st' := (S24_0 a_ b_))).trans ?_
    refine (pre1 (b9y a_ b_ _)).trans ?_
    refine (ret_eq).trans ?_
    kernel_rfl
noncomputable def cp25 : CallP := withC cp24 64 [(.agg a00), (.agg tsI3), (.agg tsI3)] (.one (.agg tsI3)) (fun y : I3 => y) (fun x => some (a6z x.1 x.2.1 x.2.2.1))
theorem e4h : PureOK E cp25 := conS eok e4g noE_ok fun x => Eq.mp (by kernel_rfl) (c5j x.1 x.2.1 x.2.2.1)
end
noncomputable abbrev C25 := codeOf E.P 48
noncomputable abbrev P25 {α : Type} := @preK α E 48 cp25 noE
abbrev S25_0 (s_ : I3) : St := ⟨[(1, rC tsI3 s_)], [], [], 11⟩
theorem e0v {α : Type} (s_ : I3) (k : St → Option α) : P25 1 C25 ⟨[(0, rA tsI3 s_)], [], [], 11⟩ k = k (S25_0 s_) := by kernel_rfl
theorem e0y {α : Type} (s_ : I3) (k : St → Option α) : P25 1 C25.r.l (S25_0 s_) k = Option.bind (a4w s_) fun y276 : Bool => k ⟨[(1, rC tsI3 s_), (5, rb (!y276))], [], [], 11⟩ := by kernel_rfl
theorem e0w {α : Type} (s_ : I3) (k : St → Option α) : P25 1 C25.r.l.r.t (S25_0 s_) k = k ⟨[(2, ri 0)], [], [], 11⟩ := by kernel_rfl
theorem d2v {α : Type} (s_ : I3) (k : St → Option α) : P25 1 C25.r.r (S25_0 s_) k = k ⟨[(2, ri (IntKind.wrap .i64 (s_.2.1 * s_.2.2)))], [], [], 11⟩ := by kernel_rfl
/-- quilt/shape.Row -/
def a9f (s_ : I3) : Option Int := (Option.bind (a4w s_) (fun y276 : Bool => (bif (!y276) then (some (0 : Int)) else (some (IntKind.wrap .i64 (s_.2.1 * s_.2.2))))))
theorem e0x (s_ : I3) : stepS E cp25 noE 48 [rA tsI3 s_] = Option.bind (a9f s_) (fun y : Int => some (ri y : R)) := by
  refine .trans ?_ (bind_b fun y276 => (bif_b some_b some_b))
  refine (stepG_is (nt := 11) (regs := [(0, rA tsI3 s_)])).trans ?_
  refine (pre1 (e0v s_ _)).trans ?_
  refine .trans seq_push ?_
  refine (pre1 (e0y s_ _)).trans (bind_g fun y276 => ?_)
  refine (cond_e (b := (!y276)) (st' := (S25_0 s_)) ).trans (bif_g ?_ ?_)
  · refine (pre1 (e0w s_ _)).trans ?_
    refine (ret_eq).trans ?_
    refine seqC_ret.trans ?_
    kernel_rfl
  · refine (skip_eq).trans ?_
    refine (seqC_normal (st' := (S25_0 s_))).trans ?_
    refine (pre1 (d2v s_ _)).trans ?_
    refine (ret_eq).trans ?_
    kernel_rfl
noncomputable def cp26 : CallP := withC cp25 48 [(.agg tsI3)] (.one pI) (fun y : Int => y) (fun x => a9f x.1)
theorem e4i : PureOK E cp26 := conS eok e4h noE_ok fun x => Eq.mp (by kernel_rfl) (e0x x.1)
noncomputable abbrev C26 := codeOf E.P 32
noncomputable abbrev P26 {α : Type} := @preK α E 32 cp26 noE
theorem d6i {α : Type} (s_ : I3) (k : St → Option α) : P26 2 C26 ⟨[(0, rA tsI3 s_)], [], [], 8⟩ k = Option.bind (a9f s_) fun y277 : Int => k ⟨[(2, ri (IntKind.wrap .i64 (y277 * s_.1)))], [], [], 8⟩ := by kernel_rfl
/-- quilt/shape.Size -/
def a1s (s_ : I3) : Option Int := (Option.bind (a9f s_) (fun y277 : Int => (some (IntKind.wrap .i64 (y277 * s_.1)))))
theorem d6h (s_ : I3) : stepS E cp26 noE 32 [rA tsI3 s_] = Option.bind (a1s s_) (fun y : Int => some (ri y : R)) := by
  refine .trans ?_ (bind_b fun y277 => some_b)
  refine (stepG_is (nt := 8) (regs := [(0, rA tsI3 s_)])).trans ?_
  refine (pre2 (d6i s_ _)).trans (bind_g fun y277 => ?_)
  refine (ret_eq).trans ?_
  kernel_rfl
noncomputable def cp27 : CallP := withC cp26 32 [(.agg tsI3)] (.one pI) (fun y : Int => y) (fun x => a1s x.1)
theorem e4j : PureOK E cp27 := conS eok e4i noE_ok fun x => Eq.mp (by kernel_rfl) (d6h x.1)
section
variable {α : Type} (n_ : Node) (a_ : I3) (a2 : I3) (k : St → Option α)
noncomputable abbrev C27 := codeOf E.P 65
noncomputable abbrev P27 := @preK α E 65 cp27 noE
abbrev S27_0 : St := ⟨[(3, rC a00 n_), (4, rC tsI3 a_), (6, rF 0)], [[di 0, di 0, di 0]], [], 16⟩
theorem d37 : P27 1 C27 ⟨[(0, rA a00 n_), (1, rA tsI3 a_), (2, rA tsI3 a2)], [], [], 16⟩ k = k (S27_0 n_ a_) := by kernel_rfl
def b31 : Option Bool := (Option.bind (a1s (n_.2.2.2.2.2.2.2.2.2.1, n_.2.2.2.2.2.2.2.2.2.2.1, n_.2.2.2.2.2.2.2.2.2.2.2.1)) (fun y281 : Int => (Option.bind (a1s a_) (fun y282 : Int => (some (y281 != y282))))))
theorem d3a : P27 1 C27.r.l (S27_0 n_ a_) k = Option.bind (b31 n_ a_) (fun y283 : Bool => k ⟨[(3, rC a00 n_), (6, rF 0), (12, rb y283)], [[di 0, di 0, di 0]], [], 16⟩) := .trans (by kernel_rfl) (bind_b fun y281 => (bind_b fun y282 => some_b))
abbrev S27_1 : St := ⟨[(3, rC a00 n_), (6, rF 0)], [[di 0, di 0, di 0]], [], 16⟩
theorem d38 : P27 1 C27.r.l.r.t (S27_1 n_) k = k ⟨[(6, rF 0)], [[di 0, di 0, di 0]], [], 16⟩ := by kernel_rfl
theorem c5g : P27 1 C27.r.r (S27_1 n_) k = k ⟨[(6, rF 0)], [[di n_.2.2.2.2.2.2.2.2.2.1, di n_.2.2.2.2.2.2.2.2.2.2.1, di n_.2.2.2.2.2.2.2.2.2.2.2.1]], [], 16⟩ := by kernel_rfl
/-- quilt/graph.anew -/
def b62 (n_ : Node) (a_ : I3) (a2 : I3) : Option I3 := (Option.bind (b31 n_ a_) (fun y283 : Bool => (bif y283 then (some ((0 : Int), (0 : Int), (0 : Int))) else (some (n_.2.2.2.2.2.2.2.2.2.1, n_.2.2.2.2.2.2.2.2.2.2.1, n_.2.2.2.2.2.2.2.2.2.2.2.1)))))
theorem d39 : stepS E cp27 noE 65 [rA a00 n_, rA tsI3 a_, rA tsI3 a2] = Option.bind (b62 n_ a_ a2) (fun y : I3 => some (rA tsI3 y : R)) := by
  refine .trans ?_ (bind_b fun y283 => (bif_b some_b some_b))
  refine (stepG_is (nt := 16) (regs := [(0, rA a00 n_), (1, rA tsI3 a_), (2, rA tsI3 a2)])).trans ?_
  refine (pre1 (d37 n_ a_ a2 _)).trans ?_
  refine .trans seq_push ?_
  refine (pre1 (d3a n_ a_ _)).trans (bind_g fun y283 => ?_)
  refine (cond_e (b := y283) (st' := (S27_1 n_)) ).trans (bif_g ?_ ?_)
  · refine (pre1 (d38 n_ _)).trans ?_
    refine (ret_eq).trans ?_
    refine seqC_ret.trans ?_
    kernel_rfl
  · refine (skip_eq).trans ?_
    refine (seqC_normal (st' := (S27_1 n_))).trans ?_
    refine (pre1 (c5g n_ _)).trans ?_
    refine (ret_eq).trans ?_
    kernel_rfl
noncomputable def cp28 : CallP := withC cp27 65 [(.agg a00), (.agg tsI3), (.agg tsI3)] (.one (.agg tsI3)) (fun y : I3 => y) (fun x => b62 x.1 x.2.1 x.2.2.1)
theorem e4k : PureOK E cp28 := conS eok e4j noE_ok fun x => Eq.mp (by kernel_rfl) (d39 x.1 x.2.1 x.2.2.1)
end
section
variable {α β : Type} (a0_ : Node) (a1_ : I3) (k : St → Option α)
noncomputable abbrev C28 := codeOf E.P 54
noncomputable abbrev P28 := @preK α E 54 cp28 noE
theorem d3b : P28 2 C28 ⟨[(0, rA a00 a0_), (1, rA tsI3 a1_)], [], [], 6⟩ k = k ⟨[(4, ri 0), (5, ri 0)], [], [], 6⟩ := by kernel_rfl
/-- quilt/graph.bare -/
def b0y {β : Type} (a0_ : Node) (a1_ : I3) (K : (Int × Int) → β) : β := (K ((0 : Int), (0 : Int)))
def b0c : (Int × Int) := b0y a0_ a1_ (fun y => y)
theorem d8b (K : (Int × Int) → β) : b0y a0_ a1_ K = K (b0c a0_ a1_) := rfl
theorem d3c : stepS E cp28 noE 54 [rA a00 a0_, rA tsI3 a1_] = (fun y : (Int × Int) => some (.tup [ri y.1, ri y.2] : R)) (b0c a0_ a1_) := by
  refine Eq.trans ?_ (d8b a0_ a1_ (fun y : (Int × Int) => some (.tup [ri y.1, ri y.2] : R)))
  refine (stepG_is (nt := 6) (regs := [(0, rA a00 a0_), (1, rA tsI3 a1_)])).trans ?_
  unfold b0y
  refine (pre2 (d3b a0_ a1_ _)).trans ?_
  refine (ret_eq).trans ?_
  kernel_rfl
noncomputable def cp29 : CallP := withC cp28 54 [(.agg a00), (.agg tsI3)] (.tup [pI, pI]) (fun y : (Int × Int) => (y.1, y.2, ())) (fun x => some (b0c x.1 x.2.1))
theorem e4l : PureOK E cp29 := conS eok e4k noE_ok fun x => Eq.mp (by kernel_rfl) (d3c x.1 x.2.1)
end
section
variable {α β : Type} (n_ : Node) (s_ : I3) (k : St → Option α)
noncomputable abbrev C29 := codeOf E.P 57
noncomputable abbrev P29 := @preK α E 57 cp29 noE
def b33 (K : Int → β) : β := (K (IntKind.wrap .i64 ((IntKind.wrap .i64 ((IntKind.wrap .i64 (n_.2.2.1 * n_.2.2.1)) * s_.2.2)) * n_.2.2.2.2.2.1)))
def a74 : Int := b33 n_ s_ (fun y => y)
theorem c5u (K : Int → β) : b33 n_ s_ K = K (a74 n_ s_) := rfl
theorem d3h : P29 2 C29 ⟨[(0, rA a00 n_), (1, rA tsI3 s_)], [], [], 19⟩ k = k ⟨[(4, ri (a74 n_ s_)), (5, ri n_.2.2.2.2.2.1)], [], [], 19⟩ := Eq.trans (by kernel_rfl) (c5u n_ s_ (fun y291 : Int => k ⟨[(4, ri y291), (5, ri n_.2.2.2.2.2.1)], [], [], 19⟩))
/-- quilt/graph.of$2 -/
def b0z (K : (Int × Int) → β) : β := (K ((a74 n_ s_), n_.2.2.2.2.2.1))
def b0d : (Int × Int) := b0z n_ s_ (fun y => y)
theorem d8c (K : (Int × Int) → β) : b0z n_ s_ K = K (b0d n_ s_) := rfl
theorem d3g : stepS E cp29 noE 57 [rA a00 n_, rA tsI3 s_] = (fun y : (Int × Int) => some (.tup [ri y.1, ri y.2] : R)) (b0d n_ s_) := by
  refine Eq.trans ?_ (d8c n_ s_ (fun y : (Int × Int) => some (.tup [ri y.1, ri y.2] : R)))
  refine (stepG_is (nt := 19) (regs := [(0, rA a00 n_), (1, rA tsI3 s_)])).trans ?_
  unfold b0z
  refine (pre2 (d3h n_ s_ _)).trans ?_
  refine (ret_eq).trans ?_
  kernel_rfl
noncomputable def cp30 : CallP := withC cp29 57 [(.agg a00), (.agg tsI3)] (.tup [pI, pI]) (fun y : (Int × Int) => (y.1, y.2, ())) (fun x => some (b0d x.1 x.2.1))
theorem e4m : PureOK E cp30 := conS eok e4l noE_ok fun x => Eq.mp (by kernel_rfl) (d3g x.1 x.2.1)
end
section
variable {α β : Type} (n_ : Node) (s_ : I3) (k : St → Option α)
noncomputable abbrev C30 := codeOf E.P 59
noncomputable abbrev P30 := @preK α E 59 cp30 noE
theorem d3i : P30 2 C30 ⟨[(0, rA a00 n_), (1, rA tsI3 s_)], [], [], 16⟩ k = k ⟨[(4, ri (IntKind.wrap .i64 ((IntKind.wrap .i64 (n_.2.2.1 * n_.2.2.1)) * s_.2.2))), (5, ri s_.2.2)], [], [], 16⟩ := by kernel_rfl
/-- quilt/graph.of$3 -/
def b15 (K : (Int × Int) → β) : β := (K ((IntKind.wrap .i64 ((IntKind.wrap .i64 (n_.2.2.1 * n_.2.2.1)) * s_.2.2)), s_.2.2))
def b0e : (Int × Int) := b15 n_ s_ (fun y => y)
theorem d8d (K : (Int × Int) → β) : b15 n_ s_ K = K (b0e n_ s_) := rfl
theorem d3j : stepS E cp30 noE 59 [rA a00 n_, rA tsI3 s_] = (fun y : (Int × Int) => some (.tup [ri y.1, ri y.2] : R)) (b0e n_ s_) := by
  refine Eq.trans ?_ (d8d n_ s_ (fun y : (Int × Int) => some (.tup [ri y.1, ri y.2] : R)))
  refine (stepG_is (nt := 16) (regs := [(0, rA a00 n_), (1, rA tsI3 s_)])).trans ?_
  unfold b15
  refine (pre2 (d3i n_ s_ _)).trans ?_
  refine (ret_eq).trans ?_
  kernel_rfl
noncomputable def cp31 : CallP := withC cp30 59 [(.agg a00), (.agg tsI3)] (.tup [pI, pI]) (fun y : (Int × Int) => (y.1, y.2, ())) (fun x => some (b0e x.1 x.2.1))
theorem e4n : PureOK E cp31 := conS eok e4m noE_ok fun x => Eq.mp (by kernel_rfl) (d3j x.1 x.2.1)
end
section
variable {α : Type} (n_ : Node) (s_ : I3) (k : St → Option α)
noncomputable abbrev C31 := codeOf E.P 61
noncomputable abbrev P31 := @preK α E 61 cp31 noE
theorem d3n : P31 2 C31 ⟨[(0, rA a00 n_), (1, rA tsI3 s_)], [], [], 13⟩ k = Option.bind (a1s s_) fun y294 : Int => k ⟨[(4, ri (IntKind.wrap .i64 (y294 * n_.2.2.2.2.2.1))), (5, ri n_.2.2.2.2.2.1)], [], [], 13⟩ := by kernel_rfl
/-- quilt/graph.of$5 -/
def b67 : Option (Int × Int) := (Option.bind (a1s s_) (fun y294 : Int => (some ((IntKind.wrap .i64 (y294 * n_.2.2.2.2.2.1)), n_.2.2.2.2.2.1))))
theorem d3m : stepS E cp31 noE 61 [rA a00 n_, rA tsI3 s_] = Option.bind (b67 n_ s_) (fun y : (Int × Int) => some (.tup [ri y.1, ri y.2] : R)) := by
  refine .trans ?_ (bind_b fun y294 => some_b)
  refine (stepG_is (nt := 13) (regs := [(0, rA a00 n_), (1, rA tsI3 s_)])).trans ?_
  refine (pre2 (d3n n_ s_ _)).trans (bind_g fun y294 => ?_)
  refine (ret_eq).trans ?_
  kernel_rfl
noncomputable def cp32 : CallP := withC cp31 61 [(.agg a00), (.agg tsI3)] (.tup [pI, pI]) (fun y : (Int × Int) => (y.1, y.2, ())) (fun x => b67 x.1 x.2.1)
theorem e4o : PureOK E cp32 := conS eok e4n noE_ok fun x => Eq.mp (by kernel_rfl) (d3m x.1 x.2.1)
end
section
variable {α β : Type} (a0_ : Node) (a1_ : I3) (k : St → Option α)
noncomputable abbrev C32 := codeOf E.P 66
noncomputable abbrev P32 := @preK α E 66 cp32 noE
theorem d3q : P32 2 C32 ⟨[(0, rA a00 a0_), (1, rA tsI3 a1_)], [], [], 6⟩ k = k ⟨[(4, ri 256), (5, ri 0)], [], [], 6⟩ := by kernel_rfl
/-- quilt/graph.of$7 -/
def b18 {β : Type} (a0_ : Node) (a1_ : I3) (K : (Int × Int) → β) : β := (K ((256 : Int), (0 : Int)))
def b0h : (Int × Int) := b18 a0_ a1_ (fun y => y)
theorem d8g (K : (Int × Int) → β) : b18 a0_ a1_ K = K (b0h a0_ a1_) := rfl
theorem d3r : stepS E cp32 noE 66 [rA a00 a0_, rA tsI3 a1_] = (fun y : (Int × Int) => some (.tup [ri y.1, ri y.2] : R)) (b0h a0_ a1_) := by
  refine Eq.trans ?_ (d8g a0_ a1_ (fun y : (Int × Int) => some (.tup [ri y.1, ri y.2] : R)))
  refine (stepG_is (nt := 6) (regs := [(0, rA a00 a0_), (1, rA tsI3 a1_)])).trans ?_
  unfold b18
  refine (pre2 (d3q a0_ a1_ _)).trans ?_
  refine (ret_eq).trans ?_
  kernel_rfl
noncomputable def cp33 : CallP := withC cp32 66 [(.agg a00), (.agg tsI3)] (.tup [pI, pI]) (fun y : (Int × Int) => (y.1, y.2, ())) (fun x => some (b0h x.1 x.2.1))
theorem e4p : PureOK E cp33 := conS eok e4o noE_ok fun x => Eq.mp (by kernel_rfl) (d3r x.1 x.2.1)
end
noncomputable abbrev C33 := codeOf E.P 47
noncomputable abbrev P33 {α : Type} := @preK α E 47 cp33 noE
theorem c24 {α : Type} (x_ : Int) (k : St → Option α) : P33 2 C33 ⟨[(0, rk .i32 x_)], [], [], 7⟩ k = k ⟨[(2, rb (!(a0j (IntKind.wrap .i64 x_) (-16777216 : Int) (16777216 : Int))))], [], [], 7⟩ := by kernel_rfl
/-- quilt/graph.Value$3 -/
def a6x {β : Type} (x_ : Int) (K : Bool → β) : β := (K (!(a0j (IntKind.wrap .i64 x_) (-16777216 : Int) (16777216 : Int))))
def a2c (x_ : Int) : Bool := a6x x_ (fun y => y)
theorem c55 {β : Type} (x_ : Int) (K : Bool → β) : a6x x_ K = K (a2c x_) := rfl
theorem c25 (x_ : Int) : stepS E cp33 noE 47 [rk .i32 x_] = (fun y : Bool => some (rb y : R)) (a2c x_) := by
  refine Eq.trans ?_ (c55 x_ (fun y : Bool => some (rb y : R)))
  refine (stepG_is (nt := 7) (regs := [(0, rk .i32 x_)])).trans ?_
  unfold a6x
  refine (pre2 (c24 x_ _)).trans ?_
  refine (ret_eq).trans ?_
  kernel_rfl
noncomputable def cp34 : CallP := withC cp33 47 [(.one (.g (.int .i32)))] (.one pB) (fun y : Bool => y) (fun x => some (a2c x.1))
theorem e4q : PureOK E cp34 := conS eok e4p noE_ok fun x => Eq.mp (by kernel_rfl) (c25 x.1)
section
variable {α : Type} (s_ : (List Int)) (s310 : Int) (k : St → Option α) (q : Kont α)
noncomputable abbrev C34 := codeOf E.P 68
noncomputable abbrev P34 := @preK α E 68 cp34 noE
noncomputable abbrev R34 := @runCode α E 68 cp34 noE
abbrev S34_0 : St := ⟨[(0, rl (.one (.int .i32)) s_), (1, .one (.fn 47 []))], [], [], 19⟩
theorem a7p : P34 1 C34 (S34_0 s_) k = k (S34_0 s_) := by kernel_rfl
abbrev S34_1 : St := ⟨[(0, rl (.one (.int .i32)) s_), (1, .one (.fn 47 [])), (7, ri (s_.length : Int)), (8, ri 0)], [], [], 19⟩
theorem a7q : P34 1 C34.r.l (S34_0 s_) k = k (S34_1 s_) := by kernel_rfl
abbrev S34_2 : St := ⟨[(0, rl (.one (.int .i32)) s_), (1, .one (.fn 47 [])), (7, ri (s_.length : Int)), (8, ri s310)], [], [], 19⟩
theorem a7r : P34 1 C34.r.l.r.b.b (S34_2 s_ s310) k = k ⟨[(0, rl (.one (.int .i32)) s_), (1, .one (.fn 47 [])), (7, ri (s_.length : Int)), (8, ri s310), (9, rb (decide (s310 < (s_.length : Int))))], [], [], 19⟩ := by kernel_rfl
def a29 : Option Unit := (bif (decide ((0 : Int) ≤ s310)) then (bif (decide (s310 < (s_.length : Int))) then (some ()) else none) else none)
theorem a7u : P34 2 C34.r.l.r.b.b.r.r.l.b (S34_2 s_ s310) k = Option.bind (a29 s_ s310) (fun y312 : Unit => k ⟨[(0, rl (.one (.int .i32)) s_), (1, .one (.fn 47 [])), (5, ri s310), (7, ri (s_.length : Int)), (8, ri s310), (16, rb (a2c (gt s_ s310 (0 : Int))))], [], [], 19⟩) := .trans (by kernel_rfl) (bif_b (bif_b some_b none_b) none_b)
abbrev S34_3 : St := ⟨[(0, rl (.one (.int .i32)) s_), (1, .one (.fn 47 [])), (5, ri s310), (7, ri (s_.length : Int)), (8, ri s310)], [], [], 19⟩
theorem a6c : P34 1 C34.r.l.r.b.b.r.r.l.b.r.r.t (S34_3 s_ s310) k = k ⟨[(4, ri s310)], [], [], 19⟩ := by kernel_rfl
theorem a7v : R34 C34.r.l.r.b.b.r.r.r (S34_2 s_ s310) q = q .normal ⟨[(0, rl (.one (.int .i32)) s_), (1, .one (.fn 47 [])), (7, ri (s_.length : Int)), (8, ri (IntKind.wrap .i64 (s310 + 1)))], [], [], 19⟩ := by kernel_rfl
def a1b : Option (Int ⊕ (Int ⊕ Int)) := (bif (decide (s310 < (s_.length : Int))) then (Option.bind (a29 s_ s310) (fun y312 : Unit => (bif (a2c (gt s_ s310 (0 : Int))) then (some (Sum.inr (Sum.inr s310))) else (some (Sum.inl (IntKind.wrap .i64 (s310 + 1))))))) else (some (Sum.inr (Sum.inl s310))))
abbrev S34_4 (y313 : Int) : St := ⟨[(0, rl (.one (.int .i32)) s_), (1, .one (.fn 47 [])), (7, ri (s_.length : Int)), (8, ri y313)], [], [], 19⟩
theorem a6e : R34 C34.r.l.r.b.b (S34_2 s_ s310) (loopKont 0 q) = Option.bind (a1b s_ s310) (either (fun y : Int => q .normal ⟨[(0, rl (.one (.int .i32)) s_), (1, .one (.fn 47 [])), (7, ri (s_.length : Int)), (8, ri y)], [], [], 19⟩) (either (fun y313 : Int => q (.exit 0) (S34_4 s_ y313)) (fun y314 : Int => q .ret ⟨[(4, ri y314)], [], [], 19⟩))) := by
  refine .trans ?_ (bif_b (bind_b fun y312 => (bif_b e3_2 e3_0)) e3_1)
  refine (pre1 (a7r s_ s310 _)).trans ?_
  refine .trans seq_push ?_
  refine (cond_e (b := (decide (s310 < (s_.length : Int)))) (st' := (S34_2 s_ s310)) ).trans (bif_g ?_ ?_)
  · refine (skip_eq).trans ?_
    refine (seqC_normal (st' := (S34_2 s_ s310))).trans ?_
    refine .trans seq_push ?_
    refine (block_push (id := 1)).trans ?_
    refine (pre2 (a7u s_ s310 _)).trans (bind_g fun y312 => ?_)
    refine (cond_e (b := (a2c (gt s_ s310 (0 : Int)))) (st' := (S34_3 s_ s310)) ).trans (bif_g ?_ ?_)
    · refine (pre1 (a6c s_ s310 _)).trans ?_
      refine (ret_eq).trans ?_
      refine block_ret.trans ?_
      refine seqC_ret.trans ?_
      kernel_rfl
    · refine (skip_eq).trans ?_
      refine block_normal.trans ?_
      refine (seqC_normal (st' := (S34_2 s_ s310))).trans ?_
      refine (a7v s_ s310 _).trans ?_
      kernel_rfl
  · refine ((exit_eq (j := 0))).trans ?_
    refine seqC_exit.trans ?_
    kernel_rfl
theorem a7t : R34 C34.r.l.r.b (S34_1 s_) q = Option.bind (iterN (a1b s_) LL (0 : Int)) (either (fun y313 : Int => q (.exit 0) (S34_4 s_ y313)) (fun y314 : Int => q .ret ⟨[(4, ri y314)], [], [], 19⟩)) :=
  Eq.trans (by kernel_rfl) (loop_iter2 (S := fun s310 : Int => (S34_2 s_ s310)) (Y1 := fun y313 : Int => ((.exit 0), (S34_4 s_ y313))) (Y2 := fun y314 : Int => (.ret, ⟨[(4, ri y314)], [], [], 19⟩)) (fun s q => a6e s_ s q) (fun z => rfl) (fun z => rfl) LL (0 : Int))
theorem a6d : P34 1 C34.r.r ⟨[], [], [], 19⟩ k = k ⟨[(4, ri (-1 : Int))], [], [], 19⟩ := by kernel_rfl
/-- slices.IndexFunc[[]int32,int32] -/
def a15 : Option Int := (Option.bind (iterN (a1b s_) LL (0 : Int)) (either (fun y313 : Int => (some (-1 : Int))) (fun y314 : Int => (some y314))))
theorem a7s : stepS E cp34 noE 68 [rl (.one (.int .i32)) s_, .one (.fn 47 [])] = Option.bind (a15 s_) (fun y : Int => some (ri y : R)) := by
  refine .trans ?_ (bind_b (either_b (fun y313 => some_b) (fun y314 => some_b)))
  refine (stepG_is (nt := 19) (regs := [(0, rl (.one (.int .i32)) s_), (1, .one (.fn 47 []))])).trans ?_
  refine (pre1 (a7p s_ _)).trans ?_
  refine .trans seq_push ?_
  refine (pre1 (a7q s_ _)).trans ?_
  refine (block_push (id := 0)).trans ?_
  refine (a7t s_ _).trans (bind_g (either_g (fun y313 => ?_) (fun y314 => ?_)))
  · refine block_same.trans ?_
    refine (seqC_normal (st' := ⟨[], [], [], 19⟩)).trans ?_
    refine (pre1 (a6d _)).trans ?_
    refine (ret_eq).trans ?_
    kernel_rfl
  · refine block_ret.trans ?_
    refine seqC_ret.trans ?_
    kernel_rfl
noncomputable def cp35 : CallP := withC cp34 68 [(.one (.g (.sl (.one (.int .i32))))), (.one (.fn 47 .nil))] (.one pI) (fun y : Int => y) (fun x => a15 x.1)
theorem e4r : PureOK E cp35 := conS eok e4q noE_ok fun x => Eq.mp (by kernel_rfl) (a7s x.1)
end
noncomputable abbrev C35 := codeOf E.P 46
noncomputable abbrev P35 {α : Type} := @preK α E 46 cp35 noE
theorem a5q {α : Type} (s_ : (List Int)) (k : St → Option α) : P35 2 C35 ⟨[(0, rl (.one (.int .i32)) s_), (1, .one (.fn 47 []))], [], [], 9⟩ k = Option.bind (a15 s_) fun y315 : Int => k ⟨[(4, rb (decide (y315 ≥ 0)))], [], [], 9⟩ := by kernel_rfl
/-- slices.ContainsFunc[[]int32,int32] -/
def a1h (s_ : (List Int)) : Option Bool := (Option.bind (a15 s_) (fun y315 : Int => (some (decide (y315 ≥ 0)))))
theorem a5p (s_ : (List Int)) : stepS E cp35 noE 46 [rl (.one (.int .i32)) s_, .one (.fn 47 [])] = Option.bind (a1h s_) (fun y : Bool => some (rb y : R)) := by
  refine .trans ?_ (bind_b fun y315 => some_b)
  refine (stepG_is (nt := 9) (regs := [(0, rl (.one (.int .i32)) s_), (1, .one (.fn 47 []))])).trans ?_
  refine (pre2 (a5q s_ _)).trans (bind_g fun y315 => ?_)
  refine (ret_eq).trans ?_
  kernel_rfl
noncomputable def cp36 : CallP := withC cp35 46 [(.one (.g (.sl (.one (.int .i32))))), (.one (.fn 47 .nil))] (.one pB) (fun y : Bool => y) (fun x => a1h x.1)
theorem e4s : PureOK E cp36 := conS eok e4r noE_ok fun x => Eq.mp (by kernel_rfl) (a5p x.1)
section
variable {α β : Type} (n_ : Node) (in_ : (List I4)) (y185 : U16) (y286 : (Int × Int × Int)) (y298 : (Int × Int)) (k : St → Option α)
noncomputable abbrev C36 := codeOf E.P 29
noncomputable abbrev P36 := @preK α E 29 cp36 noE
def b0u : Option U16 := (Option.bind (c2j n_.1) (fun y121 : U18 => ((either (fun u122 : Unit => ((either (fun u123 : Unit => (some (y121.2, y121.1.1, y121.1.2.1, y121.1.2.2.1, y121.1.2.2.2.1, y121.1.2.2.2.2.1, y121.1.2.2.2.2.2.1, (Sum.inl ()), (Sum.inl ())))) (either (fun u124 : Unit => (some (y121.2, y121.1.1, y121.1.2.1, y121.1.2.2.1, y121.1.2.2.2.1, y121.1.2.2.2.2.1, y121.1.2.2.2.2.2.1, (Sum.inl ()), (Sum.inr (Sum.inl ()))))) (either (fun u125 : Unit => (some (y121.2, y121.1.1, y121.1.2.1, y121.1.2.2.1, y121.1.2.2.2.1, y121.1.2.2.2.2.1, y121.1.2.2.2.2.2.1, (Sum.inl ()), (Sum.inr (Sum.inr (Sum.inl ())))))) (either (fun u126 : Unit => (some (y121.2, y121.1.1, y121.1.2.1, y121.1.2.2.1, y121.1.2.2.2.1, y121.1.2.2.2.2.1, y121.1.2.2.2.2.2.1, (Sum.inl ()), (Sum.inr (Sum.inr (Sum.inr (Sum.inl ()))))))) (either (fun u127 : Unit => (some (y121.2, y121.1.1, y121.1.2.1, y121.1.2.2.1, y121.1.2.2.2.1, y121.1.2.2.2.2.1, y121.1.2.2.2.2.2.1, (Sum.inl ()), (Sum.inr (Sum.inr (Sum.inr (Sum.inr (Sum.inl ())))))))) (fun u128 : Unit => (some (y121.2, y121.1.1, y121.1.2.1, y121.1.2.2.1, y121.1.2.2.2.1, y121.1.2.2.2.2.1, y121.1.2.2.2.2.2.1, (Sum.inl ()), (Sum.inr (Sum.inr (Sum.inr (Sum.inr (Sum.inr ()))))))))))))) y121.1.2.2.2.2.2.2.2.1)) (either (fun u129 : Unit => ((either (fun u130 : Unit => (some (y121.2, y121.1.1, y121.1.2.1, y121.1.2.2.1, y121.1.2.2.2.1, y121.1.2.2.2.2.1, y121.1.2.2.2.2.2.1, (Sum.inr (Sum.inl ())), (Sum.inl ())))) (either (fun u131 : Unit => (some (y121.2, y121.1.1, y121.1.2.1, y121.1.2.2.1, y121.1.2.2.2.1, y121.1.2.2.2.2.1, y121.1.2.2.2.2.2.1, (Sum.inr (Sum.inl ())), (Sum.inr (Sum.inl ()))))) (either (fun u132 : Unit => (some (y121.2, y121.1.1, y121.1.2.1, y121.1.2.2.1, y121.1.2.2.2.1, y121.1.2.2.2.2.1, y121.1.2.2.2.2.2.1, (Sum.inr (Sum.inl ())), (Sum.inr (Sum.inr (Sum.inl ())))))) (either (fun u133 : Unit => (some (y121.2, y121.1.1, y121.1.2.1, y121.1.2.2.1, y121.1.2.2.2.1, y121.1.2.2.2.2.1, y121.1.2.2.2.2.2.1, (Sum.inr (Sum.inl ())), (Sum.inr (Sum.inr (Sum.inr (Sum.inl ()))))))) (either (fun u134 : Unit => (some (y121.2, y121.1.1, y121.1.2.1, y121.1.2.2.1, y121.1.2.2.2.1, y121.1.2.2.2.2.1, y121.1.2.2.2.2.2.1, (Sum.inr (Sum.inl ())), (Sum.inr (Sum.inr (Sum.inr (Sum.inr (Sum.inl ())))))))) (fun u135 : Unit => (some (y121.2, y121.1.1, y121.1.2.1, y121.1.2.2.1, y121.1.2.2.2.1, y121.1.2.2.2.2.1, y121.1.2.2.2.2.2.1, (Sum.inr (Sum.inl ())), (Sum.inr (Sum.inr (Sum.inr (Sum.inr (Sum.inr ()))))))))))))) y121.1.2.2.2.2.2.2.2.1)) (either (fun u136 : Unit => ((either (fun u137 : Unit => (some (y121.2, y121.1.1, y121.1.2.1, y121.1.2.2.1, y121.1.2.2.2.1, y121.1.2.2.2.2.1, y121.1.2.2.2.2.2.1, (Sum.inr (Sum.inr (Sum.inl ()))), (Sum.inl ())))) (either (fun u138 : Unit => (some (y121.2, y121.1.1, y121.1.2.1, y121.1.2.2.1, y121.1.2.2.2.1, y121.1.2.2.2.2.1, y121.1.2.2.2.2.2.1, (Sum.inr (Sum.inr (Sum.inl ()))), (Sum.inr (Sum.inl ()))))) (either (fun u139 : Unit => (some (y121.2, y121.1.1, y121.1.2.1, y121.1.2.2.1, y121.1.2.2.2.1, y121.1.2.2.2.2.1, y121.1.2.2.2.2.2.1, (Sum.inr (Sum.inr (Sum.inl ()))), (Sum.inr (Sum.inr (Sum.inl ())))))) (either (fun u140 : Unit => (some (y121.2, y121.1.1, y121.1.2.1, y121.1.2.2.1, y121.1.2.2.2.1, y121.1.2.2.2.2.1, y121.1.2.2.2.2.2.1, (Sum.inr (Sum.inr (Sum.inl ()))), (Sum.inr (Sum.inr (Sum.inr (Sum.inl ()))))))) (either (fun u141 : Unit => (some (y121.2, y121.1.1, y121.1.2.1, y121.1.2.2.1, y121.1.2.2.2.1, y121.1.2.2.2.2.1, y121.1.2.2.2.2.2.1, (Sum.inr (Sum.inr (Sum.inl ()))), (Sum.inr (Sum.inr (Sum.inr (Sum.inr (Sum.inl ())))))))) (fun u142 : Unit => (some (y121.2, y121.1.1, y121.1.2.1, y121.1.2.2.1, y121.1.2.2.2.1, y121.1.2.2.2.2.1, y121.1.2.2.2.2.2.1, (Sum.inr (Sum.inr (Sum.inl ()))), (Sum.inr (Sum.inr (Sum.inr (Sum.inr (Sum.inr ()))))))))))))) y121.1.2.2.2.2.2.2.2.1)) (either (fun u143 : Unit => ((either (fun u144 : Unit => (some (y121.2, y121.1.1, y121.1.2.1, y121.1.2.2.1, y121.1.2.2.2.1, y121.1.2.2.2.2.1, y121.1.2.2.2.2.2.1, (Sum.inr (Sum.inr (Sum.inr (Sum.inl ())))), (Sum.inl ())))) (either (fun u145 : Unit => (some (y121.2, y121.1.1, y121.1.2.1, y121.1.2.2.1, y121.1.2.2.2.1, y121.1.2.2.2.2.1, y121.1.2.2.2.2.2.1, (Sum.inr (Sum.inr (Sum.inr (Sum.inl ())))), (Sum.inr (Sum.inl ()))))) (either (fun u146 : Unit => (some (y121.2, y121.1.1, y121.1.2.1, y121.1.2.2.1, y121.1.2.2.2.1, y121.1.2.2.2.2.1, y121.1.2.2.2.2.2.1, (Sum.inr (Sum.inr (Sum.inr (Sum.inl ())))), (Sum.inr (Sum.inr (Sum.inl ())))))) (either (fun u147 : Unit => (some (y121.2, y121.1.1, y121.1.2.1, y121.1.2.2.1, y121.1.2.2.2.1, y121.1.2.2.2.2.1, y121.1.2.2.2.2.2.1, (Sum.inr (Sum.inr (Sum.inr (Sum.inl ())))), (Sum.inr (Sum.inr (Sum.inr (Sum.inl ()))))))) (either (fun u148 : Unit => (some (y121.2, y121.1.1, y121.1.2.1, y121.1.2.2.1, y121.1.2.2.2.1, y121.1.2.2.2.2.1, y121.1.2.2.2.2.2.1, (Sum.inr (Sum.inr (Sum.inr (Sum.inl ())))), (Sum.inr (Sum.inr (Sum.inr (Sum.inr (Sum.inl ())))))))) (fun u149 : Unit => (some (y121.2, y121.1.1, y121.1.2.1, y121.1.2.2.1, y121.1.2.2.2.1, y121.1.2.2.2.2.1, y121.1.2.2.2.2.2.1, (Sum.inr (Sum.inr (Sum.inr (Sum.inl ())))), (Sum.inr (Sum.inr (Sum.inr (Sum.inr (Sum.inr ()))))))))))))) y121.1.2.2.2.2.2.2.2.1)) (either (fun u150 : Unit => ((either (fun u151 : Unit => (some (y121.2, y121.1.1, y121.1.2.1, y121.1.2.2.1, y121.1.2.2.2.1, y121.1.2.2.2.2.1, y121.1.2.2.2.2.2.1, (Sum.inr (Sum.inr (Sum.inr (Sum.inr (Sum.inl ()))))), (Sum.inl ())))) (either (fun u152 : Unit => (some (y121.2, y121.1.1, y121.1.2.1, y121.1.2.2.1, y121.1.2.2.2.1, y121.1.2.2.2.2.1, y121.1.2.2.2.2.2.1, (Sum.inr (Sum.inr (Sum.inr (Sum.inr (Sum.inl ()))))), (Sum.inr (Sum.inl ()))))) (either (fun u153 : Unit => (some (y121.2, y121.1.1, y121.1.2.1, y121.1.2.2.1, y121.1.2.2.2.1, y121.1.2.2.2.2.1, y121.1.2.2.2.2.2.1, (Sum.inr (Sum.inr (Sum.inr (Sum.inr (Sum.inl ()))))), (Sum.inr (Sum.inr (Sum.inl ())))))) (either (fun u154 : Unit => (some (y121.2, y121.1.1, y121.1.2.1, y121.1.2.2.1, y121.1.2.2.2.1, y121.1.2.2.2.2.1, y121.1.2.2.2.2.2.1, (Sum.inr (Sum.inr (Sum.inr (Sum.inr (Sum.inl ()))))), (Sum.inr (Sum.inr (Sum.inr (Sum.inl ()))))))) (either (fun u155 : Unit => (some (y121.2, y121.1.1, y121.1.2.1, y121.1.2.2.1, y121.1.2.2.2.1, y121.1.2.2.2.2.1, y121.1.2.2.2.2.2.1, (Sum.inr (Sum.inr (Sum.inr (Sum.inr (Sum.inl ()))))), (Sum.inr (Sum.inr (Sum.inr (Sum.inr (Sum.inl ())))))))) (fun u156 : Unit => (some (y121.2, y121.1.1, y121.1.2.1, y121.1.2.2.1, y121.1.2.2.2.1, y121.1.2.2.2.2.1, y121.1.2.2.2.2.2.1, (Sum.inr (Sum.inr (Sum.inr (Sum.inr (Sum.inl ()))))), (Sum.inr (Sum.inr (Sum.inr (Sum.inr (Sum.inr ()))))))))))))) y121.1.2.2.2.2.2.2.2.1)) (either (fun u157 : Unit => ((either (fun u158 : Unit => (some (y121.2, y121.1.1, y121.1.2.1, y121.1.2.2.1, y121.1.2.2.2.1, y121.1.2.2.2.2.1, y121.1.2.2.2.2.2.1, (Sum.inr (Sum.inr (Sum.inr (Sum.inr (Sum.inr (Sum.inl ())))))), (Sum.inl ())))) (either (fun u159 : Unit => (some (y121.2, y121.1.1, y121.1.2.1, y121.1.2.2.1, y121.1.2.2.2.1, y121.1.2.2.2.2.1, y121.1.2.2.2.2.2.1, (Sum.inr (Sum.inr (Sum.inr (Sum.inr (Sum.inr (Sum.inl ())))))), (Sum.inr (Sum.inl ()))))) (either (fun u160 : Unit => (some (y121.2, y121.1.1, y121.1.2.1, y121.1.2.2.1, y121.1.2.2.2.1, y121.1.2.2.2.2.1, y121.1.2.2.2.2.2.1, (Sum.inr (Sum.inr (Sum.inr (Sum.inr (Sum.inr (Sum.inl ())))))), (Sum.inr (Sum.inr (Sum.inl ())))))) (either (fun u161 : Unit => (some (y121.2, y121.1.1, y121.1.2.1, y121.1.2.2.1, y121.1.2.2.2.1, y121.1.2.2.2.2.1, y121.1.2.2.2.2.2.1, (Sum.inr (Sum.inr (Sum.inr (Sum.inr (Sum.inr (Sum.inl ())))))), (Sum.inr (Sum.inr (Sum.inr (Sum.inl ()))))))) (either (fun u162 : Unit => (some (y121.2, y121.1.1, y121.1.2.1, y121.1.2.2.1, y121.1.2.2.2.1, y121.1.2.2.2.2.1, y121.1.2.2.2.2.2.1, (Sum.inr (Sum.inr (Sum.inr (Sum.inr (Sum.inr (Sum.inl ())))))), (Sum.inr (Sum.inr (Sum.inr (Sum.inr (Sum.inl ())))))))) (fun u163 : Unit => (some (y121.2, y121.1.1, y121.1.2.1, y121.1.2.2.1, y121.1.2.2.2.1, y121.1.2.2.2.2.1, y121.1.2.2.2.2.2.1, (Sum.inr (Sum.inr (Sum.inr (Sum.inr (Sum.inr (Sum.inl ())))))), (Sum.inr (Sum.inr (Sum.inr (Sum.inr (Sum.inr ()))))))))))))) y121.1.2.2.2.2.2.2.2.1)) (either (fun u164 : Unit => ((either (fun u165 : Unit => (some (y121.2, y121.1.1, y121.1.2.1, y121.1.2.2.1, y121.1.2.2.2.1, y121.1.2.2.2.2.1, y121.1.2.2.2.2.2.1, (Sum.inr (Sum.inr (Sum.inr (Sum.inr (Sum.inr (Sum.inr (Sum.inl ()))))))), (Sum.inl ())))) (either (fun u166 : Unit => (some (y121.2, y121.1.1, y121.1.2.1, y121.1.2.2.1, y121.1.2.2.2.1, y121.1.2.2.2.2.1, y121.1.2.2.2.2.2.1, (Sum.inr (Sum.inr (Sum.inr (Sum.inr (Sum.inr (Sum.inr (Sum.inl ()))))))), (Sum.inr (Sum.inl ()))))) (either (fun u167 : Unit => (some (y121.2, y121.1.1, y121.1.2.1, y121.1.2.2.1, y121.1.2.2.2.1, y121.1.2.2.2.2.1, y121.1.2.2.2.2.2.1, (Sum.inr (Sum.inr (Sum.inr (Sum.inr (Sum.inr (Sum.inr (Sum.inl ()))))))), (Sum.inr (Sum.inr (Sum.inl ())))))) (either (fun u168 : Unit => (some (y121.2, y121.1.1, y121.1.2.1, y121.1.2.2.1, y121.1.2.2.2.1, y121.1.2.2.2.2.1, y121.1.2.2.2.2.2.1, (Sum.inr (Sum.inr (Sum.inr (Sum.inr (Sum.inr (Sum.inr (Sum.inl ()))))))), (Sum.inr (Sum.inr (Sum.inr (Sum.inl ()))))))) (either (fun u169 : Unit => (some (y121.2, y121.1.1, y121.1.2.1, y121.1.2.2.1, y121.1.2.2.2.1, y121.1.2.2.2.2.1, y121.1.2.2.2.2.2.1, (Sum.inr (Sum.inr (Sum.inr (Sum.inr (Sum.inr (Sum.inr (Sum.inl ()))))))), (Sum.inr (Sum.inr (Sum.inr (Sum.inr (Sum.inl ())))))))) (fun u170 : Unit => (some (y121.2, y121.1.1, y121.1.2.1, y121.1.2.2.1, y121.1.2.2.2.1, y121.1.2.2.2.2.1, y121.1.2.2.2.2.2.1, (Sum.inr (Sum.inr (Sum.inr (Sum.inr (Sum.inr (Sum.inr (Sum.inl ()))))))), (Sum.inr (Sum.inr (Sum.inr (Sum.inr (Sum.inr ()))))))))))))) y121.1.2.2.2.2.2.2.2.1)) (either (fun u171 : Unit => ((either (fun u172 : Unit => (some (y121.2, y121.1.1, y121.1.2.1, y121.1.2.2.1, y121.1.2.2.2.1, y121.1.2.2.2.2.1, y121.1.2.2.2.2.2.1, (Sum.inr (Sum.inr (Sum.inr (Sum.inr (Sum.inr (Sum.inr (Sum.inr (Sum.inl ())))))))), (Sum.inl ())))) (either (fun u173 : Unit => (some (y121.2, y121.1.1, y121.1.2.1, y121.1.2.2.1, y121.1.2.2.2.1, y121.1.2.2.2.2.1, y121.1.2.2.2.2.2.1, (Sum.inr (Sum.inr (Sum.inr (Sum.inr (Sum.inr (Sum.inr (Sum.inr (Sum.inl ())))))))), (Sum.inr (Sum.inl ()))))) (either (fun u174 : Unit => (some (y121.2, y121.1.1, y121.1.2.1, y121.1.2.2.1, y121.1.2.2.2.1, y121.1.2.2.2.2.1, y121.1.2.2.2.2.2.1, (Sum.inr (Sum.inr (Sum.inr (Sum.inr (Sum.inr (Sum.inr (Sum.inr (Sum.inl ())))))))), (Sum.inr (Sum.inr (Sum.inl ())))))) (either (fun u175 : Unit => (some (y121.2, y121.1.1, y121.1.2.1, y121.1.2.2.1, y121.1.2.2.2.1, y121.1.2.2.2.2.1, y121.1.2.2.2.2.2.1, (Sum.inr (Sum.inr (Sum.inr (Sum.inr (Sum.inr (Sum.inr (Sum.inr (Sum.inl ())))))))), (Sum.inr (Sum.inr (Sum.inr (Sum.inl ()))))))) (either (fun u176 : Unit => (some (y121.2, y121.1.1, y121.1.2.1, y121.1.2.2.1, y121.1.2.2.2.1, y121.1.2.2.2.2.1, y121.1.2.2.2.2.2.1, (Sum.inr (Sum.inr (Sum.inr (Sum.inr (Sum.inr (Sum.inr (Sum.inr (Sum.inl ())))))))), (Sum.inr (Sum.inr (Sum.inr (Sum.inr (Sum.inl ())))))))) (fun u177 : Unit => (some (y121.2, y121.1.1, y121.1.2.1, y121.1.2.2.1, y121.1.2.2.2.1, y121.1.2.2.2.2.1, y121.1.2.2.2.2.2.1, (Sum.inr (Sum.inr (Sum.inr (Sum.inr (Sum.inr (Sum.inr (Sum.inr (Sum.inl ())))))))), (Sum.inr (Sum.inr (Sum.inr (Sum.inr (Sum.inr ()))))))))))))) y121.1.2.2.2.2.2.2.2.1)) (fun u178 : Unit => ((either (fun u179 : Unit => (some (y121.2, y121.1.1, y121.1.2.1, y121.1.2.2.1, y121.1.2.2.2.1, y121.1.2.2.2.2.1, y121.1.2.2.2.2.2.1, (Sum.inr (Sum.inr (Sum.inr (Sum.inr (Sum.inr (Sum.inr (Sum.inr (Sum.inr ())))))))), (Sum.inl ())))) (either (fun u180 : Unit => (some (y121.2, y121.1.1, y121.1.2.1, y121.1.2.2.1, y121.1.2.2.2.1, y121.1.2.2.2.2.1, y121.1.2.2.2.2.2.1, (Sum.inr (Sum.inr (Sum.inr (Sum.inr (Sum.inr (Sum.inr (Sum.inr (Sum.inr ())))))))), (Sum.inr (Sum.inl ()))))) (either (fun u181 : Unit => (some (y121.2, y121.1.1, y121.1.2.1, y121.1.2.2.1, y121.1.2.2.2.1, y121.1.2.2.2.2.1, y121.1.2.2.2.2.2.1, (Sum.inr (Sum.inr (Sum.inr (Sum.inr (Sum.inr (Sum.inr (Sum.inr (Sum.inr ())))))))), (Sum.inr (Sum.inr (Sum.inl ())))))) (either (fun u182 : Unit => (some (y121.2, y121.1.1, y121.1.2.1, y121.1.2.2.1, y121.1.2.2.2.1, y121.1.2.2.2.2.1, y121.1.2.2.2.2.2.1, (Sum.inr (Sum.inr (Sum.inr (Sum.inr (Sum.inr (Sum.inr (Sum.inr (Sum.inr ())))))))), (Sum.inr (Sum.inr (Sum.inr (Sum.inl ()))))))) (either (fun u183 : Unit => (some (y121.2, y121.1.1, y121.1.2.1, y121.1.2.2.1, y121.1.2.2.2.1, y121.1.2.2.2.2.1, y121.1.2.2.2.2.2.1, (Sum.inr (Sum.inr (Sum.inr (Sum.inr (Sum.inr (Sum.inr (Sum.inr (Sum.inr ())))))))), (Sum.inr (Sum.inr (Sum.inr (Sum.inr (Sum.inl ())))))))) (fun u184 : Unit => (some (y121.2, y121.1.1, y121.1.2.1, y121.1.2.2.1, y121.1.2.2.2.1, y121.1.2.2.2.2.1, y121.1.2.2.2.2.2.1, (Sum.inr (Sum.inr (Sum.inr (Sum.inr (Sum.inr (Sum.inr (Sum.inr (Sum.inr ())))))))), (Sum.inr (Sum.inr (Sum.inr (Sum.inr (Sum.inr ()))))))))))))) y121.1.2.2.2.2.2.2.2.1)))))))))) y121.1.2.2.2.2.2.2.1)))
abbrev S36_0 : St := ⟨[(1, rl tsI4 in_), (2, rC a00 n_), (4, rF 0), (6, rF 1), (7, rb y185.1)], [[di 0, di 0, di 0, di 0], [di y185.2.1, db y185.2.2.1, db y185.2.2.2.1, db y185.2.2.2.2.1, db y185.2.2.2.2.2.1, db y185.2.2.2.2.2.2.1, Ps.enc Z2 y185.2.2.2.2.2.2.2.1, Ps.enc Z0 y185.2.2.2.2.2.2.2.2]], [], 90⟩
theorem c97 : P36 2 C36 ⟨[(0, rA a00 n_), (1, rl tsI4 in_)], [], [], 90⟩ k = Option.bind (b0u n_) (fun y185 : U16 => k (S36_0 n_ in_ y185)) := .trans (by kernel_rfl) (bind_b fun y121 => ((either_b (fun u122 => ((either_b (fun u123 => some_b) (either_b (fun u124 => some_b) (either_b (fun u125 => some_b) (either_b (fun u126 => some_b) (either_b (fun u127 => some_b) (fun u128 => some_b)))))) y121.1.2.2.2.2.2.2.2.1)) (either_b (fun u129 => ((either_b (fun u130 => some_b) (either_b (fun u131 => some_b) (either_b (fun u132 => some_b) (either_b (fun u133 => some_b) (either_b (fun u134 => some_b) (fun u135 => some_b)))))) y121.1.2.2.2.2.2.2.2.1)) (either_b (fun u136 => ((either_b (fun u137 => some_b) (either_b (fun u138 => some_b) (either_b (fun u139 => some_b) (either_b (fun u140 => some_b) (either_b (fun u141 => some_b) (fun u142 => some_b)))))) y121.1.2.2.2.2.2.2.2.1)) (either_b (fun u143 => ((either_b (fun u144 => some_b) (either_b (fun u145 => some_b) (either_b (fun u146 => some_b) (either_b (fun u147 => some_b) (either_b (fun u148 => some_b) (fun u149 => some_b)))))) y121.1.2.2.2.2.2.2.2.1)) (either_b (fun u150 => ((either_b (fun u151 => some_b) (either_b (fun u152 => some_b) (either_b (fun u153 => some_b) (either_b (fun u154 => some_b) (either_b (fun u155 => some_b) (fun u156 => some_b)))))) y121.1.2.2.2.2.2.2.2.1)) (either_b (fun u157 => ((either_b (fun u158 => some_b) (either_b (fun u159 => some_b) (either_b (fun u160 => some_b) (either_b (fun u161 => some_b) (either_b (fun u162 => some_b) (fun u163 => some_b)))))) y121.1.2.2.2.2.2.2.2.1)) (either_b (fun u164 => ((either_b (fun u165 => some_b) (either_b (fun u166 => some_b) (either_b (fun u167 => some_b) (either_b (fun u168 => some_b) (either_b (fun u169 => some_b) (fun u170 => some_b)))))) y121.1.2.2.2.2.2.2.2.1)) (either_b (fun u171 => ((either_b (fun u172 => some_b) (either_b (fun u173 => some_b) (either_b (fun u174 => some_b) (either_b (fun u175 => some_b) (either_b (fun u176 => some_b) (fun u177 => some_b)))))) y121.1.2.2.2.2.2.2.2.1)) (fun u178 => ((either_b (fun u179 => some_b) (either_b (fun u180 => some_b) (either_b (fun u181 => some_b) (either_b (fun u182 => some_b) (either_b (fun u183 => some_b) (fun u184 => some_b)))))) y121.1.2.2.2.2.2.2.2.1)))))))))) y121.1.2.2.2.2.2.2.1))
def b0v (K : Bool → β) : β := (bif (!y185.1) then (K true) else (K (!(a4x y185.2.1 y185.2.2.1 y185.2.2.2.1 y185.2.2.2.2.1 y185.2.2.2.2.2.1 y185.2.2.2.2.2.2.1 y185.2.2.2.2.2.2.2.1 y185.2.2.2.2.2.2.2.2 n_ in_))))
def a39 : Bool := b0v n_ in_ y185 (fun y => y)
theorem c2b (K : Bool → β) : b0v n_ in_ y185 K = K (a39 n_ in_ y185) := (bif_k K rfl rfl)
theorem c98 : P36 1 C36.r.r.l (S36_0 n_ in_ y185) k = k ⟨[(1, rl tsI4 in_), (2, rC a00 n_), (4, rF 0), (6, rF 1), (25, rb (a39 n_ in_ y185))], [[di 0, di 0, di 0, di 0], [di y185.2.1, db y185.2.2.1, db y185.2.2.2.1, db y185.2.2.2.2.1, db y185.2.2.2.2.2.1, db y185.2.2.2.2.2.2.1, Ps.enc Z2 y185.2.2.2.2.2.2.2.1, Ps.enc Z0 y185.2.2.2.2.2.2.2.2]], [], 90⟩ := Eq.trans (by (rcases y185 with ⟨_, _, _, _, _, _, _, (_ | _ | _ | _ | _ | _ | _ | _ | _), (_ | _ | _ | _ | _ | _)⟩ <;> kernel_rfl)) (c2b n_ in_ y185 (fun y199 : Bool => k ⟨[(1, rl tsI4 in_), (2, rC a00 n_), (4, rF 0), (6, rF 1), (25, rb y199)], [[di 0, di 0, di 0, di 0], [di y185.2.1, db y185.2.2.1, db y185.2.2.2.1, db y185.2.2.2.2.1, db y185.2.2.2.2.2.1, db y185.2.2.2.2.2.2.1, Ps.enc Z2 y185.2.2.2.2.2.2.2.1, Ps.enc Z0 y185.2.2.2.2.2.2.2.2]], [], 90⟩))
abbrev S36_1 : St := ⟨[(1, rl tsI4 in_), (2, rC a00 n_), (4, rF 0), (6, rF 1)], [[di 0, di 0, di 0, di 0], [di y185.2.1, db y185.2.2.1, db y185.2.2.2.1, db y185.2.2.2.2.1, db y185.2.2.2.2.2.1, db y185.2.2.2.2.2.2.1, Ps.enc Z2 y185.2.2.2.2.2.2.2.1, Ps.enc Z0 y185.2.2.2.2.2.2.2.2]], [], 90⟩
abbrev S36_2 : St := ⟨[(4, rF 0), (5, ri 11)], [[di 0, di 0, di 0, di 0], []], [], 90⟩
theorem c95 : P36 1 C36.r.r.l.r.t (S36_1 n_ in_ y185) k = k S36_2 := by (rcases y185 with ⟨_, _, _, _, _, _, _, (_ | _ | _ | _ | _ | _ | _ | _ | _), (_ | _ | _ | _ | _ | _)⟩ <;> kernel_rfl)
def b0w : Option Bool := (bif y185.2.2.2.2.2.2.1 then (Option.bind (a0w in_ n_) (fun y219 : Bool => (some y219))) else (some false))
theorem c99 : P36 1 C36.r.r.r.l (S36_1 n_ in_ y185) k = Option.bind (b0w n_ in_ y185) (fun y220 : Bool => k ⟨[(1, rl tsI4 in_), (2, rC a00 n_), (4, rF 0), (6, rF 1), (33, rb y220)], [[di 0, di 0, di 0, di 0], [di y185.2.1, db y185.2.2.1, db y185.2.2.2.1, db y185.2.2.2.2.1, db y185.2.2.2.2.2.1, db y185.2.2.2.2.2.2.1, Ps.enc Z2 y185.2.2.2.2.2.2.2.1, Ps.enc Z0 y185.2.2.2.2.2.2.2.2]], [], 90⟩) := .trans (by (rcases y185 with ⟨_, _, _, _, _, _, _, (_ | _ | _ | _ | _ | _ | _ | _ | _), (_ | _ | _ | _ | _ | _)⟩ <;> kernel_rfl)) (bif_b (bind_b fun y219 => some_b) some_b)
theorem c26 : P36 1 C36.r.r.r.l.r.t (S36_1 n_ in_ y185) k = k S36_2 := by (rcases y185 with ⟨_, _, _, _, _, _, _, (_ | _ | _ | _ | _ | _ | _ | _ | _), (_ | _ | _ | _ | _ | _)⟩ <;> kernel_rfl)
theorem c9a : P36 1 C36.r.r.r.r.l (S36_1 n_ in_ y185) k = Option.bind (a0i in_) fun y248 : Bool => k ⟨[(1, rl tsI4 in_), (2, rC a00 n_), (4, rF 0), (6, rF 1), (36, rb y248)], [[di 0, di 0, di 0, di 0], [di y185.2.1, db y185.2.2.1, db y185.2.2.2.1, db y185.2.2.2.2.1, db y185.2.2.2.2.2.1, db y185.2.2.2.2.2.2.1, Ps.enc Z2 y185.2.2.2.2.2.2.2.1, Ps.enc Z0 y185.2.2.2.2.2.2.2.2]], [], 90⟩ := by (rcases y185 with ⟨_, _, _, _, _, _, _, (_ | _ | _ | _ | _ | _ | _ | _ | _), (_ | _ | _ | _ | _ | _)⟩ <;> kernel_rfl)
theorem c27 : P36 1 C36.r.r.r.r.l.r.t (S36_1 n_ in_ y185) k = k ⟨[(4, rF 0), (5, ri 10)], [[di 0, di 0, di 0, di 0], []], [], 90⟩ := by (rcases y185 with ⟨_, _, _, _, _, _, _, (_ | _ | _ | _ | _ | _ | _ | _ | _), (_ | _ | _ | _ | _ | _)⟩ <;> kernel_rfl)
def b0x : Option (Int × Int × Int) := (bif (decide ((0 : Int) < (in_.length : Int))) then (bif (decide ((0 : Int) ≤ (IntKind.wrap .i64 ((in_.length : Int) - 1)))) then (bif (decide ((IntKind.wrap .i64 ((in_.length : Int) - 1)) < (in_.length : Int))) then ((either (fun u249 : Unit => (some (a8p n_ ((gt in_ (0 : Int) dI4).1, (gt in_ (0 : Int) dI4).2.1, (gt in_ (0 : Int) dI4).2.2.1) ((gt in_ (IntKind.wrap .i64 ((in_.length : Int) - 1)) dI4).1, (gt in_ (IntKind.wrap .i64 ((in_.length : Int) - 1)) dI4).2.1, (gt in_ (IntKind.wrap .i64 ((in_.length : Int) - 1)) dI4).2.2.1)))) (either (fun u250 : Unit => (Option.bind (b66 n_ ((gt in_ (0 : Int) dI4).1, (gt in_ (0 : Int) dI4).2.1, (gt in_ (0 : Int) dI4).2.2.1) ((gt in_ (IntKind.wrap .i64 ((in_.length : Int) - 1)) dI4).1, (gt in_ (IntKind.wrap .i64 ((in_.length : Int) - 1)) dI4).2.1, (gt in_ (IntKind.wrap .i64 ((in_.length : Int) - 1)) dI4).2.2.1)) (fun y264 : I3 => (some y264)))) (either (fun u265 : Unit => (Option.bind (b19 n_ ((gt in_ (0 : Int) dI4).1, (gt in_ (0 : Int) dI4).2.1, (gt in_ (0 : Int) dI4).2.2.1) ((gt in_ (IntKind.wrap .i64 ((in_.length : Int) - 1)) dI4).1, (gt in_ (IntKind.wrap .i64 ((in_.length : Int) - 1)) dI4).2.1, (gt in_ (IntKind.wrap .i64 ((in_.length : Int) - 1)) dI4).2.2.1)) (fun y267 : I3 => (some y267)))) (either (fun u268 : Unit => (some (b0f n_ ((gt in_ (0 : Int) dI4).1, (gt in_ (0 : Int) dI4).2.1, (gt in_ (0 : Int) dI4).2.2.1) ((gt in_ (IntKind.wrap .i64 ((in_.length : Int) - 1)) dI4).1, (gt in_ (IntKind.wrap .i64 ((in_.length : Int) - 1)) dI4).2.1, (gt in_ (IntKind.wrap .i64 ((in_.length : Int) - 1)) dI4).2.2.1)))) (either (fun u269 : Unit => (some (b0i n_ ((gt in_ (0 : Int) dI4).1, (gt in_ (0 : Int) dI4).2.1, (gt in_ (0 : Int) dI4).2.2.1) ((gt in_ (IntKind.wrap .i64 ((in_.length : Int) - 1)) dI4).1, (gt in_ (IntKind.wrap .i64 ((in_.length : Int) - 1)) dI4).2.1, (gt in_ (IntKind.wrap .i64 ((in_.length : Int) - 1)) dI4).2.2.1)))) (either (fun u270 : Unit => (some (b0g n_ ((gt in_ (0 : Int) dI4).1, (gt in_ (0 : Int) dI4).2.1, (gt in_ (0 : Int) dI4).2.2.1) ((gt in_ (IntKind.wrap .i64 ((in_.length : Int) - 1)) dI4).1, (gt in_ (IntKind.wrap .i64 ((in_.length : Int) - 1)) dI4).2.1, (gt in_ (IntKind.wrap .i64 ((in_.length : Int) - 1)) dI4).2.2.1)))) (either (fun u271 : Unit => (some (a6z n_ ((gt in_ (0 : Int) dI4).1, (gt in_ (0 : Int) dI4).2.1, (gt in_ (0 : Int) dI4).2.2.1) ((gt in_ (IntKind.wrap .i64 ((in_.length : Int) - 1)) dI4).1, (gt in_ (IntKind.wrap .i64 ((in_.length : Int) - 1)) dI4).2.1, (gt in_ (IntKind.wrap .i64 ((in_.length : Int) - 1)) dI4).2.2.1)))) (either (fun u274 : Unit => (Option.bind (b62 n_ ((gt in_ (0 : Int) dI4).1, (gt in_ (0 : Int) dI4).2.1, (gt in_ (0 : Int) dI4).2.2.1) ((gt in_ (IntKind.wrap .i64 ((in_.length : Int) - 1)) dI4).1, (gt in_ (IntKind.wrap .i64 ((in_.length : Int) - 1)) dI4).2.1, (gt in_ (IntKind.wrap .i64 ((in_.length : Int) - 1)) dI4).2.2.1)) (fun y284 : I3 => (some y284)))) (fun u285 : Unit => none))))))))) y185.2.2.2.2.2.2.2.1) else none) else none) else none)
abbrev S36_3 : St := ⟨[(1, rl tsI4 in_), (2, rC a00 n_), (4, rF 0), (6, rF 1), (8, rF 2)], [[di 0, di 0, di 0, di 0], [di y185.2.1, db y185.2.2.1, db y185.2.2.2.1, db y185.2.2.2.2.1, db y185.2.2.2.2.2.1, db y185.2.2.2.2.2.2.1, Ps.enc Z2 y185.2.2.2.2.2.2.2.1, Ps.enc Z0 y185.2.2.2.2.2.2.2.2], (tsI3.leaves y286)], [], 90⟩
theorem c9b : P36 1 C36.r.r.r.r.r (S36_1 n_ in_ y185) k = Option.bind (b0x n_ in_ y185) (fun y286 : (Int × Int × Int) => k (S36_3 n_ in_ y185 y286)) := .trans (by (rcases y185 with ⟨_, _, _, _, _, _, _, (_ | _ | _ | _ | _ | _ | _ | _ | _), (_ | _ | _ | _ | _ | _)⟩ <;> kernel_rfl)) (bif_b (bif_b (bif_b ((either_b (fun u249 => some_b) (either_b (fun u250 => (bind_b fun y264 => some_b)) (either_b (fun u265 => (bind_b fun y267 => some_b)) (either_b (fun u268 => some_b) (either_b (fun u269 => some_b) (either_b (fun u270 => some_b) (either_b (fun u271 => some_b) (either_b (fun u274 => (bind_b fun y284 => some_b)) (fun u285 => none_b))))))))) y185.2.2.2.2.2.2.2.1) none_b) none_b) none_b)
theorem c9c : P36 1 C36.r.r.r.r.r.r.l (S36_3 n_ in_ y185 y286) k = Option.bind (a38 y286) fun y288 : Int => k ⟨[(1, rl tsI4 in_), (2, rC a00 n_), (4, rF 0), (6, rF 1), (8, rF 2), (55, rb (y288 != 0))], [[di 0, di 0, di 0, di 0], [di y185.2.1, db y185.2.2.1, db y185.2.2.2.1, db y185.2.2.2.2.1, db y185.2.2.2.2.2.1, db y185.2.2.2.2.2.2.1, Ps.enc Z2 y185.2.2.2.2.2.2.2.1, Ps.enc Z0 y185.2.2.2.2.2.2.2.2], (tsI3.leaves y286)], [], 90⟩ := by (rcases y185 with ⟨_, _, _, _, _, _, _, (_ | _ | _ | _ | _ | _ | _ | _ | _), (_ | _ | _ | _ | _ | _)⟩ <;> kernel_rfl)
theorem c28 : P36 1 C36.r.r.r.r.r.r.l.r.t (S36_3 n_ in_ y185 y286) k = k ⟨[(4, rF 0), (5, ri 10)], [[di 0, di 0, di 0, di 0], [], []], [], 90⟩ := by (rcases y185 with ⟨_, _, _, _, _, _, _, (_ | _ | _ | _ | _ | _ | _ | _ | _), (_ | _ | _ | _ | _ | _)⟩ <;> kernel_rfl)
def a9p : Option (Int × Int) := (bif (decide ((0 : Int) < (in_.length : Int))) then ((either (fun u289 : Unit => (some (b0c n_ ((gt in_ (0 : Int) dI4).1, (gt in_ (0 : Int) dI4).2.1, (gt in_ (0 : Int) dI4).2.2.1)))) (either (fun u290 : Unit => (some (b0d n_ ((gt in_ (0 : Int) dI4).1, (gt in_ (0 : Int) dI4).2.1, (gt in_ (0 : Int) dI4).2.2.1)))) (either (fun u292 : Unit => (some (b0e n_ ((gt in_ (0 : Int) dI4).1, (gt in_ (0 : Int) dI4).2.1, (gt in_ (0 : Int) dI4).2.2.1)))) (either (fun u293 : Unit => (Option.bind (b67 n_ ((gt in_ (0 : Int) dI4).1, (gt in_ (0 : Int) dI4).2.1, (gt in_ (0 : Int) dI4).2.2.1)) (fun y295 : (Int × Int) => (some y295)))) (either (fun u296 : Unit => (some (b0h n_ ((gt in_ (0 : Int) dI4).1, (gt in_ (0 : Int) dI4).2.1, (gt in_ (0 : Int) dI4).2.2.1)))) (fun u297 : Unit => none)))))) y185.2.2.2.2.2.2.2.2) else none)
abbrev S36_4 : St := ⟨[(2, rC a00 n_), (4, rF 0), (8, rF 2), (9, ri y298.1), (10, ri y298.2)], [[di 0, di 0, di 0, di 0], [], (tsI3.leaves y286)], [], 90⟩
theorem c56 : P36 1 C36.r.r.r.r.r.r.r (S36_3 n_ in_ y185 y286) k = Option.bind (a9p n_ in_ y185) (fun y298 : (Int × Int) => k (S36_4 n_ y286 y298)) := .trans (by (rcases y185 with ⟨_, _, _, _, _, _, _, (_ | _ | _ | _ | _ | _ | _ | _ | _), (_ | _ | _ | _ | _ | _)⟩ <;> kernel_rfl)) (bif_b ((either_b (fun u289 => some_b) (either_b (fun u290 => some_b) (either_b (fun u292 => some_b) (either_b (fun u293 => (bind_b fun y295 => some_b)) (either_b (fun u296 => some_b) (fun u297 => none_b)))))) y185.2.2.2.2.2.2.2.2) none_b)
def a9q : Option Bool := (bif ((n_.2.2.2.2.2.2.2.2.2.2.2.2.1.length : Int) != y298.1) then (some true) else (bif ((n_.2.2.2.2.2.2.2.2.2.2.2.2.2.length : Int) != y298.2) then (some true) else (Option.bind (a1h n_.2.2.2.2.2.2.2.2.2.2.2.2.2) (fun y318 : Bool => (some y318)))))
theorem c57 : P36 1 C36.r.r.r.r.r.r.r.r.l (S36_4 n_ y286 y298) k = Option.bind (a9q n_ y298) (fun y319 : Bool => k ⟨[(2, rC a00 n_), (4, rF 0), (8, rF 2), (84, rb y319)], [[di 0, di 0, di 0, di 0], [], (tsI3.leaves y286)], [], 90⟩) := .trans (by kernel_rfl) (bif_b some_b (bif_b some_b (bind_b fun y318 => some_b)))
abbrev S36_5 : St := ⟨[(2, rC a00 n_), (4, rF 0), (8, rF 2)], [[di 0, di 0, di 0, di 0], [], (tsI3.leaves y286)], [], 90⟩
theorem c29 : P36 1 C36.r.r.r.r.r.r.r.r.l.r.t (S36_5 n_ y286) k = k ⟨[(4, rF 0), (5, ri 12)], [[di 0, di 0, di 0, di 0], [], []], [], 90⟩ := by kernel_rfl
theorem c2a : P36 1 C36.r.r.r.r.r.r.r.r.r (S36_5 n_ y286) k = k ⟨[(4, rF 0), (5, ri 0)], [[di y286.1, di y286.2.1, di y286.2.2, di n_.2.2.2.2.2.2.2.2.1], [], []], [], 90⟩ := by kernel_rfl
/-- quilt/graph.Value -/
def a1d : Option (I4 × Int) := (Option.bind (b0u n_) (fun y185 : U16 => (bif (a39 n_ in_ y185) then (some (((0 : Int), (0 : Int), (0 : Int), (0 : Int)), (11 : Int))) else (Option.bind (b0w n_ in_ y185) (fun y220 : Bool => (bif y220 then (some (((0 : Int), (0 : Int), (0 : Int), (0 : Int)), (11 : Int))) else (Option.bind (a0i in_) (fun y248 : Bool => (bif y248 then (some (((0 : Int), (0 : Int), (0 : Int), (0 : Int)), (10 : Int))) else (Option.bind (b0x n_ in_ y185) (fun y286 : (Int × Int × Int) => (Option.bind (a38 y286) (fun y288 : Int => (bif (y288 != 0) then (some (((0 : Int), (0 : Int), (0 : Int), (0 : Int)), (10 : Int))) else (Option.bind (a9p n_ in_ y185) (fun y298 : (Int × Int) => (Option.bind (a9q n_ y298) (fun y319 : Bool => (bif y319 then (some (((0 : Int), (0 : Int), (0 : Int), (0 : Int)), (12 : Int))) else (some ((y286.1, y286.2.1, y286.2.2, n_.2.2.2.2.2.2.2.2.1), (0 : Int))))))))))))))))))))))
theorem c96 : stepS E cp36 noE 29 [rA a00 n_, rl tsI4 in_] = Option.bind (a1d n_ in_) (fun y : (I4 × Int) => some (.tup [rA tsI4 y.1, ri y.2] : R)) := by
  refine .trans ?_ (bind_b fun y185 => (bif_b some_b (bind_b fun y220 => (bif_b some_b (bind_b fun y248 => (bif_b some_b (bind_b fun y286 => (bind_b fun y288 => (bif_b some_b (bind_b fun y298 => (bind_b fun y319 => (bif_b some_b some_b))))))))))))
  refine (stepG_is (nt := 90) (regs := [(0, rA a00 n_), (1, rl tsI4 in_)])).trans ?_
  refine (pre2 (c97 n_ in_ _)).trans (bind_g fun y185 => ?_)
  refine .trans seq_push ?_
  refine (pre1 (c98 n_ in_ y185 _)).trans ?_
  refine (cond_e (b := (a39 n_ in_ y185)) (st' := (S36_1 n_ in_ y185)) (hs := by (rcases y185 with ⟨_, _, _, _, _, _, _, (_ | _ | _ | _ | _ | _ | _ | _ | _), (_ | _ | _ | _ | _ | _)⟩ <;> kernel_rfl))).trans (bif_g ?_ ?_)
  · refine (pre1 (c95 n_ in_ y185 _)).trans ?_
    refine (ret_eq).trans ?_
    refine seqC_ret.trans ?_
    (rcases y185 with ⟨_, _, _, _, _, _, _, (_ | _ | _ | _ | _ | _ | _ | _ | _), (_ | _ | _ | _ | _ | _)⟩ <;> kernel_rfl)
  · refine (skip_eq).trans ?_
    refine (seqC_normal (st' := (S36_1 n_ in_ y185)) (hs := by (rcases y185 with ⟨_, _, _, _, _, _, _, (_ | _ | _ | _ | _ | _ | _ | _ | _), (_ | _ | _ | _ | _ | _)⟩ <;> kernel_rfl))).trans ?_
    refine .trans seq_push ?_
    refine (pre1 (c99 n_ in_ y185 _)).trans (bind_g fun y220 => ?_)
    refine (cond_e (b := y220) (st' := (S36_1 n_ in_ y185)) (hs := by (rcases y185 with ⟨_, _, _, _, _, _, _, (_ | _ | _ | _ | _ | _ | _ | _ | _), (_ | _ | _ | _ | _ | _)⟩ <;> kernel_rfl))).trans (bif_g ?_ ?_)
    · refine (pre1 (c26 n_ in_ y185 _)).trans ?_
      refine (ret_eq).trans ?_
      refine seqC_ret.trans ?_
      (rcases y185 with ⟨_, _, _, _, _, _, _, (_ | _ | _ | _ | _ | _ | _ | _ | _), (_ | _ | _ | _ | _ | _)⟩ <;> kernel_rfl)
    · refine (skip_eq).trans ?_
      refine (seqC_normal (st' := (S36_1 n_ in_ y185)) (hs := by (rcases y185 with ⟨_, _, _, _, _, _, _, (_ | _ | _ | _ | _ | _ | _ | _ | _), (_ | _ | _ | _ | _ | _)⟩ <;> kernel_rfl))).trans ?_
      refine .trans seq_push ?_
      refine (pre1 (c9a n_ in_ y185 _)).trans (bind_g fun y248 => ?_)
      refine (cond_e (b := y248) (st' := (S36_1 n_ in_ y185)) (hs := by (rcases y185 with ⟨_, _, _, _, _, _, _, (_ | _ | _ | _ | _ | _ | _ | _ | _), (_ | _ | _ | _ | _ | _)⟩ <;> kernel_rfl))).trans (bif_g ?_ ?_)
      · refine (pre1 (c27 n_ in_ y185 _)).trans ?_
        refine (ret_eq).trans ?_
        refine seqC_ret.trans ?_
        (rcases y185 with ⟨_, _, _, _, _, _, _, (_ | _ | _ | _ | _ | _ | _ | _ | _), (_ | _ | _ | _ | _ | _)⟩ <;> kernel_rfl)
      · refine (skip_eq).trans ?_
        refine (seqC_normal (st' := (S36_1 n_ in_ y185)) (hs := by (rcases y185 with ⟨_, _, _, _, _, _, _, (_ | _ | _ | _ | _ | _ | _ | _ | _), (_ | _ | _ | _ | _ | _)⟩ <;> kernel_rfl))).trans ?_
        refine (pre1 (c9b n_ in_ y185 _)).trans (bind_g fun y286 => ?_)
        refine .trans seq_push ?_
        refine (pre1 (c9c n_ in_ y185 y286 _)).trans (bind_g fun y288 => ?_)
        refine (cond_e (b := (y288 != 0)) (st' := (S36_3 n_ in_ y185 y286)) (hs := by (rcases y185 with ⟨_, _, _, _, _, _, _, (_ | _ | _ | _ | _ | _ | _ | _ | _), (_ | _ | _ | _ | _ | _)⟩ <;> kernel_rfl))).trans (bif_g ?_ ?_)
        · refine (pre1 (c28 n_ in_ y185 y286 _)).trans ?_
          refine (ret_eq).trans ?_
          refine seqC_ret.trans ?_
          (rcases y185 with ⟨_, _, _, _, _, _, _, (_ | _ | _ | _ | _ | _ | _ | _ | _), (_ | _ | _ | _ | _ | _)⟩ <;> kernel_rfl)
        · refine (skip_eq).trans ?_
          refine (seqC_normal (st' := (S36_3 n_ in_ y185 y286)) (hs := by (rcases y185 with ⟨_, _, _, _, _, _, _, (_ | _ | _ | _ | _ | _ | _ | _ | _), (_ | _ | _ | _ | _ | _)⟩ <;> kernel_rfl))).trans ?_
          refine (pre1 (c56 n_ in_ y185 y286 _)).trans (bind_g fun y298 => ?_)
          refine .trans seq_push ?_
          refine (pre1 (c57 n_ y286 y298 _)).trans (bind_g fun y319 => ?_)
          refine (cond_e (b := y319) (st' := (S36_5 n_ y286)) (hs := by (rcases y185 with ⟨_, _, _, _, _, _, _, (_ | _ | _ | _ | _ | _ | _ | _ | _), (_ | _ | _ | _ | _ | _)⟩ <;> kernel_rfl))).trans (bif_g ?_ ?_)
          · refine (pre1 (c29 n_ y286 _)).trans ?_
            refine (ret_eq).trans ?_
            refine seqC_ret.trans ?_
            (rcases y185 with ⟨_, _, _, _, _, _, _, (_ | _ | _ | _ | _ | _ | _ | _ | _), (_ | _ | _ | _ | _ | _)⟩ <;> kernel_rfl)
          · refine (skip_eq).trans ?_
            refine (seqC_normal (st' := (S36_5 n_ y286)) (hs := by (rcases y185 with ⟨_, _, _, _, _, _, _, (_ | _ | _ | _ | _ | _ | _ | _ | _), (_ | _ | _ | _ | _ | _)⟩ <;> kernel_rfl))).trans ?_
            refine (pre1 (c2a n_ y286 _)).trans ?_
            refine (ret_eq).trans ?_
            (rcases y185 with ⟨_, _, _, _, _, _, _, (_ | _ | _ | _ | _ | _ | _ | _ | _), (_ | _ | _ | _ | _ | _)⟩ <;> kernel_rfl)
noncomputable def cp37 : CallP := withC cp36 29 [(.agg a00), (pL tsI4)] (.tup [(.agg tsI4), pI]) (fun y : (I4 × Int) => (y.1, y.2, ())) (fun x => a1d x.1 x.2.1)
theorem e4t : PureOK E cp37 := conS eok e4s noE_ok fun x => Eq.mp (by kernel_rfl) (c96 x.1 x.2.1)
end
end Go.V.P
