/- What functions compute. -/
import Derived.Test.YtdgdgoekapekpaaEvEnv
namespace Go.V.P
open Go.RowKit Go.V Go.Proofs
set_option linter.unusedVariables false
set_option maxRecDepth 100000
section
variable {α β : Type} (low : Int) (high : Int) (k : St → Option α)
noncomputable abbrev C0 := codeOf E.P 81
noncomputable abbrev P0 := @preK α E 81 cpA noE
theorem c8g : P0 2 C0 ⟨[(0, ri low), (1, ri high)], [], [], 6⟩ k = k ⟨[(4, .one (.fn 92 [.cell [di low], .cell [di high]]))], [], [], 6⟩ := by kernel_rfl
/-- quilt/shape.within -/
def a8m (K : ((Int × Unit) × (Int × Unit) × Unit) → β) : β := (K ((low, ()), (high, ()), ()))
def a0b : ((Int × Unit) × (Int × Unit) × Unit) := a8m low high (fun y => y)
theorem d2w (K : ((Int × Unit) × (Int × Unit) × Unit) → β) : a8m low high K = K (a0b low high) := rfl
theorem c8h : stepS E cpA noE 81 [ri low, ri high] = (fun y : ((Int × Unit) × (Int × Unit) × Unit) => some (.one (.fn 92 [.cell [di y.1.1], .cell [di y.2.1.1]]) : R)) (a0b low high) := by
  refine Eq.trans ?_ (d2w low high (fun y : ((Int × Unit) × (Int × Unit) × Unit) => some (.one (.fn 92 [.cell [di y.1.1], .cell [di y.2.1.1]]) : R)))
  refine (stepG_is (nt := 6) (regs := [(0, ri low), (1, ri high)])).trans ?_
  unfold a8m
  refine (pre2 (c8g low high _)).trans ?_
  refine (ret_eq).trans ?_
  kernel_rfl
noncomputable def cp1 : CallP := withC cpA 81 [pI, pI] (.one (.one (.fn 92 (.cons (.cell (.cons (.g (.int .i64)) .nil)) (.cons (.cell (.cons (.g (.int .i64)) .nil)) .nil))))) (fun y : ((Int × Unit) × (Int × Unit) × Unit) => y) (fun x => some (a0b x.1 x.2.1))
theorem e6a : PureOK E cp1 := conS eok e6i noE_ok fun x => Eq.mp (by kernel_rfl) (c8h x.1 x.2.1)
end
section
variable {α β : Type} (l_ : (List Int)) (c1_ : Int) (c2_ : Int) (s24 : Int) (k : St → Option α) (q : Kont α)
noncomputable abbrev C1 := codeOf E.P 92
noncomputable abbrev P1 := @preK α E 92 cp1 noE
noncomputable abbrev R1 := @runCode α E 92 cp1 noE
abbrev S1_0 : St := ⟨[(0, rl (.one (.int .i64)) l_), (1, .one (.cell [di c1_])), (2, .one (.cell [di c2_]))], [], [], 22⟩
theorem c1l : P1 1 C1 (S1_0 l_ c1_ c2_) k = k (S1_0 l_ c1_ c2_) := by kernel_rfl
abbrev S1_1 : St := ⟨[(1, .one (.cell [di c1_])), (2, .one (.cell [di c2_])), (7, rl (.one (.int .i64)) l_), (8, ri (l_.length : Int)), (9, ri 0)], [], [], 22⟩
theorem c1m : P1 1 C1.r.l (S1_0 l_ c1_ c2_) k = k (S1_1 l_ c1_ c2_) := by kernel_rfl
abbrev S1_2 : St := ⟨[(1, .one (.cell [di c1_])), (2, .one (.cell [di c2_])), (7, rl (.one (.int .i64)) l_), (8, ri (l_.length : Int)), (9, ri s24)], [], [], 22⟩
theorem c1n : P1 1 C1.r.l.r.b.b (S1_2 l_ c1_ c2_ s24) k = k ⟨[(1, .one (.cell [di c1_])), (2, .one (.cell [di c2_])), (7, rl (.one (.int .i64)) l_), (8, ri (l_.length : Int)), (9, ri s24), (10, rb (decide (s24 < (l_.length : Int))))], [], [], 22⟩ := by kernel_rfl
def a82 : Option Unit := (bif (decide ((0 : Int) ≤ s24)) then (bif (decide (s24 < (l_.length : Int))) then (some ()) else none) else none)
abbrev S1_3 : St := ⟨[(1, .one (.cell [di c1_])), (2, .one (.cell [di c2_])), (6, ri (gt l_ s24 (0 : Int))), (7, rl (.one (.int .i64)) l_), (8, ri (l_.length : Int)), (9, ri s24)], [], [], 22⟩
theorem c1q : P1 1 C1.r.l.r.b.b.r.r.l.b (S1_2 l_ c1_ c2_ s24) k = Option.bind (a82 l_ s24) (fun y27 : Unit => k (S1_3 l_ c1_ c2_ s24)) := .trans (by kernel_rfl) (bif_b (bif_b some_b none_b) none_b)
def a83 (K : Bool → β) : β := (bif (decide ((gt l_ s24 (0 : Int)) < c1_)) then (K true) else (K (decide ((gt l_ s24 (0 : Int)) > c2_))))
def a2a : Bool := a83 l_ c1_ c2_ s24 (fun y => y)
theorem b8l (K : Bool → β) : a83 l_ c1_ c2_ s24 K = K (a2a l_ c1_ c2_ s24) := (bif_k K rfl rfl)
theorem c1r : P1 1 C1.r.l.r.b.b.r.r.l.b.r (S1_3 l_ c1_ c2_ s24) k = k ⟨[(1, .one (.cell [di c1_])), (2, .one (.cell [di c2_])), (7, rl (.one (.int .i64)) l_), (8, ri (l_.length : Int)), (9, ri s24), (20, rb (a2a l_ c1_ c2_ s24))], [], [], 22⟩ := Eq.trans (by kernel_rfl) (b8l l_ c1_ c2_ s24 (fun y28 : Bool => k ⟨[(1, .one (.cell [di c1_])), (2, .one (.cell [di c2_])), (7, rl (.one (.int .i64)) l_), (8, ri (l_.length : Int)), (9, ri s24), (20, rb y28)], [], [], 22⟩))
abbrev S1_4 : St := ⟨[(4, rb false)], [], [], 22⟩
theorem b8i : P1 1 C1.r.l.r.b.b.r.r.l.b.r.r.t (S1_2 l_ c1_ c2_ s24) k = k S1_4 := by kernel_rfl
theorem c1s : R1 C1.r.l.r.b.b.r.r.r (S1_2 l_ c1_ c2_ s24) q = q .normal ⟨[(1, .one (.cell [di c1_])), (2, .one (.cell [di c2_])), (7, rl (.one (.int .i64)) l_), (8, ri (l_.length : Int)), (9, ri (IntKind.wrap .i64 (s24 + 1)))], [], [], 22⟩ := by kernel_rfl
def a3z : Option (Int ⊕ (Int ⊕ Unit)) := (bif (decide (s24 < (l_.length : Int))) then (Option.bind (a82 l_ s24) (fun y27 : Unit => (bif (a2a l_ c1_ c2_ s24) then (some (Sum.inr (Sum.inr ()))) else (some (Sum.inl (IntKind.wrap .i64 (s24 + 1))))))) else (some (Sum.inr (Sum.inl s24))))
abbrev S1_5 (y29 : Int) : St := ⟨[(1, .one (.cell [di c1_])), (2, .one (.cell [di c2_])), (7, rl (.one (.int .i64)) l_), (8, ri (l_.length : Int)), (9, ri y29)], [], [], 22⟩
theorem b8k : R1 C1.r.l.r.b.b (S1_2 l_ c1_ c2_ s24) (loopKont 0 q) = Option.bind (a3z l_ c1_ c2_ s24) (either (fun y : Int => q .normal ⟨[(1, .one (.cell [di c1_])), (2, .one (.cell [di c2_])), (7, rl (.one (.int .i64)) l_), (8, ri (l_.length : Int)), (9, ri y)], [], [], 22⟩) (either (fun y29 : Int => q (.exit 0) (S1_5 l_ c1_ c2_ y29)) (fun y30 : Unit => q .ret S1_4))) := by
  refine .trans ?_ (bif_b (bind_b fun y27 => (bif_b e3_2 e3_0)) e3_1)
  refine (pre1 (c1n l_ c1_ c2_ s24 _)).trans ?_
  refine .trans seq_push ?_
  refine (cond_e (b := (decide (s24 < (l_.length : Int)))) (st' := (S1_2 l_ c1_ c2_ s24)) ).trans (bif_g ?_ ?_)
  · refine (skip_eq).trans ?_
    refine (seqC_normal (st' := (S1_2 l_ c1_ c2_ s24))).trans ?_
    refine .trans seq_push ?_
    refine (block_push (id := 1)).trans ?_
    refine (pre1 (c1q l_ c1_ c2_ s24 _)).trans (bind_g fun y27 => ?_)
    refine (pre1 (c1r l_ c1_ c2_ s24 _)).trans ?_
    refine (cond_e (b := (a2a l_ c1_ c2_ s24)) (st' := (S1_2 l_ c1_ c2_ s24)) ).trans (bif_g ?_ ?_)
    · refine (pre1 (b8i l_ c1_ c2_ s24 _)).trans ?_
      refine (ret_eq).trans ?_
      refine block_ret.trans ?_
      refine seqC_ret.trans ?_
      kernel_rfl
    · refine (skip_eq).trans ?_
      refine block_normal.trans ?_
      refine (seqC_normal (st' := (S1_2 l_ c1_ c2_ s24))).trans ?_
      refine (c1s l_ c1_ c2_ s24 _).trans ?_
      kernel_rfl
  · refine ((exit_eq (j := 0))).trans ?_
    refine seqC_exit.trans ?_
    kernel_rfl
theorem c1p : R1 C1.r.l.r.b (S1_1 l_ c1_ c2_) q = Option.bind (iterN (a3z l_ c1_ c2_) LL (0 : Int)) (either (fun y29 : Int => q (.exit 0) (S1_5 l_ c1_ c2_ y29)) (fun y30 : Unit => q .ret S1_4)) :=
  Eq.trans (by kernel_rfl) (loop_iter2 (S := fun s24 : Int => (S1_2 l_ c1_ c2_ s24)) (Y1 := fun y29 : Int => ((.exit 0), (S1_5 l_ c1_ c2_ y29))) (Y2 := fun y30 : Unit => (.ret, S1_4)) (fun s q => b8k l_ c1_ c2_ s q) (fun z => rfl) (fun z => rfl) LL (0 : Int))
theorem b8j : P1 1 C1.r.r ⟨[], [], [], 22⟩ k = k ⟨[(4, rb true)], [], [], 22⟩ := by kernel_rfl
/-- quilt/shape.within$1 -/
def a0t : Option Bool := (Option.bind (iterN (a3z l_ c1_ c2_) LL (0 : Int)) (either (fun y29 : Int => (some true)) (fun y30 : Unit => (some false))))
theorem c1o : stepS E cp1 noE 92 [rl (.one (.int .i64)) l_, .one (.cell [di c1_]), .one (.cell [di c2_])] = Option.bind (a0t l_ c1_ c2_) (fun y : Bool => some (rb y : R)) := by
  refine .trans ?_ (bind_b (either_b (fun y29 => some_b) (fun y30 => some_b)))
  refine (stepG_is (nt := 22) (regs := [(0, rl (.one (.int .i64)) l_), (1, .one (.cell [di c1_])), (2, .one (.cell [di c2_]))])).trans ?_
  refine (pre1 (c1l l_ c1_ c2_ _)).trans ?_
  refine .trans seq_push ?_
  refine (pre1 (c1m l_ c1_ c2_ _)).trans ?_
  refine (block_push (id := 0)).trans ?_
  refine (c1p l_ c1_ c2_ _).trans (bind_g (either_g (fun y29 => ?_) (fun y30 => ?_)))
  · refine block_same.trans ?_
    refine (seqC_normal (st' := ⟨[], [], [], 22⟩)).trans ?_
    refine (pre1 (b8j _)).trans ?_
    refine (ret_eq).trans ?_
    kernel_rfl
  · refine block_ret.trans ?_
    refine seqC_ret.trans ?_
    kernel_rfl
noncomputable def cp2 : CallP := withC cp1 92 [(.one (.g (.sl (.one (.int .i64))))), (.one (.cell (.cons (.g (.int .i64)) .nil))), (.one (.cell (.cons (.g (.int .i64)) .nil)))] (.one pB) (fun y : Bool => y) (fun x => a0t x.1 x.2.1.1 x.2.2.1.1)
theorem e6b : PureOK E cp2 := conS eok e6a noE_ok fun x => Eq.mp (by kernel_rfl) (c1o x.1 x.2.1.1 x.2.2.1.1)
end
noncomputable abbrev C2 := codeOf E.P 52
noncomputable abbrev P2 {α : Type} := @preK α E 52 cp2 noE
def b61 (s_ : I3) : Option Bool := (Option.bind (a0t [s_.1, s_.2.1] (((a0b (1 : Int) (16 : Int)).1).1) (((a0b (1 : Int) (16 : Int)).2.1).1)) (fun y31 : Bool => (bif y31 then (Option.bind (a0t [s_.2.2] (((a0b (1 : Int) (8 : Int)).1).1) (((a0b (1 : Int) (8 : Int)).2.1).1)) (fun y32 : Bool => (some y32))) else (some false))))
theorem e10 {α : Type} (s_ : I3) (k : St → Option α) : P2 2 C2 ⟨[(0, rA tsI3 s_)], [], [], 17⟩ k = Option.bind (b61 s_) (fun y33 : Bool => k ⟨[(2, rb y33)], [], [], 17⟩) := .trans (by kernel_rfl) (bind_b fun y31 => (bif_b (bind_b fun y32 => some_b) some_b))
/-- quilt/shape.may -/
def a4w (s_ : I3) : Option Bool := (Option.bind (b61 s_) (fun y33 : Bool => (some y33)))
theorem e0z (s_ : I3) : stepS E cp2 noE 52 [rA tsI3 s_] = Option.bind (a4w s_) (fun y : Bool => some (rb y : R)) := by
  refine .trans ?_ (bind_b fun y33 => some_b)
  refine (stepG_is (nt := 17) (regs := [(0, rA tsI3 s_)])).trans ?_
  refine (pre2 (e10 s_ _)).trans (bind_g fun y33 => ?_)
  refine (ret_eq).trans ?_
  kernel_rfl
noncomputable def cp3 : CallP := withC cp2 52 [(.agg tsI3)] (.one pB) (fun y : Bool => y) (fun x => a4w x.1)
theorem e6c : PureOK E cp3 := conS eok e6b noE_ok fun x => Eq.mp (by kernel_rfl) (e0z x.1)
noncomputable abbrev C3 := codeOf E.P 38
noncomputable abbrev P3 {α : Type} := @preK α E 38 cp3 noE
theorem e0m {α : Type} (s_ : I3) (k : St → Option α) : P3 1 C3 ⟨[(0, rA tsI3 s_)], [], [], 6⟩ k = k ⟨[(1, rC tsI3 s_)], [], [], 6⟩ := by kernel_rfl
theorem e0p {α : Type} (s_ : I3) (k : St → Option α) : P3 1 C3.r.l ⟨[(1, rC tsI3 s_)], [], [], 6⟩ k = Option.bind (a4w s_) fun y35 : Bool => k ⟨[(5, rb (!y35))], [], [], 6⟩ := by kernel_rfl
theorem e0n {α : Type} (k : St → Option α) : P3 1 C3.r.l.r.t ⟨[], [], [], 6⟩ k = k ⟨[(2, ri 10)], [], [], 6⟩ := by kernel_rfl
theorem d2j {α : Type} (k : St → Option α) : P3 1 C3.r.r ⟨[], [], [], 6⟩ k = k ⟨[(2, ri 0)], [], [], 6⟩ := by kernel_rfl
/-- quilt/shape.May -/
def a38 (s_ : I3) : Option Int := (Option.bind (a4w s_) (fun y35 : Bool => (bif (!y35) then (some (10 : Int)) else (some (0 : Int)))))
theorem e0o (s_ : I3) : stepS E cp3 noE 38 [rA tsI3 s_] = Option.bind (a38 s_) (fun y : Int => some (ri y : R)) := by
  refine .trans ?_ (bind_b fun y35 => (bif_b some_b some_b))
  refine (stepG_is (nt := 6) (regs := [(0, rA tsI3 s_)])).trans ?_
  refine (pre1 (e0m s_ _)).trans ?_
  refine .trans seq_push ?_
  refine (pre1 (e0p s_ _)).trans (bind_g fun y35 => ?_)
  refine (cond_e (b := (!y35)) (st' := ⟨[], [], [], 6⟩) ).trans (bif_g ?_ ?_)
  · refine (pre1 (e0n _)).trans ?_
    refine (ret_eq).trans ?_
    refine seqC_ret.trans ?_
    kernel_rfl
  · refine (skip_eq).trans ?_
    refine (seqC_normal (st' := ⟨[], [], [], 6⟩)).trans ?_
    refine (pre1 (d2j _)).trans ?_
    refine (ret_eq).trans ?_
    kernel_rfl
noncomputable def cp4 : CallP := withC cp3 38 [(.agg tsI3)] (.one pI) (fun y : Int => y) (fun x => a38 x.1)
theorem e6d : PureOK E cp4 := conS eok e6c noE_ok fun x => Eq.mp (by kernel_rfl) (e0o x.1)
section
variable {α β : Type} (x_ : Int) (low : Int) (high : Int) (k : St → Option α)
noncomputable abbrev C4 := codeOf E.P 39
noncomputable abbrev P4 := @preK α E 39 cp4 noE
def a9z (K : Bool → β) : β := (bif (decide (x_ ≥ low)) then (K (decide (x_ ≤ high))) else (K false))
def a5c : Bool := a9z x_ low high (fun y => y)
theorem c0u (K : Bool → β) : a9z x_ low high K = K (a5c x_ low high) := (bif_k K rfl rfl)
theorem c68 : P4 2 C4 ⟨[(0, ri x_), (1, ri low), (2, ri high)], [], [], 15⟩ k = k ⟨[(6, rb (a5c x_ low high))], [], [], 15⟩ := Eq.trans (by kernel_rfl) (c0u x_ low high (fun y37 : Bool => k ⟨[(6, rb y37)], [], [], 15⟩))
/-- quilt/graph.within -/
def a8b (K : Bool → β) : β := (K (a5c x_ low high))
def a0j : Bool := a8b x_ low high (fun y => y)
theorem c9i (K : Bool → β) : a8b x_ low high K = K (a0j x_ low high) := rfl
theorem c67 : stepS E cp4 noE 39 [ri x_, ri low, ri high] = (fun y : Bool => some (rb y : R)) (a0j x_ low high) := by
  refine Eq.trans ?_ (c9i x_ low high (fun y : Bool => some (rb y : R)))
  refine (stepG_is (nt := 15) (regs := [(0, ri x_), (1, ri low), (2, ri high)])).trans ?_
  unfold a8b
  refine (pre2 (c68 x_ low high _)).trans ?_
  refine (ret_eq).trans ?_
  kernel_rfl
noncomputable def cp5 : CallP := withC cp4 39 [pI, pI, pI] (.one pB) (fun y : Bool => y) (fun x => some (a0j x.1 x.2.1 x.2.2.1))
theorem e41 : PureOK E cp5 := conS eok e6d noE_ok fun x => Eq.mp (by kernel_rfl) (c67 x.1 x.2.1 x.2.2.1)
end
/-- slices.Clone -/
def a0n (s_ : (List I4)) : Option (List I4) := bif s_.isEmpty then some [] else bif decide (([] : (List I4)).length + s_.length ≤ maxL) then some ([] ++ s_) else none
theorem a5j (s_ : (List I4)) : stepO E cp5 noE 40 [.one (dl tsI4 s_)] = Option.bind (a0n s_) (fun y : (List I4) => some (.one (.ow tsI4 y (.s 0)))) := by
  cases s_ with
  | nil =>
    have h : stepO E cp5 noE 40 [.one (dl tsI4 [])] = both (some (.one (.ow tsI4 [] (.s 0)))) (some (.one (.ow tsI4 [] (.s 0)))) := by kernel_rfl
    exact h.trans (if_pos rfl)
  | cons x l =>
    have h : stepO E cp5 noE 40 [.one (dl tsI4 (x :: l))] = bif decide (([] : (List I4)).length + (x :: l).length ≤ maxL) then some (.one (.ow tsI4 ([] ++ (x :: l)) (.s 0))) else none := by kernel_rfl
    refine h.trans ?_
    show _ = Option.bind (bif decide (([] : (List I4)).length + (x :: l).length ≤ maxL) then some ([] ++ (x :: l)) else none) _
    cases decide (([] : (List I4)).length + (x :: l).length ≤ maxL) <;> rfl
theorem a5o (x : denL [(.one (.g (.sl tsI4)))]) : stepO E cp5 noE 40 (encL [(.one (.g (.sl tsI4)))] x) = (a0n x.1).bind fun y => some (Po.enc (.one (.one (.ow tsI4))) y) := Eq.mp (by kernel_rfl) (a5j x.1)
noncomputable def cp6 : CallP := withC cp5 40 [(.one (.g (.sl tsI4)))] (.one (.one (.ow tsI4))) (fun y => y) (fun x => a0n x.1)
theorem e6e : PureOK E cp6 := withC_ok e41 (stepO_ok eok e41 noE_ok) fun x => con_of (enc := fun y => Po.enc (.one (.one (.ow tsI4))) y) (a5o x)
section
variable {α β : Type} (g_ : Graph) (s52 : Int) (k : St → Option α) (q : Kont α)
noncomputable abbrev C6 := codeOf E.P 27
noncomputable abbrev P6 := @preK α E 27 cp6 noE
noncomputable abbrev R6 := @runCode α E 27 cp6 noE
abbrev S6_0 : St := ⟨[(1, rC a01 g_)], [], [], 55⟩
theorem c5l : P6 1 C6 ⟨[(0, rA a01 g_)], [], [], 55⟩ k = k (S6_0 g_) := by kernel_rfl
def a9t (K : Bool → β) : β := (bif (decide ((g_.1.length : Int) > 4)) then (K true) else (bif (decide ((g_.2.1.length : Int) > 12)) then (K true) else (K (decide ((g_.2.2.length : Int) > 4)))))
def a2n : Bool := a9t g_ (fun y => y)
theorem c05 (K : Bool → β) : a9t g_ K = K (a2n g_) := (bif_k K rfl (bif_k K rfl rfl))
theorem c5q : P6 1 C6.r.l.b (S6_0 g_) k = k ⟨[(1, rC a01 g_), (6, rb (a2n g_))], [], [], 55⟩ := Eq.trans (by kernel_rfl) (c05 g_ (fun y3 : Bool => k ⟨[(1, rC a01 g_), (6, rb y3)], [], [], 55⟩))
theorem c5n : P6 1 C6.r.l.b.r.t (S6_0 g_) k = k ⟨[(2, .one (.ow tsI4 [] (.v 2))), (3, ri 3)], [], [], 55⟩ := by kernel_rfl
def a9u (K : Bool → β) : β := (bif ((g_.1.length : Int) == 0) then (K true) else (K ((g_.2.2.length : Int) == 0)))
def a2o : Bool := a9u g_ (fun y => y)
theorem c06 (K : Bool → β) : a9u g_ K = K (a2o g_) := (bif_k K rfl rfl)
theorem c5r : P6 1 C6.r.l.b.r.e (S6_0 g_) k = k ⟨[(1, rC a01 g_), (23, rb (a2o g_))], [], [], 55⟩ := Eq.trans (by kernel_rfl) (c06 g_ (fun y4 : Bool => k ⟨[(1, rC a01 g_), (23, rb y4)], [], [], 55⟩))
theorem c00 : P6 1 C6.r.l.b.r.e.r.t (S6_0 g_) k = k ⟨[(2, .one (.ow tsI4 [] (.v 2))), (3, ri 13)], [], [], 55⟩ := by kernel_rfl
abbrev S6_1 : St := ⟨[(1, rC a01 g_), (35, rl tsI4 g_.1), (36, ri (g_.1.length : Int)), (37, ri 0)], [], [], 55⟩
theorem c5m : P6 1 C6.r.r.l (S6_0 g_) k = k (S6_1 g_) := by kernel_rfl
abbrev S6_2 : St := ⟨[(1, rC a01 g_), (35, rl tsI4 g_.1), (36, ri (g_.1.length : Int)), (37, ri s52)], [], [], 55⟩
theorem c01 : P6 1 C6.r.r.l.r.b.b (S6_2 g_ s52) k = k ⟨[(1, rC a01 g_), (35, rl tsI4 g_.1), (36, ri (g_.1.length : Int)), (37, ri s52), (38, rb (decide (s52 < (g_.1.length : Int))))], [], [], 55⟩ := by kernel_rfl
def a9v : Option Unit := (bif (decide ((0 : Int) ≤ s52)) then (bif (decide (s52 < (g_.1.length : Int))) then (some ()) else none) else none)
abbrev S6_3 : St := ⟨[(1, rC a01 g_), (5, rF 0), (35, rl tsI4 g_.1), (36, ri (g_.1.length : Int)), (37, ri s52)], [(tsI4.leaves (gt g_.1 s52 dI4))], [], 55⟩
theorem c5s : P6 1 C6.r.r.l.r.b.b.r.r.l.b (S6_2 g_ s52) k = Option.bind (a9v g_ s52) (fun y55 : Unit => k (S6_3 g_ s52)) := .trans (by kernel_rfl) (bif_b (bif_b some_b none_b) none_b)
theorem c5t : P6 1 C6.r.r.l.r.b.b.r.r.l.b.r.b (S6_3 g_ s52) k = Option.bind (a38 ((gt g_.1 s52 dI4).1, (gt g_.1 s52 dI4).2.1, (gt g_.1 s52 dI4).2.2.1)) fun y56 : Int => k ⟨[(1, rC a01 g_), (5, rF 0), (35, rl tsI4 g_.1), (36, ri (g_.1.length : Int)), (37, ri s52), (41, rb (y56 != 0))], [(tsI4.leaves (gt g_.1 s52 dI4))], [], 55⟩ := by kernel_rfl
theorem c02 : P6 1 C6.r.r.l.r.b.b.r.r.l.b.r.b.r.t (S6_3 g_ s52) k = k ⟨[(2, .one (.ow tsI4 [] (.v 2))), (3, ri 10)], [[]], [], 55⟩ := by kernel_rfl
theorem b59 : P6 1 C6.r.r.l.r.b.b.r.r.l.b.r.b.r.e (S6_3 g_ s52) k = k ⟨[(1, rC a01 g_), (35, rl tsI4 g_.1), (36, ri (g_.1.length : Int)), (37, ri s52), (46, rb (!(a0j ((gt g_.1 s52 dI4).2.2.2) (-128 : Int) (127 : Int))))], [[]], [], 55⟩ := by kernel_rfl
abbrev S6_4 : St := ⟨[(1, rC a01 g_), (35, rl tsI4 g_.1), (36, ri (g_.1.length : Int)), (37, ri s52)], [[]], [], 55⟩
theorem c03 : P6 1 C6.r.r.l.r.b.b.r.r.l.b.r.b.r.e.r.t (S6_4 g_ s52) k = k ⟨[(2, .one (.ow tsI4 [] (.v 2))), (3, ri 11)], [[]], [], 55⟩ := by kernel_rfl
theorem c2g : R6 C6.r.r.l.r.b.b.r.r.r (S6_4 g_ s52) q = q .normal ⟨[(1, rC a01 g_), (35, rl tsI4 g_.1), (36, ri (g_.1.length : Int)), (37, ri (IntKind.wrap .i64 (s52 + 1)))], [[]], [], 55⟩ := by kernel_rfl
def a5a : Option (Int ⊕ (Int ⊕ Int)) := (bif (decide (s52 < (g_.1.length : Int))) then (Option.bind (a9v g_ s52) (fun y55 : Unit => (Option.bind (a38 ((gt g_.1 s52 dI4).1, (gt g_.1 s52 dI4).2.1, (gt g_.1 s52 dI4).2.2.1)) (fun y56 : Int => (bif (y56 != 0) then (some (Sum.inr (Sum.inr (10 : Int)))) else (bif (!(a0j ((gt g_.1 s52 dI4).2.2.2) (-128 : Int) (127 : Int))) then (some (Sum.inr (Sum.inr (11 : Int)))) else (some (Sum.inl (IntKind.wrap .i64 (s52 + 1)))))))))) else (some (Sum.inr (Sum.inl s52))))
abbrev S6_5 (y57 : Int) : St := ⟨[(1, rC a01 g_), (35, rl tsI4 g_.1), (36, ri (g_.1.length : Int)), (37, ri y57)], [], [], 55⟩
abbrev S6_6 (y58 : Int) : St := ⟨[(2, .one (.ow tsI4 [] (.v 2))), (3, ri y58)], [[]], [], 55⟩
theorem c04 : R6 C6.r.r.l.r.b.b (S6_2 g_ s52) (loopKont 0 q) = Option.bind (a5a g_ s52) (either (fun y : Int => q .normal ⟨[(1, rC a01 g_), (35, rl tsI4 g_.1), (36, ri (g_.1.length : Int)), (37, ri y)], [], [], 55⟩) (either (fun y57 : Int => q (.exit 1) (S6_5 g_ y57)) (fun y58 : Int => q .ret (S6_6 y58)))) := by
  refine .trans ?_ (bif_b (bind_b fun y55 => (bind_b fun y56 => (bif_b e3_2 (bif_b e3_2 e3_0)))) e3_1)
  refine (pre1 (c01 g_ s52 _)).trans ?_
  refine .trans seq_push ?_
  refine (cond_e (b := (decide (s52 < (g_.1.length : Int)))) (st' := (S6_2 g_ s52)) ).trans (bif_g ?_ ?_)
  · refine (skip_eq).trans ?_
    refine (seqC_normal (st' := (S6_2 g_ s52))).trans ?_
    refine .trans seq_push ?_
    refine (block_push (id := 2)).trans ?_
    refine (pre1 (c5s g_ s52 _)).trans (bind_g fun y55 => ?_)
    refine (block_push (id := 3)).trans ?_
    refine (pre1 (c5t g_ s52 _)).trans (bind_g fun y56 => ?_)
    refine (cond_e (b := (y56 != 0)) (st' := (S6_3 g_ s52)) ).trans (bif_g ?_ ?_)
    · refine (pre1 (c02 g_ s52 _)).trans ?_
      refine (ret_eq).trans ?_
      refine block_ret.trans ?_
      refine block_ret.trans ?_
      refine seqC_ret.trans ?_
      kernel_rfl
    · refine (pre1 (b59 g_ s52 _)).trans ?_
      refine (cond_e (b := (!(a0j ((gt g_.1 s52 dI4).2.2.2) (-128 : Int) (127 : Int)))) (st' := (S6_4 g_ s52)) ).trans (bif_g ?_ ?_)
      · refine (pre1 (c03 g_ s52 _)).trans ?_
        refine (ret_eq).trans ?_
        refine block_ret.trans ?_
        refine block_ret.trans ?_
        refine seqC_ret.trans ?_
        kernel_rfl
      · refine (skip_eq).trans ?_
        refine block_normal.trans ?_
        refine block_normal.trans ?_
        refine (seqC_normal (st' := (S6_4 g_ s52))).trans ?_
        refine (c2g g_ s52 _).trans ?_
        kernel_rfl
  · refine ((exit_eq (j := 1))).trans ?_
    refine seqC_exit.trans ?_
    kernel_rfl
theorem c5p : R6 C6.r.r.l.r.b (S6_1 g_) q = Option.bind (iterN (a5a g_) LL (0 : Int)) (either (fun y57 : Int => q (.exit 1) (S6_5 g_ y57)) (fun y58 : Int => q .ret (S6_6 y58))) :=
  Eq.trans (by kernel_rfl) (loop_iter2 (S := fun s52 : Int => (S6_2 g_ s52)) (Y1 := fun y57 : Int => ((.exit 1), (S6_5 g_ y57))) (Y2 := fun y58 : Int => (.ret, (S6_6 y58))) (fun s q => c04 g_ s q) (fun z => rfl) (fun z => rfl) LL (0 : Int))
theorem c2h : P6 1 C6.r.r.r (S6_0 g_) k = Option.bind (a0n g_.1) fun y59 : (List I4) => k ⟨[(2, rO tsI4 y59 2), (3, ri 0)], [], [], 55⟩ := by kernel_rfl
/-- quilt/graph.goesIn -/
def a70 : Option ((List I4) × Int) := (bif (a2n g_) then (some ([], (3 : Int))) else (bif (a2o g_) then (some ([], (13 : Int))) else (Option.bind (iterN (a5a g_) LL (0 : Int)) (either (fun y57 : Int => (Option.bind (a0n g_.1) (fun y59 : (List I4) => (some (y59, (0 : Int)))))) (fun y58 : Int => (some ([], y58)))))))
theorem c5o : stepO E cp6 noE 27 [rA a01 g_] = Option.bind (a70 g_) (fun y : ((List I4) × Int) => some (.tup [.one (.ow tsI4 y.1 (.s 0)), ri y.2] : R)) := by
  refine .trans ?_ (bif_b some_b (bif_b some_b (bind_b (either_b (fun y57 => (bind_b fun y59 => some_b)) (fun y58 => some_b)))))
  refine (stepG_is (nt := 55) (regs := [(0, rA a01 g_)])).trans ?_
  refine (pre1 (c5l g_ _)).trans ?_
  refine .trans seq_push ?_
  refine (block_push (id := 0)).trans ?_
  refine (pre1 (c5q g_ _)).trans ?_
  refine (cond_e (b := (a2n g_)) (st' := (S6_0 g_)) ).trans (bif_g ?_ ?_)
  · refine (pre1 (c5n g_ _)).trans ?_
    refine (ret_eq).trans ?_
    refine block_ret.trans ?_
    refine seqC_ret.trans ?_
    kernel_rfl
  · refine (pre1 (c5r g_ _)).trans ?_
    refine (cond_e (b := (a2o g_)) (st' := (S6_0 g_)) ).trans (bif_g ?_ ?_)
    · refine (pre1 (c00 g_ _)).trans ?_
      refine (ret_eq).trans ?_
      refine block_ret.trans ?_
      refine seqC_ret.trans ?_
      kernel_rfl
    · refine (skip_eq).trans ?_
      refine block_normal.trans ?_
      refine (seqC_normal (st' := (S6_0 g_))).trans ?_
      refine .trans seq_push ?_
      refine (pre1 (c5m g_ _)).trans ?_
      refine (block_push (id := 1)).trans ?_
      refine (c5p g_ _).trans (bind_g (either_g (fun y57 => ?_) (fun y58 => ?_)))
      · refine block_same.trans ?_
        refine (seqC_normal (st' := (S6_0 g_))).trans ?_
        refine (pre1 (c2h g_ _)).trans (bind_g fun y59 => ?_)
        refine (ret_eq).trans ?_
        kernel_rfl
      · refine block_ret.trans ?_
        refine seqC_ret.trans ?_
        kernel_rfl
noncomputable def cp7 : CallP := withC cp6 27 [(.agg a01)] (.tup [(.one (.ow tsI4)), pI]) (fun y : ((List I4) × Int) => (y.1, y.2, ())) (fun x => a70 x.1)
theorem e6f : PureOK E cp7 := conO eok e6e noE_ok fun x => Eq.mp (by kernel_rfl) (c5o x.1)
end
section
variable {α β : Type} (vals : (List I4)) (l_ : (List Int)) (s92 : ((List I4) × Int)) (y101 : ((List I4) × Int)) (k : St → Option α) (q : Kont α)
noncomputable abbrev C7 := codeOf E.P 28
noncomputable abbrev P7 := @preK α E 28 cp7 noE
noncomputable abbrev R7 := @runCode α E 28 cp7 noE
abbrev S7_0 : St := ⟨[(0, rl tsI4 vals), (1, rl (.one (.int .i64)) l_), (4, .one (.ow tsI4 [] (.v 4)))], [], [], 29⟩
theorem c5v : P7 1 C7 ⟨[(0, rl tsI4 vals), (1, rl (.one (.int .i64)) l_)], [], [], 29⟩ k = k (S7_0 vals l_) := by kernel_rfl
abbrev S7_1 : St := ⟨[(0, rl tsI4 vals), (4, .one (.ow tsI4 [] (.v 4))), (8, rl (.one (.int .i64)) l_), (9, ri (l_.length : Int)), (10, ri 0)], [], [], 29⟩
theorem c5w : P7 1 C7.r.l (S7_0 vals l_) k = k (S7_1 vals l_) := by kernel_rfl
abbrev S7_2 : St := ⟨[(0, rl tsI4 vals), (4, rO tsI4 s92.1 4), (8, rl (.one (.int .i64)) l_), (9, ri (l_.length : Int)), (10, ri s92.2)], [], [], 29⟩
theorem c5x : P7 1 C7.r.l.r.b.b (S7_2 vals l_ s92) k = k ⟨[(0, rl tsI4 vals), (4, rO tsI4 s92.1 4), (8, rl (.one (.int .i64)) l_), (9, ri (l_.length : Int)), (10, ri s92.2), (11, rb (decide (s92.2 < (l_.length : Int))))], [], [], 29⟩ := by kernel_rfl
def a9w : Option Unit := (bif (decide ((0 : Int) ≤ s92.2)) then (bif (decide (s92.2 < (l_.length : Int))) then (some ()) else none) else none)
abbrev S7_3 : St := ⟨[(0, rl tsI4 vals), (4, rO tsI4 s92.1 4), (7, ri (gt l_ s92.2 (0 : Int))), (8, rl (.one (.int .i64)) l_), (9, ri (l_.length : Int)), (10, ri s92.2)], [], [], 29⟩
theorem c60 : P7 1 C7.r.l.r.b.b.r.r.l.b (S7_2 vals l_ s92) k = Option.bind (a9w l_ s92) (fun y97 : Unit => k (S7_3 vals l_ s92)) := .trans (by kernel_rfl) (bif_b (bif_b some_b none_b) none_b)
def a9x (K : Bool → β) : β := (K (!(a0j (gt l_ s92.2 (0 : Int)) (0 : Int) (IntKind.wrap .i64 ((vals.length : Int) - 1)))))
def a2p : Bool := a9x vals l_ s92 (fun y => y)
theorem c0t (K : Bool → β) : a9x vals l_ s92 K = K (a2p vals l_ s92) := rfl
theorem c61 : P7 1 C7.r.l.r.b.b.r.r.l.b.r.l (S7_3 vals l_ s92) k = k ⟨[(0, rl tsI4 vals), (4, rO tsI4 s92.1 4), (7, ri (gt l_ s92.2 (0 : Int))), (8, rl (.one (.int .i64)) l_), (9, ri (l_.length : Int)), (10, ri s92.2), (19, rb (a2p vals l_ s92))], [], [], 29⟩ := Eq.trans (by kernel_rfl) (c0t vals l_ s92 (fun y99 : Bool => k ⟨[(0, rl tsI4 vals), (4, rO tsI4 s92.1 4), (7, ri (gt l_ s92.2 (0 : Int))), (8, rl (.one (.int .i64)) l_), (9, ri (l_.length : Int)), (10, ri s92.2), (19, rb y99)], [], [], 29⟩))
abbrev S7_4 : St := ⟨[(4, .one (.ow tsI4 [] (.v 4))), (5, rb false)], [], [], 29⟩
theorem c0q : P7 1 C7.r.l.r.b.b.r.r.l.b.r.l.r.t (S7_3 vals l_ s92) k = k S7_4 := by kernel_rfl
def a9y : Option Unit := (bif (decide ((0 : Int) ≤ (gt l_ s92.2 (0 : Int)))) then (bif (decide ((gt l_ s92.2 (0 : Int)) < (vals.length : Int))) then (bif (decide (s92.1.length + ([(gt vals (gt l_ s92.2 (0 : Int)) dI4)] : List I4).length ≤ maxL)) then (some ()) else none) else none) else none)
abbrev S7_5 : St := ⟨[(0, rl tsI4 vals), (4, .one (.ow tsI4 (s92.1 ++ [(gt vals (gt l_ s92.2 (0 : Int)) dI4)]) (.v 4))), (8, rl (.one (.int .i64)) l_), (9, ri (l_.length : Int)), (10, ri s92.2)], [], [], 29⟩
theorem c62 : R7 C7.r.l.r.b.b.r.r.l.b.r.r (S7_3 vals l_ s92) q = Option.bind (a9y vals l_ s92) (fun y100 : Unit => q .normal (S7_5 vals l_ s92)) := .trans (by kernel_rfl) (bif_b (bif_b (bif_b some_b none_b) none_b) none_b)
theorem c63 : R7 C7.r.l.r.b.b.r.r.r (S7_5 vals l_ s92) q = q .normal ⟨[(0, rl tsI4 vals), (4, .one (.ow tsI4 (s92.1 ++ [(gt vals (gt l_ s92.2 (0 : Int)) dI4)]) (.v 4))), (8, rl (.one (.int .i64)) l_), (9, ri (l_.length : Int)), (10, ri (IntKind.wrap .i64 (s92.2 + 1)))], [], [], 29⟩ := by kernel_rfl
def a5b : Option (((List I4) × Int) ⊕ (((List I4) × Int) ⊕ Unit)) := (bif (decide (s92.2 < (l_.length : Int))) then (Option.bind (a9w l_ s92) (fun y97 : Unit => (bif (a2p vals l_ s92) then (some (Sum.inr (Sum.inr ()))) else (Option.bind (a9y vals l_ s92) (fun y100 : Unit => (some (Sum.inl ((s92.1 ++ [(gt vals (gt l_ s92.2 (0 : Int)) dI4)]), (IntKind.wrap .i64 (s92.2 + 1)))))))))) else (some (Sum.inr (Sum.inl s92))))
abbrev S7_6 : St := ⟨[(0, rl tsI4 vals), (4, rO tsI4 y101.1 4), (8, rl (.one (.int .i64)) l_), (9, ri (l_.length : Int)), (10, ri y101.2)], [], [], 29⟩
theorem c0s : R7 C7.r.l.r.b.b (S7_2 vals l_ s92) (loopKont 0 q) = Option.bind (a5b vals l_ s92) (either (fun y : ((List I4) × Int) => q .normal ⟨[(0, rl tsI4 vals), (4, rO tsI4 y.1 4), (8, rl (.one (.int .i64)) l_), (9, ri (l_.length : Int)), (10, ri y.2)], [], [], 29⟩) (either (fun y101 : ((List I4) × Int) => q (.exit 0) (S7_6 vals l_ y101)) (fun y102 : Unit => q .ret S7_4))) := by
  refine .trans ?_ (bif_b (bind_b fun y97 => (bif_b e3_2 (bind_b fun y100 => e3_0))) e3_1)
  refine (pre1 (c5x vals l_ s92 _)).trans ?_
  refine .trans seq_push ?_
  refine (cond_e (b := (decide (s92.2 < (l_.length : Int)))) (st' := (S7_2 vals l_ s92)) ).trans (bif_g ?_ ?_)
  · refine (skip_eq).trans ?_
    refine (seqC_normal (st' := (S7_2 vals l_ s92))).trans ?_
    refine .trans seq_push ?_
    refine (block_push (id := 1)).trans ?_
    refine (pre1 (c60 vals l_ s92 _)).trans (bind_g fun y97 => ?_)
    refine .trans seq_push ?_
    refine (pre1 (c61 vals l_ s92 _)).trans ?_
    refine (cond_e (b := (a2p vals l_ s92)) (st' := (S7_3 vals l_ s92)) ).trans (bif_g ?_ ?_)
    · refine (pre1 (c0q vals l_ s92 _)).trans ?_
      refine (ret_eq).trans ?_
      refine seqC_ret.trans ?_
      refine block_ret.trans ?_
      refine seqC_ret.trans ?_
      kernel_rfl
    · refine (skip_eq).trans ?_
      refine (seqC_normal (st' := (S7_3 vals l_ s92))).trans ?_
      refine (c62 vals l_ s92 _).trans (bind_g fun y100 => ?_)
      refine block_normal.trans ?_
      refine (seqC_normal (st' := (S7_5 vals l_ s92))).trans ?_
      refine (c63 vals l_ s92 _).trans ?_
      kernel_rfl
  · refine ((exit_eq (j := 0))).trans ?_
    refine seqC_exit.trans ?_
    kernel_rfl
theorem c5z : R7 C7.r.l.r.b (S7_1 vals l_) q = Option.bind (iterN (a5b vals l_) LL ([], (0 : Int))) (either (fun y101 : ((List I4) × Int) => q (.exit 0) (S7_6 vals l_ y101)) (fun y102 : Unit => q .ret S7_4)) :=
  Eq.trans (by kernel_rfl) (loop_iter2 (S := fun s92 : ((List I4) × Int) => (S7_2 vals l_ s92)) (Y1 := fun y101 : ((List I4) × Int) => ((.exit 0), (S7_6 vals l_ y101))) (Y2 := fun y102 : Unit => (.ret, S7_4)) (fun s q => c0s vals l_ s q) (fun z => rfl) (fun z => rfl) LL ([], (0 : Int)))
theorem c0r : P7 1 C7.r.r ⟨[(4, rO tsI4 y101.1 4)], [], [], 29⟩ k = k ⟨[(4, rO tsI4 y101.1 4), (5, rb true)], [], [], 29⟩ := by kernel_rfl
/-- quilt/graph.picked -/
def a2u : Option ((List I4) × Bool) := (Option.bind (iterN (a5b vals l_) LL ([], (0 : Int))) (either (fun y101 : ((List I4) × Int) => (some (y101.1, true))) (fun y102 : Unit => (some ([], false)))))
theorem c5y : stepO E cp7 noE 28 [rl tsI4 vals, rl (.one (.int .i64)) l_] = Option.bind (a2u vals l_) (fun y : ((List I4) × Bool) => some (.tup [.one (.ow tsI4 y.1 (.s 0)), rb y.2] : R)) := by
  refine .trans ?_ (bind_b (either_b (fun y101 => some_b) (fun y102 => some_b)))
  refine (stepG_is (nt := 29) (regs := [(0, rl tsI4 vals), (1, rl (.one (.int .i64)) l_)])).trans ?_
  refine (pre1 (c5v vals l_ _)).trans ?_
  refine .trans seq_push ?_
  refine (pre1 (c5w vals l_ _)).trans ?_
  refine (block_push (id := 0)).trans ?_
  refine (c5z vals l_ _).trans (bind_g (either_g (fun y101 => ?_) (fun y102 => ?_)))
  · refine block_same.trans ?_
    refine (seqC_normal (st' := ⟨[(4, rO tsI4 y101.1 4)], [], [], 29⟩)).trans ?_
    refine (pre1 (c0r y101 _)).trans ?_
    refine (ret_eq).trans ?_
    kernel_rfl
  · refine block_ret.trans ?_
    refine seqC_ret.trans ?_
    kernel_rfl
noncomputable def cp8 : CallP := withC cp7 28 [(pL tsI4), (.one (.g (.sl (.one (.int .i64)))))] (.tup [(.one (.ow tsI4)), pB]) (fun y : ((List I4) × Bool) => (y.1, y.2, ())) (fun x => a2u x.1 x.2.1)
theorem e6g : PureOK E cp8 := conO eok e6f noE_ok fun x => Eq.mp (by kernel_rfl) (c5y x.1 x.2.1)
end
section
variable {α β : Type} (op : Int) (y106 : U12) (k : St → Option α) (q : Kont α)
noncomputable abbrev C8 := codeOf E.P 41
noncomputable abbrev P8 := @preK α E 41 cp8 noE
noncomputable abbrev R8 := @runCode α E 41 cp8 noE
noncomputable abbrev Q8 := @seqC α E 41 cp8 noE
abbrev S8_0 : St := ⟨[(0, ri op), (2, rF 0), (4, rF 1)], [[di 0, db false, db false, db false, db false, db false, .nilFn, .nilFn], [di 1, db false, db false, db false, db false, db false, .fn 53 [], .fn 54 []]], [], 58⟩
theorem e1e : P8 2 C8 ⟨[(0, ri op)], [], [], 58⟩ k = k (S8_0 op) := by kernel_rfl
abbrev S8_1 : St := ⟨[(2, rF 0), (4, rF 1), (6, ri op)], [[di 0, db false, db false, db false, db false, db false, .nilFn, .nilFn], [di 1, db false, db false, db false, db false, db false, .fn 53 [], .fn 54 []]], [], 58⟩
theorem e1f : P8 1 C8.r.r.l (S8_0 op) k = k (S8_1 op) := by kernel_rfl
theorem c0g : P8 1 C8.r.r.l.r.b (S8_1 op) k = k ⟨[(2, rF 0), (4, rF 1), (6, ri op), (8, rb (op == 1))], [[di 0, db false, db false, db false, db false, db false, .nilFn, .nilFn], [di 1, db false, db false, db false, db false, db false, .fn 53 [], .fn 54 []]], [], 58⟩ := by kernel_rfl
abbrev S8_2 : St := ⟨[(2, rF 0), (4, rF 1)], [[di 0, db false, db false, db false, db false, db false, .nilFn, .nilFn], [di 1, db true, db true, db false, db true, db false, .fn 55 [], .fn 54 []]], [], 58⟩
theorem e1g : P8 2 C8.r.r.l.r.b.r.t (S8_1 op) k = k S8_2 := by kernel_rfl
abbrev S8_3 : St := ⟨[(2, rF 0), (4, rF 1)], [[di 0, db false, db false, db false, db false, db false, .nilFn, .nilFn], [di 1, db true, db true, db false, db true, db false, .fn 55 [], .fn 57 []]], [], 58⟩
theorem e1k : R8 C8.r.r.l.r.b.r.t.r.r S8_2 q = q .normal S8_3 := by kernel_rfl
theorem c0h : P8 1 C8.r.r.l.r.b.r.e (S8_1 op) k = k ⟨[(2, rF 0), (4, rF 1), (6, ri op), (15, rb (op == 2))], [[di 0, db false, db false, db false, db false, db false, .nilFn, .nilFn], [di 1, db false, db false, db false, db false, db false, .fn 53 [], .fn 54 []]], [], 58⟩ := by kernel_rfl
abbrev S8_4 : St := ⟨[(2, rF 0), (4, rF 1)], [[di 0, db false, db false, db false, db false, db false, .nilFn, .nilFn], [di 1, db true, db true, db false, db false, db false, .fn 58 [], .fn 54 []]], [], 58⟩
theorem d8h : P8 1 C8.r.r.l.r.b.r.e.r.t (S8_1 op) k = k S8_4 := by kernel_rfl
abbrev S8_5 : St := ⟨[(2, rF 0), (4, rF 1)], [[di 0, db false, db false, db false, db false, db false, .nilFn, .nilFn], [di 1, db true, db true, db false, db false, db false, .fn 58 [], .fn 59 []]], [], 58⟩
theorem d8m : R8 C8.r.r.l.r.b.r.e.r.t.r S8_4 q = q .normal S8_5 := by kernel_rfl
theorem c0i : P8 1 C8.r.r.l.r.b.r.e.r.e (S8_1 op) k = k ⟨[(2, rF 0), (4, rF 1), (6, ri op), (21, rb (op == 3))], [[di 0, db false, db false, db false, db false, db false, .nilFn, .nilFn], [di 1, db false, db false, db false, db false, db false, .fn 53 [], .fn 54 []]], [], 58⟩ := by kernel_rfl
abbrev S8_6 : St := ⟨[(2, rF 0), (4, rF 1)], [[di 0, db false, db false, db false, db false, db false, .nilFn, .nilFn], [di 1, db false, db false, db false, db true, db false, .fn 60 [], .fn 54 []]], [], 58⟩
theorem d8i : P8 2 C8.r.r.l.r.b.r.e.r.e.r.t (S8_1 op) k = k S8_6 := by kernel_rfl
abbrev S8_7 : St := ⟨[(2, rF 0), (4, rF 1)], [[di 0, db false, db false, db false, db false, db false, .nilFn, .nilFn], [di 1, db false, db false, db false, db true, db false, .fn 60 [], .fn 61 []]], [], 58⟩
theorem d8n : R8 C8.r.r.l.r.b.r.e.r.e.r.t.r.r S8_6 q = q .normal S8_7 := by kernel_rfl
abbrev S8_8 : St := ⟨[(2, rF 0), (4, rF 1), (6, ri op), (26, rb (op == 4))], [[di 0, db false, db false, db false, db false, db false, .nilFn, .nilFn], [di 1, db false, db false, db false, db false, db false, .fn 53 [], .fn 54 []]], [], 58⟩
theorem c0o : P8 1 C8.r.r.l.r.b.r.e.r.e.r.e.l (S8_1 op) k = k (S8_8 op) := by kernel_rfl
abbrev S8_9 : St := ⟨[(2, rF 0), (4, rF 1), (6, ri op), (26, rb (op == 5))], [[di 0, db false, db false, db false, db false, db false, .nilFn, .nilFn], [di 1, db false, db false, db false, db false, db false, .fn 53 [], .fn 54 []]], [], 58⟩
theorem d8o : R8 C8.r.r.l.r.b.r.e.r.e.r.e.l.r.e (S8_8 op) q = q .normal (S8_9 op) := by kernel_rfl
def a89 (K : Bool → β) : β := (bif (op == 4) then (K (op == 4)) else (K (op == 5)))
def a4y : Bool := a89 op (fun y => y)
theorem c9g (K : Bool → β) : a89 op K = K (a4y op) := (bif_k K rfl rfl)
abbrev S8_10 : St := ⟨[(2, rF 0), (4, rF 1), (6, ri op), (26, rb (a4y op))], [[di 0, db false, db false, db false, db false, db false, .nilFn, .nilFn], [di 1, db false, db false, db false, db false, db false, .fn 53 [], .fn 54 []]], [], 58⟩
theorem d8k : R8 C8.r.r.l.r.b.r.e.r.e.r.e.l (S8_1 op) (Q8 C8.r.r.l.r.b.r.e.r.e.r.e.r q) = R8 C8.r.r.l.r.b.r.e.r.e.r.e.r (S8_10 op) q := by
  refine Eq.trans ?_ (c9g op (fun y104 : Bool => R8 C8.r.r.l.r.b.r.e.r.e.r.e.r ⟨[(2, rF 0), (4, rF 1), (6, ri op), (26, rb y104)], [[di 0, db false, db false, db false, db false, db false, .nilFn, .nilFn], [di 1, db false, db false, db false, db false, db false, .fn 53 [], .fn 54 []]], [], 58⟩ q))
  unfold a89
  refine (pre1 (c0o op _)).trans ?_
  refine (cond_s (b := (op == 4)) ).trans (bif_g ?_ ?_)
  · refine (skip_eq).trans ?_
    refine (seqC_normal (st' := (S8_8 op))).trans ?_
    kernel_rfl
  · refine (d8o op _).trans ?_
    refine (seqC_normal (st' := (S8_9 op))).trans ?_
    kernel_rfl
abbrev S8_11 : St := ⟨[(2, rF 0), (4, rF 1)], [[di 0, db false, db false, db false, db false, db false, .nilFn, .nilFn], [di 1, db true, db false, db false, db false, db true, .fn 58 [], .fn 54 []]], [], 58⟩
theorem d8p : R8 C8.r.r.l.r.b.r.e.r.e.r.e.r.t (S8_10 op) q = q .normal S8_11 := by kernel_rfl
abbrev S8_12 : St := ⟨[(2, rF 0), (4, rF 1), (6, ri op), (32, rb (op == 6))], [[di 0, db false, db false, db false, db false, db false, .nilFn, .nilFn], [di 1, db false, db false, db false, db false, db false, .fn 53 [], .fn 54 []]], [], 58⟩
theorem c0p : P8 1 C8.r.r.l.r.b.r.e.r.e.r.e.r.e.l (S8_10 op) k = k (S8_12 op) := by kernel_rfl
abbrev S8_13 : St := ⟨[(2, rF 0), (4, rF 1), (6, ri op), (32, rb (op == 7))], [[di 0, db false, db false, db false, db false, db false, .nilFn, .nilFn], [di 1, db false, db false, db false, db false, db false, .fn 53 [], .fn 54 []]], [], 58⟩
theorem d8q : R8 C8.r.r.l.r.b.r.e.r.e.r.e.r.e.l.r.e (S8_12 op) q = q .normal (S8_13 op) := by kernel_rfl
def a8a (K : Bool → β) : β := (bif (op == 6) then (K (op == 6)) else (K (op == 7)))
def a4z : Bool := a8a op (fun y => y)
theorem c9h (K : Bool → β) : a8a op K = K (a4z op) := (bif_k K rfl rfl)
abbrev S8_14 : St := ⟨[(2, rF 0), (4, rF 1), (6, ri op), (32, rb (a4z op))], [[di 0, db false, db false, db false, db false, db false, .nilFn, .nilFn], [di 1, db false, db false, db false, db false, db false, .fn 53 [], .fn 54 []]], [], 58⟩
theorem d8l : R8 C8.r.r.l.r.b.r.e.r.e.r.e.r.e.l (S8_10 op) (Q8 C8.r.r.l.r.b.r.e.r.e.r.e.r.e.r q) = R8 C8.r.r.l.r.b.r.e.r.e.r.e.r.e.r (S8_14 op) q := by
  refine Eq.trans ?_ (c9h op (fun y105 : Bool => R8 C8.r.r.l.r.b.r.e.r.e.r.e.r.e.r ⟨[(2, rF 0), (4, rF 1), (6, ri op), (32, rb y105)], [[di 0, db false, db false, db false, db false, db false, .nilFn, .nilFn], [di 1, db false, db false, db false, db false, db false, .fn 53 [], .fn 54 []]], [], 58⟩ q))
  unfold a8a
  refine (pre1 (c0p op _)).trans ?_
  refine (cond_s (b := (op == 6)) ).trans (bif_g ?_ ?_)
  · refine (skip_eq).trans ?_
    refine (seqC_normal (st' := (S8_12 op))).trans ?_
    kernel_rfl
  · refine (d8q op _).trans ?_
    refine (seqC_normal (st' := (S8_13 op))).trans ?_
    kernel_rfl
abbrev S8_15 : St := ⟨[(2, rF 0), (4, rF 1)], [[di 0, db false, db false, db false, db false, db false, .nilFn, .nilFn], [di 2, db false, db false, db false, db false, db false, .fn 62 [], .fn 54 []]], [], 58⟩
theorem d8r : R8 C8.r.r.l.r.b.r.e.r.e.r.e.r.e.r.t (S8_14 op) q = q .normal S8_15 := by kernel_rfl
theorem c0j : P8 1 C8.r.r.l.r.b.r.e.r.e.r.e.r.e.r.e (S8_14 op) k = k ⟨[(2, rF 0), (4, rF 1), (6, ri op), (37, rb (op == 8))], [[di 0, db false, db false, db false, db false, db false, .nilFn, .nilFn], [di 1, db false, db false, db false, db false, db false, .fn 53 [], .fn 54 []]], [], 58⟩ := by kernel_rfl
abbrev S8_16 : St := ⟨[(2, rF 0), (4, rF 1)], [[di 0, db false, db false, db false, db false, db false, .nilFn, .nilFn], [di 1, db false, db false, db false, db false, db true, .fn 53 [], .fn 54 []]], [], 58⟩
theorem d8s : R8 C8.r.r.l.r.b.r.e.r.e.r.e.r.e.r.e.r.t (S8_1 op) q = q .normal S8_16 := by kernel_rfl
theorem c0k : P8 1 C8.r.r.l.r.b.r.e.r.e.r.e.r.e.r.e.r.e (S8_1 op) k = k ⟨[(2, rF 0), (4, rF 1), (6, ri op), (40, rb (op == 9))], [[di 0, db false, db false, db false, db false, db false, .nilFn, .nilFn], [di 1, db false, db false, db false, db false, db false, .fn 53 [], .fn 54 []]], [], 58⟩ := by kernel_rfl
abbrev S8_17 : St := ⟨[(2, rF 0), (4, rF 1)], [[di 0, db false, db false, db false, db false, db false, .nilFn, .nilFn], [di 1, db false, db false, db true, db false, db true, .fn 53 [], .fn 54 []]], [], 58⟩
theorem d8j : P8 1 C8.r.r.l.r.b.r.e.r.e.r.e.r.e.r.e.r.e.r.t (S8_1 op) k = k S8_17 := by kernel_rfl
abbrev S8_18 : St := ⟨[(2, rF 0), (4, rF 1)], [[di 0, db false, db false, db false, db false, db false, .nilFn, .nilFn], [di 1, db false, db false, db true, db false, db true, .fn 63 [], .fn 54 []]], [], 58⟩
theorem d8t : R8 C8.r.r.l.r.b.r.e.r.e.r.e.r.e.r.e.r.e.r.t.r S8_17 q = q .normal S8_18 := by kernel_rfl
theorem c0l : P8 1 C8.r.r.l.r.b.r.e.r.e.r.e.r.e.r.e.r.e.r.e (S8_1 op) k = k ⟨[(2, rF 0), (4, rF 1), (6, ri op), (45, rb (op == 10))], [[di 0, db false, db false, db false, db false, db false, .nilFn, .nilFn], [di 1, db false, db false, db false, db false, db false, .fn 53 [], .fn 54 []]], [], 58⟩ := by kernel_rfl
abbrev S8_19 : St := ⟨[(2, rF 0), (4, rF 1)], [[di 0, db false, db false, db false, db false, db false, .nilFn, .nilFn], [di 2, db false, db false, db false, db false, db true, .fn 64 [], .fn 54 []]], [], 58⟩
theorem d8u : R8 C8.r.r.l.r.b.r.e.r.e.r.e.r.e.r.e.r.e.r.e.r.t (S8_1 op) q = q .normal S8_19 := by kernel_rfl
theorem c0m : P8 1 C8.r.r.l.r.b.r.e.r.e.r.e.r.e.r.e.r.e.r.e.r.e (S8_1 op) k = k ⟨[(2, rF 0), (4, rF 1), (6, ri op), (50, rb (op == 11))], [[di 0, db false, db false, db false, db false, db false, .nilFn, .nilFn], [di 1, db false, db false, db false, db false, db false, .fn 53 [], .fn 54 []]], [], 58⟩ := by kernel_rfl
abbrev S8_20 : St := ⟨[(2, rF 0), (4, rF 1)], [[di 0, db false, db false, db false, db false, db false, .nilFn, .nilFn], [di 1, db false, db false, db false, db false, db true, .fn 65 [], .fn 54 []]], [], 58⟩
theorem d8v : R8 C8.r.r.l.r.b.r.e.r.e.r.e.r.e.r.e.r.e.r.e.r.e.r.t (S8_1 op) q = q .normal S8_20 := by kernel_rfl
theorem c0n : P8 1 C8.r.r.l.r.b.r.e.r.e.r.e.r.e.r.e.r.e.r.e.r.e.r.e (S8_1 op) k = k ⟨[(2, rF 0), (4, rF 1), (54, rb (op == 12))], [[di 0, db false, db false, db false, db false, db false, .nilFn, .nilFn], [di 1, db false, db false, db false, db false, db false, .fn 53 [], .fn 54 []]], [], 58⟩ := by kernel_rfl
abbrev S8_21 : St := ⟨[(2, rF 0), (4, rF 1)], [[di 0, db false, db false, db false, db false, db false, .nilFn, .nilFn], [di 1, db false, db false, db false, db false, db false, .fn 53 [], .fn 54 []]], [], 58⟩
abbrev S8_22 : St := ⟨[(2, rF 0), (4, rF 1)], [[di 0, db false, db false, db false, db false, db false, .nilFn, .nilFn], [di 1, db false, db false, db false, db false, db false, .fn 53 [], .fn 66 []]], [], 58⟩
theorem d8w : R8 C8.r.r.l.r.b.r.e.r.e.r.e.r.e.r.e.r.e.r.e.r.e.r.e.r.t S8_21 q = q .normal S8_22 := by kernel_rfl
abbrev S8_23 : St := ⟨[(2, rF 0), (3, rb false)], [[di 0, db false, db false, db false, db false, db false, .nilFn, .nilFn], []], [], 58⟩
theorem e1h : P8 1 C8.r.r.l.r.b.r.e.r.e.r.e.r.e.r.e.r.e.r.e.r.e.r.e.r.e S8_21 k = k S8_23 := by kernel_rfl
def b6t : Option (U12 ⊕ Unit) := (bif (op == 1) then (some (Sum.inl ((1 : Int), true, true, false, true, false, (Sum.inr (Sum.inl ())), (Sum.inr (Sum.inl ()))))) else (bif (op == 2) then (some (Sum.inl ((1 : Int), true, true, false, false, false, (Sum.inr (Sum.inr (Sum.inl ()))), (Sum.inr (Sum.inr (Sum.inl ())))))) else (bif (op == 3) then (some (Sum.inl ((1 : Int), false, false, false, true, false, (Sum.inr (Sum.inr (Sum.inr (Sum.inl ())))), (Sum.inr (Sum.inr (Sum.inr (Sum.inl ()))))))) else (bif (a4y op) then (some (Sum.inl ((1 : Int), true, false, false, false, true, (Sum.inr (Sum.inr (Sum.inl ()))), (Sum.inl ())))) else (bif (a4z op) then (some (Sum.inl ((2 : Int), false, false, false, false, false, (Sum.inr (Sum.inr (Sum.inr (Sum.inr (Sum.inl ()))))), (Sum.inl ())))) else (bif (op == 8) then (some (Sum.inl ((1 : Int), false, false, false, false, true, (Sum.inl ()), (Sum.inl ())))) else (bif (op == 9) then (some (Sum.inl ((1 : Int), false, false, true, false, true, (Sum.inr (Sum.inr (Sum.inr (Sum.inr (Sum.inr (Sum.inl ())))))), (Sum.inl ())))) else (bif (op == 10) then (some (Sum.inl ((2 : Int), false, false, false, false, true, (Sum.inr (Sum.inr (Sum.inr (Sum.inr (Sum.inr (Sum.inr (Sum.inl ()))))))), (Sum.inl ())))) else (bif (op == 11) then (some (Sum.inl ((1 : Int), false, false, false, false, true, (Sum.inr (Sum.inr (Sum.inr (Sum.inr (Sum.inr (Sum.inr (Sum.inr ()))))))), (Sum.inl ())))) else (bif (op == 12) then (some (Sum.inl ((1 : Int), false, false, false, false, false, (Sum.inl ()), (Sum.inr (Sum.inr (Sum.inr (Sum.inr ()))))))) else (some (Sum.inr ()))))))))))))
abbrev S8_24 : St := ⟨[(2, rF 0), (4, rF 1)], [[di 0, db false, db false, db false, db false, db false, .nilFn, .nilFn], [di y106.1, db y106.2.1, db y106.2.2.1, db y106.2.2.2.1, db y106.2.2.2.2.1, db y106.2.2.2.2.2.1, Ps.enc (.alt (.fn 53 .nil) (.alt (.fn 55 .nil) (.alt (.fn 58 .nil) (.alt (.fn 60 .nil) (.alt (.fn 62 .nil) (.alt (.fn 63 .nil) (.alt (.fn 64 .nil) (.fn 65 .nil)))))))) y106.2.2.2.2.2.2.1, Ps.enc (.alt (.fn 54 .nil) (.alt (.fn 57 .nil) (.alt (.fn 59 .nil) (.alt (.fn 61 .nil) (.fn 66 .nil))))) y106.2.2.2.2.2.2.2]], [], 58⟩
theorem e1j : R8 C8.r.r.l (S8_0 op) (Q8 C8.r.r.r q) = Option.bind (b6t op) (either (fun y106 : U12 => R8 C8.r.r.r (S8_24 y106) q) (fun y107 : Unit => q .ret S8_23)) := by
  refine .trans ?_ (bif_b e2_0 (bif_b e2_0 (bif_b e2_0 (bif_b e2_0 (bif_b e2_0 (bif_b e2_0 (bif_b e2_0 (bif_b e2_0 (bif_b e2_0 (bif_b e2_0 e2_1))))))))))
  refine (pre1 (e1f op _)).trans ?_
  refine (block_push (id := 0)).trans ?_
  refine (pre1 (c0g op _)).trans ?_
  refine (cond_e (b := (op == 1)) (st' := (S8_1 op)) ).trans (bif_g ?_ ?_)
  · refine (pre2 (e1g op _)).trans ?_
    refine (e1k _).trans ?_
    refine block_normal.trans ?_
    refine (seqC_normal (st' := S8_3)).trans ?_
    kernel_rfl
  · refine (pre1 (c0h op _)).trans ?_
    refine (cond_e (b := (op == 2)) (st' := (S8_1 op)) ).trans (bif_g ?_ ?_)
    · refine (pre1 (d8h op _)).trans ?_
      refine (d8m _).trans ?_
      refine block_normal.trans ?_
      refine (seqC_normal (st' := S8_5)).trans ?_
      kernel_rfl
    · refine (pre1 (c0i op _)).trans ?_
      refine (cond_e (b := (op == 3)) (st' := (S8_1 op)) ).trans (bif_g ?_ ?_)
      · refine (pre2 (d8i op _)).trans ?_
        refine (d8n _).trans ?_
        refine block_normal.trans ?_
        refine (seqC_normal (st' := S8_7)).trans ?_
        kernel_rfl
      · refine .trans seq_push ?_
        refine (d8k op _).trans ?_
        refine (cond_s (b := (a4y op)) ).trans (bif_g ?_ ?_)
        · refine (d8p op _).trans ?_
          refine block_normal.trans ?_
          refine (seqC_normal (st' := S8_11)).trans ?_
          kernel_rfl
        · refine .trans seq_push ?_
          refine (d8l op _).trans ?_
          refine (cond_s (b := (a4z op)) ).trans (bif_g ?_ ?_)
          · refine (d8r op _).trans ?_
            refine block_normal.trans ?_
            refine (seqC_normal (st' := S8_15)).trans ?_
            kernel_rfl
          · refine (pre1 (c0j op _)).trans ?_
            refine (cond_e (b := (op == 8)) (st' := (S8_1 op)) ).trans (bif_g ?_ ?_)
            · refine (d8s op _).trans ?_
              refine block_normal.trans ?_
              refine (seqC_normal (st' := S8_16)).trans ?_
              kernel_rfl
            · refine (pre1 (c0k op _)).trans ?_
              refine (cond_e (b := (op == 9)) (st' := (S8_1 op)) ).trans (bif_g ?_ ?_)
              · refine (pre1 (d8j op _)).trans ?_
                refine (d8t _).trans ?_
                refine block_normal.trans ?_
                refine (seqC_normal (st' := S8_18)).trans ?_
                kernel_rfl
              · refine (pre1 (c0l op _)).trans ?_
                refine (cond_e (b := (op == 10)) (st' := (S8_1 op)) ).trans (bif_g ?_ ?_)
                · refine (d8u op _).trans ?_
                  refine block_normal.trans ?_
                  refine (seqC_normal (st' := S8_19)).trans ?_
                  kernel_rfl
                · refine (pre1 (c0m op _)).trans ?_
                  refine (cond_e (b := (op == 11)) (st' := (S8_1 op)) ).trans (bif_g ?_ ?_)
                  · refine (d8v op _).trans ?_
                    refine block_normal.trans ?_
                    refine (seqC_normal (st' := S8_20)).trans ?_
                    kernel_rfl
                  · refine (pre1 (c0n op _)).trans ?_
                    refine (cond_e (b := (op == 12)) (st' := S8_21) ).trans (bif_g ?_ ?_)
                    · refine (d8w _).trans ?_
                      refine block_normal.trans ?_
                      refine (seqC_normal (st' := S8_22)).trans ?_
                      kernel_rfl
                    · refine (pre1 (e1h _)).trans ?_
                      refine (ret_eq).trans ?_
                      refine block_ret.trans ?_
                      refine seqC_ret.trans ?_
                      kernel_rfl
theorem d3s : P8 1 C8.r.r.r (S8_24 y106) k = k ⟨[(2, rF 0), (3, rb true)], [[di y106.1, db y106.2.1, db y106.2.2.1, db y106.2.2.2.1, db y106.2.2.2.2.1, db y106.2.2.2.2.2.1, Ps.enc (.alt (.fn 53 .nil) (.alt (.fn 55 .nil) (.alt (.fn 58 .nil) (.alt (.fn 60 .nil) (.alt (.fn 62 .nil) (.alt (.fn 63 .nil) (.alt (.fn 64 .nil) (.fn 65 .nil)))))))) y106.2.2.2.2.2.2.1, Ps.enc (.alt (.fn 54 .nil) (.alt (.fn 57 .nil) (.alt (.fn 59 .nil) (.alt (.fn 61 .nil) (.fn 66 .nil))))) y106.2.2.2.2.2.2.2], []], [], 58⟩ := by (rcases y106 with ⟨_, _, _, _, _, _, (_ | _ | _ | _ | _ | _ | _ | _), (_ | _ | _ | _ | _)⟩ <;> kernel_rfl)
/-- quilt/graph.of -/
def c2j : Option U18 := (Option.bind (b6t op) (either (fun y106 : U12 => (some ((y106.1, y106.2.1, y106.2.2.1, y106.2.2.2.1, y106.2.2.2.2.1, y106.2.2.2.2.2.1, ((either (fun u108 : Unit => (Sum.inl ())) (either (fun u109 : Unit => (Sum.inr (Sum.inl ()))) (either (fun u110 : Unit => (Sum.inr (Sum.inr (Sum.inl ())))) (either (fun u111 : Unit => (Sum.inr (Sum.inr (Sum.inr (Sum.inl ()))))) (either (fun u112 : Unit => (Sum.inr (Sum.inr (Sum.inr (Sum.inr (Sum.inl ())))))) (either (fun u113 : Unit => (Sum.inr (Sum.inr (Sum.inr (Sum.inr (Sum.inr (Sum.inl ()))))))) (either (fun u114 : Unit => (Sum.inr (Sum.inr (Sum.inr (Sum.inr (Sum.inr (Sum.inr (Sum.inl ())))))))) (fun u115 : Unit => (Sum.inr (Sum.inr (Sum.inr (Sum.inr (Sum.inr (Sum.inr (Sum.inr (Sum.inl ())))))))))))))))) y106.2.2.2.2.2.2.1), ((either (fun u116 : Unit => (Sum.inl ())) (either (fun u117 : Unit => (Sum.inr (Sum.inl ()))) (either (fun u118 : Unit => (Sum.inr (Sum.inr (Sum.inl ())))) (either (fun u119 : Unit => (Sum.inr (Sum.inr (Sum.inr (Sum.inl ()))))) (fun u120 : Unit => (Sum.inr (Sum.inr (Sum.inr (Sum.inr (Sum.inl ())))))))))) y106.2.2.2.2.2.2.2), ()), true))) (fun y107 : Unit => (some (((0 : Int), false, false, false, false, false, (Sum.inr (Sum.inr (Sum.inr (Sum.inr (Sum.inr (Sum.inr (Sum.inr (Sum.inr ())))))))), (Sum.inr (Sum.inr (Sum.inr (Sum.inr (Sum.inr ()))))), ()), false)))))
theorem e1i : stepS E cp8 noE 41 [ri op] = Option.bind (c2j op) (fun y : U18 => some (Po.enc (.tup [(.aggs Z4), pB]) ((fun y : U18 => (y.1, y.2, ())) y))) := by
  refine .trans ?_ (bind_b (either_b (fun y106 => some_b) (fun y107 => some_b)))
  refine (stepG_is (nt := 58) (regs := [(0, ri op)])).trans ?_
  refine (pre2 (e1e op _)).trans ?_
  refine .trans seq_push ?_
  refine (e1j op _).trans (bind_g (either_g (fun y106 => ?_) (fun y107 => ?_)))
  · refine (pre1 (d3s y106 _)).trans ?_
    refine (ret_eq).trans ?_
    (rcases y106 with ⟨_, _, _, _, _, _, (_ | _ | _ | _ | _ | _ | _ | _), (_ | _ | _ | _ | _)⟩ <;> kernel_rfl)
  · kernel_rfl
noncomputable def cp9 : CallP := withC cp8 41 [pI] (.tup [(.aggs Z4), pB]) (fun y : U18 => (y.1, y.2, ())) (fun x => c2j x.1)
theorem e6h : PureOK E cp9 := conS eok e6g noE_ok fun x => Eq.mp (by kernel_rfl) (e1i x.1)
end
section
variable {α β : Type} (k_ : Int) (k_' : Bool) (k_'' : Bool) (k_''' : Bool) (k_'''' : Bool) (k_''''' : Bool) (k_'''''' : U7) (k_''''''' : U2) (n_ : Node) (in_ : (List I4)) (k : St → Option α) (q : Kont α)
noncomputable abbrev C9 := codeOf E.P 42
noncomputable abbrev P9 := @preK α E 42 cp9 noE
noncomputable abbrev R9 := @runCode α E 42 cp9 noE
noncomputable abbrev Q9 := @seqC α E 42 cp9 noE
def a7w (K : Bool → β) : β := (bif ((in_.length : Int) == k_) then (bif (a0j n_.2.2.2.2.2.2.1 (1 : Int) (32767 : Int)) then (bif (a0j n_.2.2.2.2.2.2.2.1 (0 : Int) (31 : Int)) then (K (a0j n_.2.2.2.2.2.2.2.2.1 (-128 : Int) (127 : Int))) else (K false)) else (K false)) else (K false))
def a3u : Bool := a7w k_ n_ in_ (fun y => y)
theorem b71 (K : Bool → β) : a7w k_ n_ in_ K = K (a3u k_ n_ in_) := (bif_k K (bif_k K (bif_k K rfl rfl) rfl) rfl)
abbrev S9_0 : St := ⟨[(3, .one (.cell [di k_, db k_', db k_'', db k_''', db k_'''', db k_''''', Ps.enc Z2 k_'''''', Ps.enc Z0 k_'''''''])), (4, rC a00 n_), (7, rb (a3u k_ n_ in_))], [], [], 106⟩
theorem c0a : P9 2 C9 ⟨[(0, .agg [di k_, db k_', db k_'', db k_''', db k_'''', db k_''''', Ps.enc Z2 k_'''''', Ps.enc Z0 k_''''''']), (1, rA a00 n_), (2, rl tsI4 in_)], [], [], 106⟩ k = k (S9_0 k_ k_' k_'' k_''' k_'''' k_''''' k_'''''' k_''''''' n_ in_) := Eq.trans (by (rcases k_'''''' with (_ | _ | _ | _ | _ | _ | _ | _ | _) <;> rcases k_''''''' with (_ | _ | _ | _ | _ | _) <;> kernel_rfl)) (b71 k_ n_ in_ (fun y186 : Bool => k ⟨[(3, .one (.cell [di k_, db k_', db k_'', db k_''', db k_'''', db k_''''', Ps.enc Z2 k_'''''', Ps.enc Z0 k_'''''''])), (4, rC a00 n_), (7, rb y186)], [], [], 106⟩))
def a7x (K : Bool → β) : β := (bif (a3u k_ n_ in_) then (bif (n_.1 == 11) then (K true) else (K ((n_.2.2.2.2.2.2.2.2.2.1 == 0) && ((n_.2.2.2.2.2.2.2.2.2.2.1 == 0) && ((n_.2.2.2.2.2.2.2.2.2.2.2.1 == 0) && true))))) else (K false))
def a1k : Bool := a7x k_ n_ in_ (fun y => y)
theorem b72 (K : Bool → β) : a7x k_ n_ in_ K = K (a1k k_ n_ in_) := (bif_k K (bif_k K rfl rfl) rfl)
abbrev S9_1 : St := ⟨[(3, .one (.cell [di k_, db k_', db k_'', db k_''', db k_'''', db k_''''', Ps.enc Z2 k_'''''', Ps.enc Z0 k_'''''''])), (4, rC a00 n_), (7, rb (a1k k_ n_ in_))], [], [], 106⟩
theorem c0b : P9 1 C9.r.r (S9_0 k_ k_' k_'' k_''' k_'''' k_''''' k_'''''' k_''''''' n_ in_) k = k (S9_1 k_ k_' k_'' k_''' k_'''' k_''''' k_'''''' k_''''''' n_ in_) := Eq.trans (by (rcases k_'''''' with (_ | _ | _ | _ | _ | _ | _ | _ | _) <;> rcases k_''''''' with (_ | _ | _ | _ | _ | _) <;> kernel_rfl)) (b72 k_ n_ in_ (fun y187 : Bool => k ⟨[(3, .one (.cell [di k_, db k_', db k_'', db k_''', db k_'''', db k_''''', Ps.enc Z2 k_'''''', Ps.enc Z0 k_'''''''])), (4, rC a00 n_), (7, rb y187)], [], [], 106⟩))
theorem b2q : P9 1 C9.r.r.r.l (S9_1 k_ k_' k_'' k_''' k_'''' k_''''' k_'''''' k_''''''' n_ in_) k = k ⟨[(3, .one (.cell [di k_, db k_', db k_'', db k_''', db k_'''', db k_''''', Ps.enc Z2 k_'''''', Ps.enc Z0 k_'''''''])), (4, rC a00 n_), (7, rb (a1k k_ n_ in_)), (41, rb k_')], [], [], 106⟩ := by (rcases k_'''''' with (_ | _ | _ | _ | _ | _ | _ | _ | _) <;> rcases k_''''''' with (_ | _ | _ | _ | _ | _) <;> kernel_rfl)
def a7y (K : Bool → β) : β := (bif (a1k k_ n_ in_) then (bif (a0j n_.2.2.1 (1 : Int) (3 : Int)) then (K (a0j n_.2.2.2.1 (1 : Int) (2 : Int))) else (K false)) else (K false))
def a3v : Bool := a7y k_ n_ in_ (fun y => y)
theorem b73 (K : Bool → β) : a7y k_ n_ in_ K = K (a3v k_ n_ in_) := (bif_k K (bif_k K rfl rfl) rfl)
abbrev S9_2 : St := ⟨[(3, .one (.cell [di k_, db k_', db k_'', db k_''', db k_'''', db k_''''', Ps.enc Z2 k_'''''', Ps.enc Z0 k_'''''''])), (4, rC a00 n_), (7, rb (a3v k_ n_ in_))], [], [], 106⟩
theorem c0c : R9 C9.r.r.r.l.r.t (S9_1 k_ k_' k_'' k_''' k_'''' k_''''' k_'''''' k_''''''' n_ in_) q = q .normal (S9_2 k_ k_' k_'' k_''' k_'''' k_''''' k_'''''' k_''''''' n_ in_) := Eq.trans (by (rcases k_'''''' with (_ | _ | _ | _ | _ | _ | _ | _ | _) <;> rcases k_''''''' with (_ | _ | _ | _ | _ | _) <;> kernel_rfl)) (b73 k_ n_ in_ (fun y188 : Bool => q .normal ⟨[(3, .one (.cell [di k_, db k_', db k_'', db k_''', db k_'''', db k_''''', Ps.enc Z2 k_'''''', Ps.enc Z0 k_'''''''])), (4, rC a00 n_), (7, rb y188)], [], [], 106⟩))
def a7z (K : Bool → β) : β := (bif (a1k k_ n_ in_) then (bif (n_.2.2.1 == 0) then (K (n_.2.2.2.1 == 0)) else (K false)) else (K false))
def a3w : Bool := a7z k_ n_ in_ (fun y => y)
theorem b74 (K : Bool → β) : a7z k_ n_ in_ K = K (a3w k_ n_ in_) := (bif_k K (bif_k K rfl rfl) rfl)
abbrev S9_3 : St := ⟨[(3, .one (.cell [di k_, db k_', db k_'', db k_''', db k_'''', db k_''''', Ps.enc Z2 k_'''''', Ps.enc Z0 k_'''''''])), (4, rC a00 n_), (7, rb (a3w k_ n_ in_))], [], [], 106⟩
theorem c0d : R9 C9.r.r.r.l.r.e (S9_1 k_ k_' k_'' k_''' k_'''' k_''''' k_'''''' k_''''''' n_ in_) q = q .normal (S9_3 k_ k_' k_'' k_''' k_'''' k_''''' k_'''''' k_''''''' n_ in_) := Eq.trans (by (rcases k_'''''' with (_ | _ | _ | _ | _ | _ | _ | _ | _) <;> rcases k_''''''' with (_ | _ | _ | _ | _ | _) <;> kernel_rfl)) (b74 k_ n_ in_ (fun y189 : Bool => q .normal ⟨[(3, .one (.cell [di k_, db k_', db k_'', db k_''', db k_'''', db k_''''', Ps.enc Z2 k_'''''', Ps.enc Z0 k_'''''''])), (4, rC a00 n_), (7, rb y189)], [], [], 106⟩))
def a3s (K : Bool → β) : β := (bif k_' then (K (a3v k_ n_ in_)) else (K (a3w k_ n_ in_)))
def a0u : Bool := a3s k_ k_' n_ in_ (fun y => y)
theorem b6z (K : Bool → β) : a3s k_ k_' n_ in_ K = K (a0u k_ k_' n_ in_) := (bif_k K rfl rfl)
abbrev S9_4 : St := ⟨[(3, .one (.cell [di k_, db k_', db k_'', db k_''', db k_'''', db k_''''', Ps.enc Z2 k_'''''', Ps.enc Z0 k_'''''''])), (4, rC a00 n_), (7, rb (a0u k_ k_' n_ in_))], [], [], 106⟩
theorem c08 : R9 C9.r.r.r.l (S9_1 k_ k_' k_'' k_''' k_'''' k_''''' k_'''''' k_''''''' n_ in_) (Q9 C9.r.r.r.r q) = R9 C9.r.r.r.r (S9_4 k_ k_' k_'' k_''' k_'''' k_''''' k_'''''' k_''''''' n_ in_) q := by
  refine Eq.trans ?_ (b6z k_ k_' n_ in_ (fun y190 : Bool => R9 C9.r.r.r.r ⟨[(3, .one (.cell [di k_, db k_', db k_'', db k_''', db k_'''', db k_''''', Ps.enc Z2 k_'''''', Ps.enc Z0 k_'''''''])), (4, rC a00 n_), (7, rb y190)], [], [], 106⟩ q))
  unfold a3s
  refine (pre1 (b2q k_ k_' k_'' k_''' k_'''' k_''''' k_'''''' k_''''''' n_ in_ _)).trans ?_
  refine (cond_e (b := k_') (st' := (S9_1 k_ k_' k_'' k_''' k_'''' k_''''' k_'''''' k_''''''' n_ in_)) (hs := by (rcases k_'''''' with (_ | _ | _ | _ | _ | _ | _ | _ | _) <;> rcases k_''''''' with (_ | _ | _ | _ | _ | _) <;> kernel_rfl))).trans (bif_g ?_ ?_)
  · refine (c0c k_ k_' k_'' k_''' k_'''' k_''''' k_'''''' k_''''''' n_ in_ _).trans ?_
    refine (seqC_normal (st' := (S9_2 k_ k_' k_'' k_''' k_'''' k_''''' k_'''''' k_''''''' n_ in_)) (hs := by (rcases k_'''''' with (_ | _ | _ | _ | _ | _ | _ | _ | _) <;> rcases k_''''''' with (_ | _ | _ | _ | _ | _) <;> kernel_rfl))).trans ?_
    (rcases k_'''''' with (_ | _ | _ | _ | _ | _ | _ | _ | _) <;> rcases k_''''''' with (_ | _ | _ | _ | _ | _) <;> kernel_rfl)
  · refine (c0d k_ k_' k_'' k_''' k_'''' k_''''' k_'''''' k_''''''' n_ in_ _).trans ?_
    refine (seqC_normal (st' := (S9_3 k_ k_' k_'' k_''' k_'''' k_''''' k_'''''' k_''''''' n_ in_)) (hs := by (rcases k_'''''' with (_ | _ | _ | _ | _ | _ | _ | _ | _) <;> rcases k_''''''' with (_ | _ | _ | _ | _ | _) <;> kernel_rfl))).trans ?_
    (rcases k_'''''' with (_ | _ | _ | _ | _ | _ | _ | _ | _) <;> rcases k_''''''' with (_ | _ | _ | _ | _ | _) <;> kernel_rfl)
theorem b2r : P9 1 C9.r.r.r.r.l.b (S9_4 k_ k_' k_'' k_''' k_'''' k_''''' k_'''''' k_''''''' n_ in_) k = k ⟨[(3, .one (.cell [di k_, db k_', db k_'', db k_''', db k_'''', db k_''''', Ps.enc Z2 k_'''''', Ps.enc Z0 k_'''''''])), (4, rC a00 n_), (7, rb (a0u k_ k_' n_ in_)), (70, rb k_'')], [], [], 106⟩ := by (rcases k_'''''' with (_ | _ | _ | _ | _ | _ | _ | _ | _) <;> rcases k_''''''' with (_ | _ | _ | _ | _ | _) <;> kernel_rfl)
def a81 (K : Bool → β) : β := (bif (a0u k_ k_' n_ in_) then (K (a0j n_.2.2.2.2.1 (0 : Int) (min (1 : Int) (IntKind.wrap .i64 (n_.2.2.1 - 1))))) else (K false))
def a3y : Bool := a81 k_ k_' n_ in_ (fun y => y)
theorem b76 (K : Bool → β) : a81 k_ k_' n_ in_ K = K (a3y k_ k_' n_ in_) := (bif_k K rfl rfl)
abbrev S9_5 : St := ⟨[(3, .one (.cell [di k_, db k_', db k_'', db k_''', db k_'''', db k_''''', Ps.enc Z2 k_'''''', Ps.enc Z0 k_'''''''])), (4, rC a00 n_), (7, rb (a3y k_ k_' n_ in_))], [], [], 106⟩
theorem c0f : R9 C9.r.r.r.r.l.b.r.t (S9_4 k_ k_' k_'' k_''' k_'''' k_''''' k_'''''' k_''''''' n_ in_) q = q .normal (S9_5 k_ k_' k_'' k_''' k_'''' k_''''' k_'''''' k_''''''' n_ in_) := Eq.trans (by (rcases k_'''''' with (_ | _ | _ | _ | _ | _ | _ | _ | _) <;> rcases k_''''''' with (_ | _ | _ | _ | _ | _) <;> kernel_rfl)) (b76 k_ k_' n_ in_ (fun y191 : Bool => q .normal ⟨[(3, .one (.cell [di k_, db k_', db k_'', db k_''', db k_'''', db k_''''', Ps.enc Z2 k_'''''', Ps.enc Z0 k_'''''''])), (4, rC a00 n_), (7, rb y191)], [], [], 106⟩))
theorem b2s : P9 1 C9.r.r.r.r.l.b.r.e (S9_4 k_ k_' k_'' k_''' k_'''' k_''''' k_'''''' k_''''''' n_ in_) k = k ⟨[(3, .one (.cell [di k_, db k_', db k_'', db k_''', db k_'''', db k_''''', Ps.enc Z2 k_'''''', Ps.enc Z0 k_'''''''])), (4, rC a00 n_), (7, rb (a0u k_ k_' n_ in_)), (83, rb k_''')], [], [], 106⟩ := by (rcases k_'''''' with (_ | _ | _ | _ | _ | _ | _ | _ | _) <;> rcases k_''''''' with (_ | _ | _ | _ | _ | _) <;> kernel_rfl)
def a71 (K : Bool → β) : β := (bif (a0u k_ k_' n_ in_) then (K (n_.2.2.2.2.1 == 1)) else (K false))
def a3a : Bool := a71 k_ k_' n_ in_ (fun y => y)
theorem b63 (K : Bool → β) : a71 k_ k_' n_ in_ K = K (a3a k_ k_' n_ in_) := (bif_k K rfl rfl)
abbrev S9_6 : St := ⟨[(3, .one (.cell [di k_, db k_', db k_'', db k_''', db k_'''', db k_''''', Ps.enc Z2 k_'''''', Ps.enc Z0 k_'''''''])), (4, rC a00 n_), (7, rb (a3a k_ k_' n_ in_))], [], [], 106⟩
theorem b8p : R9 C9.r.r.r.r.l.b.r.e.r.t (S9_4 k_ k_' k_'' k_''' k_'''' k_''''' k_'''''' k_''''''' n_ in_) q = q .normal (S9_6 k_ k_' k_'' k_''' k_'''' k_''''' k_'''''' k_''''''' n_ in_) := Eq.trans (by (rcases k_'''''' with (_ | _ | _ | _ | _ | _ | _ | _ | _) <;> rcases k_''''''' with (_ | _ | _ | _ | _ | _) <;> kernel_rfl)) (b63 k_ k_' n_ in_ (fun y192 : Bool => q .normal ⟨[(3, .one (.cell [di k_, db k_', db k_'', db k_''', db k_'''', db k_''''', Ps.enc Z2 k_'''''', Ps.enc Z0 k_'''''''])), (4, rC a00 n_), (7, rb y192)], [], [], 106⟩))
def a80 (K : Bool → β) : β := (bif (a0u k_ k_' n_ in_) then (K (n_.2.2.2.2.1 == 0)) else (K false))
def a3x : Bool := a80 k_ k_' n_ in_ (fun y => y)
theorem b75 (K : Bool → β) : a80 k_ k_' n_ in_ K = K (a3x k_ k_' n_ in_) := (bif_k K rfl rfl)
abbrev S9_7 : St := ⟨[(3, .one (.cell [di k_, db k_', db k_'', db k_''', db k_'''', db k_''''', Ps.enc Z2 k_'''''', Ps.enc Z0 k_'''''''])), (4, rC a00 n_), (7, rb (a3x k_ k_' n_ in_))], [], [], 106⟩
theorem c0e : R9 C9.r.r.r.r.l.b.r.e.r.e (S9_4 k_ k_' k_'' k_''' k_'''' k_''''' k_'''''' k_''''''' n_ in_) q = q .normal (S9_7 k_ k_' k_'' k_''' k_'''' k_''''' k_'''''' k_''''''' n_ in_) := Eq.trans (by (rcases k_'''''' with (_ | _ | _ | _ | _ | _ | _ | _ | _) <;> rcases k_''''''' with (_ | _ | _ | _ | _ | _) <;> kernel_rfl)) (b75 k_ k_' n_ in_ (fun y193 : Bool => q .normal ⟨[(3, .one (.cell [di k_, db k_', db k_'', db k_''', db k_'''', db k_''''', Ps.enc Z2 k_'''''', Ps.enc Z0 k_'''''''])), (4, rC a00 n_), (7, rb y193)], [], [], 106⟩))
def a3t (K : Bool → β) : β := (bif k_'' then (K (a3y k_ k_' n_ in_)) else (bif k_''' then (K (a3a k_ k_' n_ in_)) else (K (a3x k_ k_' n_ in_))))
def a16 : Bool := a3t k_ k_' k_'' k_''' n_ in_ (fun y => y)
theorem b70 (K : Bool → β) : a3t k_ k_' k_'' k_''' n_ in_ K = K (a16 k_ k_' k_'' k_''' n_ in_) := (bif_k K rfl (bif_k K rfl rfl))
abbrev S9_8 : St := ⟨[(3, .one (.cell [di k_, db k_', db k_'', db k_''', db k_'''', db k_''''', Ps.enc Z2 k_'''''', Ps.enc Z0 k_'''''''])), (4, rC a00 n_), (7, rb (a16 k_ k_' k_'' k_''' n_ in_))], [], [], 106⟩
theorem c09 : R9 C9.r.r.r.r.l (S9_4 k_ k_' k_'' k_''' k_'''' k_''''' k_'''''' k_''''''' n_ in_) (Q9 C9.r.r.r.r.r q) = R9 C9.r.r.r.r.r (S9_8 k_ k_' k_'' k_''' k_'''' k_''''' k_'''''' k_''''''' n_ in_) q := by
  refine Eq.trans ?_ (b70 k_ k_' k_'' k_''' n_ in_ (fun y194 : Bool => R9 C9.r.r.r.r.r ⟨[(3, .one (.cell [di k_, db k_', db k_'', db k_''', db k_'''', db k_''''', Ps.enc Z2 k_'''''', Ps.enc Z0 k_'''''''])), (4, rC a00 n_), (7, rb y194)], [], [], 106⟩ q))
  unfold a3t
  refine (block_push (id := 0)).trans ?_
  refine (pre1 (b2r k_ k_' k_'' k_''' k_'''' k_''''' k_'''''' k_''''''' n_ in_ _)).trans ?_
  refine (cond_e (b := k_'') (st' := (S9_4 k_ k_' k_'' k_''' k_'''' k_''''' k_'''''' k_''''''' n_ in_)) (hs := by (rcases k_'''''' with (_ | _ | _ | _ | _ | _ | _ | _ | _) <;> rcases k_''''''' with (_ | _ | _ | _ | _ | _) <;> kernel_rfl))).trans (bif_g ?_ ?_)
  · refine (c0f k_ k_' k_'' k_''' k_'''' k_''''' k_'''''' k_''''''' n_ in_ _).trans ?_
    refine block_normal.trans ?_
    refine (seqC_normal (st' := (S9_5 k_ k_' k_'' k_''' k_'''' k_''''' k_'''''' k_''''''' n_ in_)) (hs := by (rcases k_'''''' with (_ | _ | _ | _ | _ | _ | _ | _ | _) <;> rcases k_''''''' with (_ | _ | _ | _ | _ | _) <;> kernel_rfl))).trans ?_
    (rcases k_'''''' with (_ | _ | _ | _ | _ | _ | _ | _ | _) <;> rcases k_''''''' with (_ | _ | _ | _ | _ | _) <;> kernel_rfl)
  · refine (pre1 (b2s k_ k_' k_'' k_''' k_'''' k_''''' k_'''''' k_''''''' n_ in_ _)).trans ?_
    refine (cond_e (b := k_''') (st' := (S9_4 k_ k_' k_'' k_''' k_'''' k_''''' k_'''''' k_''''''' n_ in_)) (hs := by (rcases k_'''''' with (_ | _ | _ | _ | _ | _ | _ | _ | _) <;> rcases k_''''''' with (_ | _ | _ | _ | _ | _) <;> kernel_rfl))).trans (bif_g ?_ ?_)
    · refine (b8p k_ k_' k_'' k_''' k_'''' k_''''' k_'''''' k_''''''' n_ in_ _).trans ?_
      refine block_normal.trans ?_
      refine (seqC_normal (st' := (S9_6 k_ k_' k_'' k_''' k_'''' k_''''' k_'''''' k_''''''' n_ in_)) (hs := by (rcases k_'''''' with (_ | _ | _ | _ | _ | _ | _ | _ | _) <;> rcases k_''''''' with (_ | _ | _ | _ | _ | _) <;> kernel_rfl))).trans ?_
      (rcases k_'''''' with (_ | _ | _ | _ | _ | _ | _ | _ | _) <;> rcases k_''''''' with (_ | _ | _ | _ | _ | _) <;> kernel_rfl)
    · refine (c0e k_ k_' k_'' k_''' k_'''' k_''''' k_'''''' k_''''''' n_ in_ _).trans ?_
      refine block_normal.trans ?_
      refine (seqC_normal (st' := (S9_7 k_ k_' k_'' k_''' k_'''' k_''''' k_'''''' k_''''''' n_ in_)) (hs := by (rcases k_'''''' with (_ | _ | _ | _ | _ | _ | _ | _ | _) <;> rcases k_''''''' with (_ | _ | _ | _ | _ | _) <;> kernel_rfl))).trans ?_
      (rcases k_'''''' with (_ | _ | _ | _ | _ | _ | _ | _ | _) <;> rcases k_''''''' with (_ | _ | _ | _ | _ | _) <;> kernel_rfl)
theorem b2t : P9 1 C9.r.r.r.r.r.l (S9_8 k_ k_' k_'' k_''' k_'''' k_''''' k_'''''' k_''''''' n_ in_) k = k ⟨[(4, rC a00 n_), (7, rb (a16 k_ k_' k_'' k_''' n_ in_)), (93, rb k_'''')], [], [], 106⟩ := by (rcases k_'''''' with (_ | _ | _ | _ | _ | _ | _ | _ | _) <;> rcases k_''''''' with (_ | _ | _ | _ | _ | _) <;> kernel_rfl)
def a72 (K : Bool → β) : β := (bif (a16 k_ k_' k_'' k_''' n_ in_) then (K (a0j n_.2.2.2.2.2.1 (1 : Int) (8 : Int))) else (K false))
def a3b : Bool := a72 k_ k_' k_'' k_''' n_ in_ (fun y => y)
theorem b64 (K : Bool → β) : a72 k_ k_' k_'' k_''' n_ in_ K = K (a3b k_ k_' k_'' k_''' n_ in_) := (bif_k K rfl rfl)
abbrev S9_9 : St := ⟨[(4, rC a00 n_), (7, rb (a16 k_ k_' k_'' k_''' n_ in_))], [], [], 106⟩
theorem b8q : P9 1 C9.r.r.r.r.r.l.r.t (S9_9 k_ k_' k_'' k_''' n_ in_) k = k ⟨[(6, rb (a3b k_ k_' k_'' k_''' n_ in_))], [], [], 106⟩ := Eq.trans (by kernel_rfl) (b64 k_ k_' k_'' k_''' n_ in_ (fun y196 : Bool => k ⟨[(6, rb y196)], [], [], 106⟩))
def a73 (K : Bool → β) : β := (bif (a16 k_ k_' k_'' k_''' n_ in_) then (K (n_.2.2.2.2.2.1 == 0)) else (K false))
def a3c : Bool := a73 k_ k_' k_'' k_''' n_ in_ (fun y => y)
theorem b65 (K : Bool → β) : a73 k_ k_' k_'' k_''' n_ in_ K = K (a3c k_ k_' k_'' k_''' n_ in_) := (bif_k K rfl rfl)
theorem b8r : P9 1 C9.r.r.r.r.r.r (S9_9 k_ k_' k_'' k_''' n_ in_) k = k ⟨[(6, rb (a3c k_ k_' k_'' k_''' n_ in_))], [], [], 106⟩ := Eq.trans (by kernel_rfl) (b65 k_ k_' k_'' k_''' n_ in_ (fun y197 : Bool => k ⟨[(6, rb y197)], [], [], 106⟩))
/-- (quilt/graph.kind).may -/
def a5x {β : Type} (k_ : Int) (k_' : Bool) (k_'' : Bool) (k_''' : Bool) (k_'''' : Bool) (k_''''' : Bool) (k_'''''' : U7) (k_''''''' : U2) (n_ : Node) (in_ : (List I4)) (K : Bool → β) : β := (bif k_'''' then (K (a3b k_ k_' k_'' k_''' n_ in_)) else (K (a3c k_ k_' k_'' k_''' n_ in_)))
def a4x : Bool := a5x k_ k_' k_'' k_''' k_'''' k_''''' k_'''''' k_''''''' n_ in_ (fun y => y)
theorem c2i (K : Bool → β) : a5x k_ k_' k_'' k_''' k_'''' k_''''' k_'''''' k_''''''' n_ in_ K = K (a4x k_ k_' k_'' k_''' k_'''' k_''''' k_'''''' k_''''''' n_ in_) := (bif_k K rfl rfl)
theorem c07 : stepS E cp9 noE 42 [.agg [di k_, db k_', db k_'', db k_''', db k_'''', db k_''''', Ps.enc Z2 k_'''''', Ps.enc Z0 k_'''''''], rA a00 n_, rl tsI4 in_] = (fun y : Bool => some (rb y : R)) (a4x k_ k_' k_'' k_''' k_'''' k_''''' k_'''''' k_''''''' n_ in_) := by
  refine Eq.trans ?_ (c2i k_ k_' k_'' k_''' k_'''' k_''''' k_'''''' k_''''''' n_ in_ (fun y : Bool => some (rb y : R)))
  refine (stepG_is (nt := 106) (regs := [(0, .agg [di k_, db k_', db k_'', db k_''', db k_'''', db k_''''', Ps.enc Z2 k_'''''', Ps.enc Z0 k_''''''']), (1, rA a00 n_), (2, rl tsI4 in_)]) (by (rcases k_'''''' with (_ | _ | _ | _ | _ | _ | _ | _ | _) <;> rcases k_''''''' with (_ | _ | _ | _ | _ | _) <;> kernel_rfl)) (by (rcases k_'''''' with (_ | _ | _ | _ | _ | _ | _ | _ | _) <;> rcases k_''''''' with (_ | _ | _ | _ | _ | _) <;> kernel_rfl))).trans ?_
  unfold a5x
  refine (pre2 (c0a k_ k_' k_'' k_''' k_'''' k_''''' k_'''''' k_''''''' n_ in_ _)).trans ?_
  refine (pre1 (c0b k_ k_' k_'' k_''' k_'''' k_''''' k_'''''' k_''''''' n_ in_ _)).trans ?_
  refine .trans seq_push ?_
  refine (c08 k_ k_' k_'' k_''' k_'''' k_''''' k_'''''' k_''''''' n_ in_ _).trans ?_
  refine .trans seq_push ?_
  refine (c09 k_ k_' k_'' k_''' k_'''' k_''''' k_'''''' k_''''''' n_ in_ _).trans ?_
  refine .trans seq_push ?_
  refine (pre1 (b2t k_ k_' k_'' k_''' k_'''' k_''''' k_'''''' k_''''''' n_ in_ _)).trans ?_
  refine (cond_e (b := k_'''') (st' := (S9_9 k_ k_' k_'' k_''' n_ in_)) (hs := by (rcases k_'''''' with (_ | _ | _ | _ | _ | _ | _ | _ | _) <;> rcases k_''''''' with (_ | _ | _ | _ | _ | _) <;> kernel_rfl))).trans (bif_g ?_ ?_)
  · refine (pre1 (b8q k_ k_' k_'' k_''' n_ in_ _)).trans ?_
    refine (ret_eq).trans ?_
    refine seqC_ret.trans ?_
    (rcases k_'''''' with (_ | _ | _ | _ | _ | _ | _ | _ | _) <;> rcases k_''''''' with (_ | _ | _ | _ | _ | _) <;> kernel_rfl)
  · refine (skip_eq).trans ?_
    refine (seqC_normal (st' := (S9_9 k_ k_' k_'' k_''' n_ in_)) (hs := by (rcases k_'''''' with (_ | _ | _ | _ | _ | _ | _ | _ | _) <;> rcases k_''''''' with (_ | _ | _ | _ | _ | _) <;> kernel_rfl))).trans ?_
    refine (pre1 (b8r k_ k_' k_'' k_''' n_ in_ _)).trans ?_
    refine (ret_eq).trans ?_
    (rcases k_'''''' with (_ | _ | _ | _ | _ | _ | _ | _ | _) <;> rcases k_''''''' with (_ | _ | _ | _ | _ | _) <;> kernel_rfl)
noncomputable def cp10 : CallP := withC cp9 42 [(.aggs Z4), (.agg a00), (pL tsI4)] (.one pB) (fun y : Bool => y) (fun x => some (a4x x.1.1 x.1.2.1 x.1.2.2.1 x.1.2.2.2.1 x.1.2.2.2.2.1 x.1.2.2.2.2.2.1 x.1.2.2.2.2.2.2.1 x.1.2.2.2.2.2.2.2.1 x.2.1 x.2.2.1))
theorem e42 : PureOK E cp10 := conS eok e6h noE_ok fun x => Eq.mp (by kernel_rfl) (c07 x.1.1 x.1.2.1 x.1.2.2.1 x.1.2.2.2.1 x.1.2.2.2.2.1 x.1.2.2.2.2.2.1 x.1.2.2.2.2.2.2.1 x.1.2.2.2.2.2.2.2.1 x.2.1 x.2.2.1)
end
section
variable {α β : Type} (v_ : I4) (c1_ : Node) (k : St → Option α)
noncomputable abbrev C10 := codeOf E.P 44
noncomputable abbrev P10 := @preK α E 44 cp10 noE
theorem c20 : P10 2 C10 ⟨[(0, rA tsI4 v_), (1, rC a00 c1_)], [], [], 9⟩ k = k ⟨[(3, rb (v_.2.2.2 != c1_.2.2.2.2.2.2.2.2.1))], [], [], 9⟩ := by kernel_rfl
/-- quilt/graph.Value$1 -/
def a6w (K : Bool → β) : β := (K (v_.2.2.2 != c1_.2.2.2.2.2.2.2.2.1))
def a2b : Bool := a6w v_ c1_ (fun y => y)
theorem c54 (K : Bool → β) : a6w v_ c1_ K = K (a2b v_ c1_) := rfl
theorem c21 : stepS E cp10 noE 44 [rA tsI4 v_, rC a00 c1_] = (fun y : Bool => some (rb y : R)) (a2b v_ c1_) := by
  refine Eq.trans ?_ (c54 v_ c1_ (fun y : Bool => some (rb y : R)))
  refine (stepG_is (nt := 9) (regs := [(0, rA tsI4 v_), (1, rC a00 c1_)])).trans ?_
  unfold a6w
  refine (pre2 (c20 v_ c1_ _)).trans ?_
  refine (ret_eq).trans ?_
  kernel_rfl
noncomputable def cp11 : CallP := withC cp10 44 [(.agg tsI4), (.one (.cell (.cons (.g (.int .i64)) (.cons (.g (.sl (.one (.int .i64)))) (.cons (.g (.int .i64)) (.cons (.g (.int .i64)) (.cons (.g (.int .i64)) (.cons (.g (.int .i64)) (.cons (.g (.int .i64)) (.cons (.g (.int .i64)) (.cons (.g (.int .i64)) (.cons (.g (.int .i64)) (.cons (.g (.int .i64)) (.cons (.g (.int .i64)) (.cons (.g (.sl (.one (.int .i8)))) (.cons (.g (.sl (.one (.int .i32)))) .nil))))))))))))))))] (.one pB) (fun y : Bool => y) (fun x => some (a2b x.1 (x.2.1.1, x.2.1.2.1, x.2.1.2.2.1, x.2.1.2.2.2.1, x.2.1.2.2.2.2.1, x.2.1.2.2.2.2.2.1, x.2.1.2.2.2.2.2.2.1, x.2.1.2.2.2.2.2.2.2.1, x.2.1.2.2.2.2.2.2.2.2.1, x.2.1.2.2.2.2.2.2.2.2.2.1, x.2.1.2.2.2.2.2.2.2.2.2.2.1, x.2.1.2.2.2.2.2.2.2.2.2.2.2.1, x.2.1.2.2.2.2.2.2.2.2.2.2.2.2.1, x.2.1.2.2.2.2.2.2.2.2.2.2.2.2.2.1)))
theorem e43 : PureOK E cp11 := conS eok e42 noE_ok fun x => Eq.mp (by kernel_rfl) (c21 x.1 (x.2.1.1, x.2.1.2.1, x.2.1.2.2.1, x.2.1.2.2.2.1, x.2.1.2.2.2.2.1, x.2.1.2.2.2.2.2.1, x.2.1.2.2.2.2.2.2.1, x.2.1.2.2.2.2.2.2.2.1, x.2.1.2.2.2.2.2.2.2.2.1, x.2.1.2.2.2.2.2.2.2.2.2.1, x.2.1.2.2.2.2.2.2.2.2.2.2.1, x.2.1.2.2.2.2.2.2.2.2.2.2.2.1, x.2.1.2.2.2.2.2.2.2.2.2.2.2.2.1, x.2.1.2.2.2.2.2.2.2.2.2.2.2.2.2.1))
end
section
variable {α : Type} (s_ : (List I4)) (f_ : Node) (s211 : Int) (k : St → Option α) (q : Kont α)
noncomputable abbrev C11 := codeOf E.P 67
noncomputable abbrev P11 := @preK α E 67 cp11 noE
noncomputable abbrev R11 := @runCode α E 67 cp11 noE
abbrev S11_0 : St := ⟨[(0, rl tsI4 s_), (1, .one (.fn 44 [.cell (a00.leaves f_)]))], [], [], 19⟩
theorem a40 : P11 1 C11 (S11_0 s_ f_) k = k (S11_0 s_ f_) := by kernel_rfl
abbrev S11_1 : St := ⟨[(0, rl tsI4 s_), (1, .one (.fn 44 [.cell (a00.leaves f_)])), (7, ri (s_.length : Int)), (8, ri 0)], [], [], 19⟩
theorem a41 : P11 1 C11.r.l (S11_0 s_ f_) k = k (S11_1 s_ f_) := by kernel_rfl
abbrev S11_2 : St := ⟨[(0, rl tsI4 s_), (1, .one (.fn 44 [.cell (a00.leaves f_)])), (7, ri (s_.length : Int)), (8, ri s211)], [], [], 19⟩
theorem a42 : P11 1 C11.r.l.r.b.b (S11_2 s_ f_ s211) k = k ⟨[(0, rl tsI4 s_), (1, .one (.fn 44 [.cell (a00.leaves f_)])), (7, ri (s_.length : Int)), (8, ri s211), (9, rb (decide (s211 < (s_.length : Int))))], [], [], 19⟩ := by kernel_rfl
def a1i : Option Unit := (bif (decide ((0 : Int) ≤ s211)) then (bif (decide (s211 < (s_.length : Int))) then (some ()) else none) else none)
theorem a45 : P11 2 C11.r.l.r.b.b.r.r.l.b (S11_2 s_ f_ s211) k = Option.bind (a1i s_ s211) (fun y213 : Unit => k ⟨[(0, rl tsI4 s_), (1, .one (.fn 44 [.cell (a00.leaves f_)])), (5, ri s211), (7, ri (s_.length : Int)), (8, ri s211), (16, rb (a2b (gt s_ s211 dI4) f_))], [], [], 19⟩) := .trans (by kernel_rfl) (bif_b (bif_b some_b none_b) none_b)
abbrev S11_3 : St := ⟨[(0, rl tsI4 s_), (1, .one (.fn 44 [.cell (a00.leaves f_)])), (5, ri s211), (7, ri (s_.length : Int)), (8, ri s211)], [], [], 19⟩
theorem a3m : P11 1 C11.r.l.r.b.b.r.r.l.b.r.r.t (S11_3 s_ f_ s211) k = k ⟨[(4, ri s211)], [], [], 19⟩ := by kernel_rfl
theorem a46 : R11 C11.r.l.r.b.b.r.r.r (S11_2 s_ f_ s211) q = q .normal ⟨[(0, rl tsI4 s_), (1, .one (.fn 44 [.cell (a00.leaves f_)])), (7, ri (s_.length : Int)), (8, ri (IntKind.wrap .i64 (s211 + 1)))], [], [], 19⟩ := by kernel_rfl
def a0s : Option (Int ⊕ (Int ⊕ Int)) := (bif (decide (s211 < (s_.length : Int))) then (Option.bind (a1i s_ s211) (fun y213 : Unit => (bif (a2b (gt s_ s211 dI4) f_) then (some (Sum.inr (Sum.inr s211))) else (some (Sum.inl (IntKind.wrap .i64 (s211 + 1))))))) else (some (Sum.inr (Sum.inl s211))))
abbrev S11_4 (y214 : Int) : St := ⟨[(0, rl tsI4 s_), (1, .one (.fn 44 [.cell (a00.leaves f_)])), (7, ri (s_.length : Int)), (8, ri y214)], [], [], 19⟩
theorem a3o : R11 C11.r.l.r.b.b (S11_2 s_ f_ s211) (loopKont 0 q) = Option.bind (a0s s_ f_ s211) (either (fun y : Int => q .normal ⟨[(0, rl tsI4 s_), (1, .one (.fn 44 [.cell (a00.leaves f_)])), (7, ri (s_.length : Int)), (8, ri y)], [], [], 19⟩) (either (fun y214 : Int => q (.exit 0) (S11_4 s_ f_ y214)) (fun y215 : Int => q .ret ⟨[(4, ri y215)], [], [], 19⟩))) := by
  refine .trans ?_ (bif_b (bind_b fun y213 => (bif_b e3_2 e3_0)) e3_1)
  refine (pre1 (a42 s_ f_ s211 _)).trans ?_
  refine .trans seq_push ?_
  refine (cond_e (b := (decide (s211 < (s_.length : Int)))) (st' := (S11_2 s_ f_ s211)) ).trans (bif_g ?_ ?_)
  · refine (skip_eq).trans ?_
    refine (seqC_normal (st' := (S11_2 s_ f_ s211))).trans ?_
    refine .trans seq_push ?_
    refine (block_push (id := 1)).trans ?_
    refine (pre2 (a45 s_ f_ s211 _)).trans (bind_g fun y213 => ?_)
    refine (cond_e (b := (a2b (gt s_ s211 dI4) f_)) (st' := (S11_3 s_ f_ s211)) ).trans (bif_g ?_ ?_)
    · refine (pre1 (a3m s_ f_ s211 _)).trans ?_
      refine (ret_eq).trans ?_
      refine block_ret.trans ?_
      refine seqC_ret.trans ?_
      kernel_rfl
    · refine (skip_eq).trans ?_
      refine block_normal.trans ?_
      refine (seqC_normal (st' := (S11_2 s_ f_ s211))).trans ?_
      refine (a46 s_ f_ s211 _).trans ?_
      kernel_rfl
  · refine ((exit_eq (j := 0))).trans ?_
    refine seqC_exit.trans ?_
    kernel_rfl
theorem a44 : R11 C11.r.l.r.b (S11_1 s_ f_) q = Option.bind (iterN (a0s s_ f_) LL (0 : Int)) (either (fun y214 : Int => q (.exit 0) (S11_4 s_ f_ y214)) (fun y215 : Int => q .ret ⟨[(4, ri y215)], [], [], 19⟩)) :=
  Eq.trans (by kernel_rfl) (loop_iter2 (S := fun s211 : Int => (S11_2 s_ f_ s211)) (Y1 := fun y214 : Int => ((.exit 0), (S11_4 s_ f_ y214))) (Y2 := fun y215 : Int => (.ret, ⟨[(4, ri y215)], [], [], 19⟩)) (fun s q => a3o s_ f_ s q) (fun z => rfl) (fun z => rfl) LL (0 : Int))
theorem a3n : P11 1 C11.r.r ⟨[], [], [], 19⟩ k = k ⟨[(4, ri (-1 : Int))], [], [], 19⟩ := by kernel_rfl
/-- slices.IndexFunc[[]quilt/api.Value,quilt/api.Value] -/
def a0p : Option Int := (Option.bind (iterN (a0s s_ f_) LL (0 : Int)) (either (fun y214 : Int => (some (-1 : Int))) (fun y215 : Int => (some y215))))
theorem a43 : stepS E cp11 noE 67 [rl tsI4 s_, .one (.fn 44 [.cell (a00.leaves f_)])] = Option.bind (a0p s_ f_) (fun y : Int => some (ri y : R)) := by
  refine .trans ?_ (bind_b (either_b (fun y214 => some_b) (fun y215 => some_b)))
  refine (stepG_is (nt := 19) (regs := [(0, rl tsI4 s_), (1, .one (.fn 44 [.cell (a00.leaves f_)]))])).trans ?_
  refine (pre1 (a40 s_ f_ _)).trans ?_
  refine .trans seq_push ?_
  refine (pre1 (a41 s_ f_ _)).trans ?_
  refine (block_push (id := 0)).trans ?_
  refine (a44 s_ f_ _).trans (bind_g (either_g (fun y214 => ?_) (fun y215 => ?_)))
  · refine block_same.trans ?_
    refine (seqC_normal (st' := ⟨[], [], [], 19⟩)).trans ?_
    refine (pre1 (a3n _)).trans ?_
    refine (ret_eq).trans ?_
    kernel_rfl
  · refine block_ret.trans ?_
    refine seqC_ret.trans ?_
    kernel_rfl
noncomputable def cp12 : CallP := withC cp11 67 [(pL tsI4), (.one (.fn 44 (.cons (.cell (.cons (.g (.int .i64)) (.cons (.g (.sl (.one (.int .i64)))) (.cons (.g (.int .i64)) (.cons (.g (.int .i64)) (.cons (.g (.int .i64)) (.cons (.g (.int .i64)) (.cons (.g (.int .i64)) (.cons (.g (.int .i64)) (.cons (.g (.int .i64)) (.cons (.g (.int .i64)) (.cons (.g (.int .i64)) (.cons (.g (.int .i64)) (.cons (.g (.sl (.one (.int .i8)))) (.cons (.g (.sl (.one (.int .i32)))) .nil))))))))))))))) .nil)))] (.one pI) (fun y : Int => y) (fun x => a0p x.1 (x.2.1.1.1, x.2.1.1.2.1, x.2.1.1.2.2.1, x.2.1.1.2.2.2.1, x.2.1.1.2.2.2.2.1, x.2.1.1.2.2.2.2.2.1, x.2.1.1.2.2.2.2.2.2.1, x.2.1.1.2.2.2.2.2.2.2.1, x.2.1.1.2.2.2.2.2.2.2.2.1, x.2.1.1.2.2.2.2.2.2.2.2.2.1, x.2.1.1.2.2.2.2.2.2.2.2.2.2.1, x.2.1.1.2.2.2.2.2.2.2.2.2.2.2.1, x.2.1.1.2.2.2.2.2.2.2.2.2.2.2.2.1, x.2.1.1.2.2.2.2.2.2.2.2.2.2.2.2.2.1))
theorem e44 : PureOK E cp12 := conS eok e43 noE_ok fun x => Eq.mp (by kernel_rfl) (a43 x.1 (x.2.1.1.1, x.2.1.1.2.1, x.2.1.1.2.2.1, x.2.1.1.2.2.2.1, x.2.1.1.2.2.2.2.1, x.2.1.1.2.2.2.2.2.1, x.2.1.1.2.2.2.2.2.2.1, x.2.1.1.2.2.2.2.2.2.2.1, x.2.1.1.2.2.2.2.2.2.2.2.1, x.2.1.1.2.2.2.2.2.2.2.2.2.1, x.2.1.1.2.2.2.2.2.2.2.2.2.2.1, x.2.1.1.2.2.2.2.2.2.2.2.2.2.2.1, x.2.1.1.2.2.2.2.2.2.2.2.2.2.2.2.1, x.2.1.1.2.2.2.2.2.2.2.2.2.2.2.2.2.1))
end
end Go.V.P
