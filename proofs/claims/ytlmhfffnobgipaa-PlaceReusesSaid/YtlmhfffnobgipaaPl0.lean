/- What functions compute. -/
import Derived.Test.YtlmhfffnobgipaaPlEnv
namespace Go.V.P
open Go.RowKit Go.V Go.Proofs
set_option linter.unusedVariables false
set_option maxRecDepth 100000
section
variable {α β : Type} (low : Int) (high : Int) (k : St → Option α)
noncomputable abbrev C0 := codeOf E.P 72
noncomputable abbrev P0 := @preK α E 72 cpA noE
theorem shape_within_fz : P0 2 C0 ⟨[(0, ri low), (1, ri high)], [], [], 6⟩ k = k ⟨[(4, .one (.fn 74 [.cell [di low], .cell [di high]]))], [], [], 6⟩ := by kernel_rfl
/-- quilt/shape.within -/
def shape_within_q (K : ((Int × Unit) × (Int × Unit) × Unit) → β) : β := (K ((low, ()), (high, ()), ()))
def shape_within : ((Int × Unit) × (Int × Unit) × Unit) := shape_within_q low high (fun y => y)
theorem shape_within_n (K : ((Int × Unit) × (Int × Unit) × Unit) → β) : shape_within_q low high K = K (shape_within low high) := rfl
theorem shape_within_is : stepS E cpA noE 72 [ri low, ri high] = (fun y : ((Int × Unit) × (Int × Unit) × Unit) => some (.one (.fn 74 [.cell [di y.1.1], .cell [di y.2.1.1]]) : R)) (shape_within low high) := by
  refine Eq.trans ?_ (shape_within_n low high (fun y : ((Int × Unit) × (Int × Unit) × Unit) => some (.one (.fn 74 [.cell [di y.1.1], .cell [di y.2.1.1]]) : R)))
  refine (stepG_is (nt := 6) (regs := [(0, ri low), (1, ri high)])).trans ?_
  unfold shape_within_q
  refine (pre2 (shape_within_fz low high _)).trans ?_
  refine (ret_eq).trans ?_
  kernel_rfl
noncomputable def cp1 : CallP := withC cpA 72 [pI, pI] (.one (.one (.fn 74 (.cons (.cell (.cons (.g (.int .i64)) .nil)) (.cons (.cell (.cons (.g (.int .i64)) .nil)) .nil))))) (fun y : ((Int × Unit) × (Int × Unit) × Unit) => y) (fun x => some (shape_within x.1 x.2.1))
theorem cp1_ok : PureOK E cp1 := conS eok cpA_ok noE_ok fun x => Eq.mp (by kernel_rfl) (shape_within_is x.1 x.2.1)
end
section
variable {α β : Type} (l_ : (List Int)) (c1_ : Int) (c2_ : Int) (s25 : Int) (k : St → Option α) (q : Kont α)
noncomputable abbrev C1 := codeOf E.P 74
noncomputable abbrev P1 := @preK α E 74 cp1 noE
noncomputable abbrev R1 := @runCode α E 74 cp1 noE
abbrev S1_0 : St := ⟨[(0, rl (.one (.int .i64)) l_), (1, .one (.cell [di c1_])), (2, .one (.cell [di c2_]))], [], [], 22⟩
theorem shape_within_1_f1 : P1 1 C1 (S1_0 l_ c1_ c2_) k = k (S1_0 l_ c1_ c2_) := by kernel_rfl
abbrev S1_1 : St := ⟨[(1, .one (.cell [di c1_])), (2, .one (.cell [di c2_])), (7, rl (.one (.int .i64)) l_), (8, ri (l_.length : Int)), (9, ri 0)], [], [], 22⟩
theorem shape_within_1_f2 : P1 1 C1.r.l (S1_0 l_ c1_ c2_) k = k (S1_1 l_ c1_ c2_) := by kernel_rfl
abbrev S1_2 : St := ⟨[(1, .one (.cell [di c1_])), (2, .one (.cell [di c2_])), (7, rl (.one (.int .i64)) l_), (8, ri (l_.length : Int)), (9, ri s25)], [], [], 22⟩
theorem shape_within_1_fz : P1 1 C1.r.l.r.b.b (S1_2 l_ c1_ c2_ s25) k = k ⟨[(1, .one (.cell [di c1_])), (2, .one (.cell [di c2_])), (7, rl (.one (.int .i64)) l_), (8, ri (l_.length : Int)), (9, ri s25), (10, rb (decide (s25 < (l_.length : Int))))], [], [], 22⟩ := by kernel_rfl
def shape_within_1_r3_p : Option Unit := (bif (decide ((0 : Int) ≤ s25)) then (bif (decide (s25 < (l_.length : Int))) then (some ()) else none) else none)
abbrev S1_3 : St := ⟨[(1, .one (.cell [di c1_])), (2, .one (.cell [di c2_])), (6, ri (gt l_ s25 (0 : Int))), (7, rl (.one (.int .i64)) l_), (8, ri (l_.length : Int)), (9, ri s25)], [], [], 22⟩
theorem shape_within_1_r3 : P1 1 C1.r.l.r.b.b.r.r.l.b (S1_2 l_ c1_ c2_ s25) k = Option.bind (shape_within_1_r3_p l_ s25) (fun y28 : Unit => k (S1_3 l_ c1_ c2_ s25)) := .trans (by kernel_rfl) (bif_b (bif_b some_b none_b) none_b)
def shape_within_1_r4_q (K : Bool → β) : β := (bif (decide ((gt l_ s25 (0 : Int)) < c1_)) then (K true) else (K (decide ((gt l_ s25 (0 : Int)) > c2_))))
def shape_within_1_r4_p : Bool := shape_within_1_r4_q l_ c1_ c2_ s25 (fun y => y)
theorem shape_within_1_r4_n (K : Bool → β) : shape_within_1_r4_q l_ c1_ c2_ s25 K = K (shape_within_1_r4_p l_ c1_ c2_ s25) := (bif_k K rfl rfl)
theorem shape_within_1_r4 : P1 1 C1.r.l.r.b.b.r.r.l.b.r (S1_3 l_ c1_ c2_ s25) k = k ⟨[(1, .one (.cell [di c1_])), (2, .one (.cell [di c2_])), (7, rl (.one (.int .i64)) l_), (8, ri (l_.length : Int)), (9, ri s25), (20, rb (shape_within_1_r4_p l_ c1_ c2_ s25))], [], [], 22⟩ := Eq.trans (by kernel_rfl) (shape_within_1_r4_n l_ c1_ c2_ s25 (fun y29 : Bool => k ⟨[(1, .one (.cell [di c1_])), (2, .one (.cell [di c2_])), (7, rl (.one (.int .i64)) l_), (8, ri (l_.length : Int)), (9, ri s25), (20, rb y29)], [], [], 22⟩))
abbrev S1_4 : St := ⟨[(4, rb false)], [], [], 22⟩
theorem shape_within_1_fzx1 : P1 1 C1.r.l.r.b.b.r.r.l.b.r.r.t (S1_2 l_ c1_ c2_ s25) k = k S1_4 := by kernel_rfl
theorem shape_within_1_r6 : R1 C1.r.l.r.b.b.r.r.r (S1_2 l_ c1_ c2_ s25) q = q .normal ⟨[(1, .one (.cell [di c1_])), (2, .one (.cell [di c2_])), (7, rl (.one (.int .i64)) l_), (8, ri (l_.length : Int)), (9, ri (IntKind.wrap .i64 (s25 + 1)))], [], [], 22⟩ := by kernel_rfl
def shape_within_1_l2_p : Option (Int ⊕ (Int ⊕ Unit)) := (bif (decide (s25 < (l_.length : Int))) then (Option.bind (shape_within_1_r3_p l_ s25) (fun y28 : Unit => (bif (shape_within_1_r4_p l_ c1_ c2_ s25) then (some (Sum.inr (Sum.inr ()))) else (some (Sum.inl (IntKind.wrap .i64 (s25 + 1))))))) else (some (Sum.inr (Sum.inl s25))))
abbrev S1_5 (y30 : Int) : St := ⟨[(1, .one (.cell [di c1_])), (2, .one (.cell [di c2_])), (7, rl (.one (.int .i64)) l_), (8, ri (l_.length : Int)), (9, ri y30)], [], [], 22⟩
theorem shape_within_1_l2_b : R1 C1.r.l.r.b.b (S1_2 l_ c1_ c2_ s25) (loopKont 0 q) = Option.bind (shape_within_1_l2_p l_ c1_ c2_ s25) (either (fun y : Int => q .normal ⟨[(1, .one (.cell [di c1_])), (2, .one (.cell [di c2_])), (7, rl (.one (.int .i64)) l_), (8, ri (l_.length : Int)), (9, ri y)], [], [], 22⟩) (either (fun y30 : Int => q (.exit 0) (S1_5 l_ c1_ c2_ y30)) (fun y31 : Unit => q .ret S1_4))) := by
  refine .trans ?_ (bif_b (bind_b fun y28 => (bif_b e3_2 e3_0)) e3_1)
  refine (pre1 (shape_within_1_fz l_ c1_ c2_ s25 _)).trans ?_
  refine .trans seq_push ?_
  refine (cond_e (b := (decide (s25 < (l_.length : Int)))) (st' := (S1_2 l_ c1_ c2_ s25)) ).trans (bif_g ?_ ?_)
  · refine (skip_eq).trans ?_
    refine (seqC_normal (st' := (S1_2 l_ c1_ c2_ s25))).trans ?_
    refine .trans seq_push ?_
    refine (block_push (id := 1)).trans ?_
    refine (pre1 (shape_within_1_r3 l_ c1_ c2_ s25 _)).trans (bind_g fun y28 => ?_)
    refine (pre1 (shape_within_1_r4 l_ c1_ c2_ s25 _)).trans ?_
    refine (cond_e (b := (shape_within_1_r4_p l_ c1_ c2_ s25)) (st' := (S1_2 l_ c1_ c2_ s25)) ).trans (bif_g ?_ ?_)
    · refine (pre1 (shape_within_1_fzx1 l_ c1_ c2_ s25 _)).trans ?_
      refine (ret_eq).trans ?_
      refine block_ret.trans ?_
      refine seqC_ret.trans ?_
      kernel_rfl
    · refine (skip_eq).trans ?_
      refine block_normal.trans ?_
      refine (seqC_normal (st' := (S1_2 l_ c1_ c2_ s25))).trans ?_
      refine (shape_within_1_r6 l_ c1_ c2_ s25 _).trans ?_
      kernel_rfl
  · refine ((exit_eq (j := 0))).trans ?_
    refine seqC_exit.trans ?_
    kernel_rfl
theorem shape_within_1_l2 : R1 C1.r.l.r.b (S1_1 l_ c1_ c2_) q = Option.bind (iterN (shape_within_1_l2_p l_ c1_ c2_) LL (0 : Int)) (either (fun y30 : Int => q (.exit 0) (S1_5 l_ c1_ c2_ y30)) (fun y31 : Unit => q .ret S1_4)) :=
  Eq.trans (by kernel_rfl) (loop_iter2 (S := fun s25 : Int => (S1_2 l_ c1_ c2_ s25)) (Y1 := fun y30 : Int => ((.exit 0), (S1_5 l_ c1_ c2_ y30))) (Y2 := fun y31 : Unit => (.ret, S1_4)) (fun s q => shape_within_1_l2_b l_ c1_ c2_ s q) (fun z => rfl) (fun z => rfl) LL (0 : Int))
theorem shape_within_1_fzx2 : P1 1 C1.r.r ⟨[], [], [], 22⟩ k = k ⟨[(4, rb true)], [], [], 22⟩ := by kernel_rfl
/-- quilt/shape.within$1 -/
def shape_within_1 : Option Bool := (Option.bind (iterN (shape_within_1_l2_p l_ c1_ c2_) LL (0 : Int)) (either (fun y30 : Int => (some true)) (fun y31 : Unit => (some false))))
theorem shape_within_1_is : stepS E cp1 noE 74 [rl (.one (.int .i64)) l_, .one (.cell [di c1_]), .one (.cell [di c2_])] = Option.bind (shape_within_1 l_ c1_ c2_) (fun y : Bool => some (rb y : R)) := by
  refine .trans ?_ (bind_b (either_b (fun y30 => some_b) (fun y31 => some_b)))
  refine (stepG_is (nt := 22) (regs := [(0, rl (.one (.int .i64)) l_), (1, .one (.cell [di c1_])), (2, .one (.cell [di c2_]))])).trans ?_
  refine (pre1 (shape_within_1_f1 l_ c1_ c2_ _)).trans ?_
  refine .trans seq_push ?_
  refine (pre1 (shape_within_1_f2 l_ c1_ c2_ _)).trans ?_
  refine (block_push (id := 0)).trans ?_
  refine (shape_within_1_l2 l_ c1_ c2_ _).trans (bind_g (either_g (fun y30 => ?_) (fun y31 => ?_)))
  · refine block_same.trans ?_
    refine (seqC_normal (st' := ⟨[], [], [], 22⟩)).trans ?_
    refine (pre1 (shape_within_1_fzx2 _)).trans ?_
    refine (ret_eq).trans ?_
    kernel_rfl
  · refine block_ret.trans ?_
    refine seqC_ret.trans ?_
    kernel_rfl
noncomputable def cp2 : CallP := withC cp1 74 [(.one (.g (.sl (.one (.int .i64))))), (.one (.cell (.cons (.g (.int .i64)) .nil))), (.one (.cell (.cons (.g (.int .i64)) .nil)))] (.one pB) (fun y : Bool => y) (fun x => shape_within_1 x.1 x.2.1.1 x.2.2.1.1)
theorem cp2_ok : PureOK E cp2 := conS eok cp1_ok noE_ok fun x => Eq.mp (by kernel_rfl) (shape_within_1_is x.1 x.2.1.1 x.2.2.1.1)
end
noncomputable abbrev C2 := codeOf E.P 55
noncomputable abbrev P2 {α : Type} := @preK α E 55 cp2 noE
def shape_may_r1_p (s_ : I3) : Option Bool := (Option.bind (shape_within_1 [s_.1, s_.2.1] (((shape_within (1 : Int) (16 : Int)).1).1) (((shape_within (1 : Int) (16 : Int)).2.1).1)) (fun y32 : Bool => (bif y32 then (Option.bind (shape_within_1 [s_.2.2] (((shape_within (1 : Int) (8 : Int)).1).1) (((shape_within (1 : Int) (8 : Int)).2.1).1)) (fun y33 : Bool => (some y33))) else (some false))))
theorem shape_may_r1 {α : Type} (s_ : I3) (k : St → Option α) : P2 2 C2 ⟨[(0, rA tsI3 s_)], [], [], 17⟩ k = Option.bind (shape_may_r1_p s_) (fun y34 : Bool => k ⟨[(2, rb y34)], [], [], 17⟩) := .trans (by kernel_rfl) (bind_b fun y32 => (bif_b (bind_b fun y33 => some_b) some_b))
/-- quilt/shape.may -/
def shape_may (s_ : I3) : Option Bool := (Option.bind (shape_may_r1_p s_) (fun y34 : Bool => (some y34)))
theorem shape_may_is (s_ : I3) : stepS E cp2 noE 55 [rA tsI3 s_] = Option.bind (shape_may s_) (fun y : Bool => some (rb y : R)) := by
  refine .trans ?_ (bind_b fun y34 => some_b)
  refine (stepG_is (nt := 17) (regs := [(0, rA tsI3 s_)])).trans ?_
  refine (pre2 (shape_may_r1 s_ _)).trans (bind_g fun y34 => ?_)
  refine (ret_eq).trans ?_
  kernel_rfl
noncomputable def cp3 : CallP := withC cp2 55 [(.agg tsI3)] (.one pB) (fun y : Bool => y) (fun x => shape_may x.1)
theorem cp3_ok : PureOK E cp3 := conS eok cp2_ok noE_ok fun x => Eq.mp (by kernel_rfl) (shape_may_is x.1)
noncomputable abbrev C3 := codeOf E.P 46
noncomputable abbrev P3 {α : Type} := @preK α E 46 cp3 noE
theorem shape_May_f1 {α : Type} (s_ : I3) (k : St → Option α) : P3 1 C3 ⟨[(0, rA tsI3 s_)], [], [], 6⟩ k = k ⟨[(1, rC tsI3 s_)], [], [], 6⟩ := by kernel_rfl
theorem shape_May_r1 {α : Type} (s_ : I3) (k : St → Option α) : P3 1 C3.r.l ⟨[(1, rC tsI3 s_)], [], [], 6⟩ k = Option.bind (shape_may s_) fun y36 : Bool => k ⟨[(5, rb (!y36))], [], [], 6⟩ := by kernel_rfl
theorem shape_May_fz {α : Type} (k : St → Option α) : P3 1 C3.r.l.r.t ⟨[], [], [], 6⟩ k = k ⟨[(2, ri 10)], [], [], 6⟩ := by kernel_rfl
theorem shape_May_fzx1 {α : Type} (k : St → Option α) : P3 1 C3.r.r ⟨[], [], [], 6⟩ k = k ⟨[(2, ri 0)], [], [], 6⟩ := by kernel_rfl
/-- quilt/shape.May -/
def shape_May (s_ : I3) : Option Int := (Option.bind (shape_may s_) (fun y36 : Bool => (bif (!y36) then (some (10 : Int)) else (some (0 : Int)))))
theorem shape_May_is (s_ : I3) : stepS E cp3 noE 46 [rA tsI3 s_] = Option.bind (shape_May s_) (fun y : Int => some (ri y : R)) := by
  refine .trans ?_ (bind_b fun y36 => (bif_b some_b some_b))
  refine (stepG_is (nt := 6) (regs := [(0, rA tsI3 s_)])).trans ?_
  refine (pre1 (shape_May_f1 s_ _)).trans ?_
  refine .trans seq_push ?_
  refine (pre1 (shape_May_r1 s_ _)).trans (bind_g fun y36 => ?_)
  refine (cond_e (b := (!y36)) (st' := ⟨[], [], [], 6⟩) ).trans (bif_g ?_ ?_)
  · refine (pre1 (shape_May_fz _)).trans ?_
    refine (ret_eq).trans ?_
    refine seqC_ret.trans ?_
    kernel_rfl
  · refine (skip_eq).trans ?_
    refine (seqC_normal (st' := ⟨[], [], [], 6⟩)).trans ?_
    refine (pre1 (shape_May_fzx1 _)).trans ?_
    refine (ret_eq).trans ?_
    kernel_rfl
noncomputable def cp4 : CallP := withC cp3 46 [(.agg tsI3)] (.one pI) (fun y : Int => y) (fun x => shape_May x.1)
theorem cp4_ok : PureOK E cp4 := conS eok cp3_ok noE_ok fun x => Eq.mp (by kernel_rfl) (shape_May_is x.1)
section
variable {α β : Type} (x_ : Int) (low : Int) (high : Int) (k : St → Option α)
noncomputable abbrev C4 := codeOf E.P 31
noncomputable abbrev P4 := @preK α E 31 cp4 noE
def graph_within_r1_q (K : Bool → β) : β := (bif (decide (x_ ≥ low)) then (K (decide (x_ ≤ high))) else (K false))
def graph_within_r1_p : Bool := graph_within_r1_q x_ low high (fun y => y)
theorem graph_within_r1_n (K : Bool → β) : graph_within_r1_q x_ low high K = K (graph_within_r1_p x_ low high) := (bif_k K rfl rfl)
theorem graph_within_r1 : P4 2 C4 ⟨[(0, ri x_), (1, ri low), (2, ri high)], [], [], 15⟩ k = k ⟨[(6, rb (graph_within_r1_p x_ low high))], [], [], 15⟩ := Eq.trans (by kernel_rfl) (graph_within_r1_n x_ low high (fun y38 : Bool => k ⟨[(6, rb y38)], [], [], 15⟩))
/-- quilt/graph.within -/
def graph_within_q (K : Bool → β) : β := (K (graph_within_r1_p x_ low high))
def graph_within : Bool := graph_within_q x_ low high (fun y => y)
theorem graph_within_n (K : Bool → β) : graph_within_q x_ low high K = K (graph_within x_ low high) := rfl
theorem graph_within_is : stepS E cp4 noE 31 [ri x_, ri low, ri high] = (fun y : Bool => some (rb y : R)) (graph_within x_ low high) := by
  refine Eq.trans ?_ (graph_within_n x_ low high (fun y : Bool => some (rb y : R)))
  refine (stepG_is (nt := 15) (regs := [(0, ri x_), (1, ri low), (2, ri high)])).trans ?_
  unfold graph_within_q
  refine (pre2 (graph_within_r1 x_ low high _)).trans ?_
  refine (ret_eq).trans ?_
  kernel_rfl
noncomputable def cp5 : CallP := withC cp4 31 [pI, pI, pI] (.one pB) (fun y : Bool => y) (fun x => some (graph_within x.1 x.2.1 x.2.2.1))
theorem cp5_ok : PureOK E cp5 := conS eok cp4_ok noE_ok fun x => Eq.mp (by kernel_rfl) (graph_within_is x.1 x.2.1 x.2.2.1)
end
/-- slices.Clone -/
def slices_Cloneapi_Value_api_Value (s_ : (List I4)) : Option (List I4) := bif s_.isEmpty then some [] else bif decide (([] : (List I4)).length + s_.length ≤ maxL) then some ([] ++ s_) else none
theorem slices_Cloneapi_Value_api_Value_is (s_ : (List I4)) : stepO E cp5 noE 47 [.one (dl tsI4 s_)] = Option.bind (slices_Cloneapi_Value_api_Value s_) (fun y : (List I4) => some (.one (.ow tsI4 y (.s 0)))) := by
  cases s_ with
  | nil =>
    have h : stepO E cp5 noE 47 [.one (dl tsI4 [])] = both (some (.one (.ow tsI4 [] (.s 0)))) (some (.one (.ow tsI4 [] (.s 0)))) := by kernel_rfl
    exact h.trans (if_pos rfl)
  | cons x l =>
    have h : stepO E cp5 noE 47 [.one (dl tsI4 (x :: l))] = bif decide (([] : (List I4)).length + (x :: l).length ≤ maxL) then some (.one (.ow tsI4 ([] ++ (x :: l)) (.s 0))) else none := by kernel_rfl
    refine h.trans ?_
    show _ = Option.bind (bif decide (([] : (List I4)).length + (x :: l).length ≤ maxL) then some ([] ++ (x :: l)) else none) _
    cases decide (([] : (List I4)).length + (x :: l).length ≤ maxL) <;> rfl
theorem slices_Cloneapi_Value_api_Value_c (x : denL [(.one (.g (.sl tsI4)))]) : stepO E cp5 noE 47 (encL [(.one (.g (.sl tsI4)))] x) = (slices_Cloneapi_Value_api_Value x.1).bind fun y => some (Po.enc (.one (.one (.ow tsI4))) y) := Eq.mp (by kernel_rfl) (slices_Cloneapi_Value_api_Value_is x.1)
noncomputable def cp6 : CallP := withC cp5 47 [(.one (.g (.sl tsI4)))] (.one (.one (.ow tsI4))) (fun y => y) (fun x => slices_Cloneapi_Value_api_Value x.1)
theorem cp6_ok : PureOK E cp6 := withC_ok cp5_ok (stepO_ok eok cp5_ok noE_ok) fun x => con_of (enc := fun y => Po.enc (.one (.one (.ow tsI4))) y) (slices_Cloneapi_Value_api_Value_c x)
section
variable {α β : Type} (g_ : Graph) (s53 : Int) (k : St → Option α) (q : Kont α)
noncomputable abbrev C6 := codeOf E.P 39
noncomputable abbrev P6 := @preK α E 39 cp6 noE
noncomputable abbrev R6 := @runCode α E 39 cp6 noE
abbrev S6_0 : St := ⟨[(1, rC tsGraph g_)], [], [], 55⟩
theorem graph_goesIn_f1 : P6 1 C6 ⟨[(0, rA tsGraph g_)], [], [], 55⟩ k = k (S6_0 g_) := by kernel_rfl
def graph_goesIn_r1_q (K : Bool → β) : β := (bif (decide ((g_.1.length : Int) > 4)) then (K true) else (bif (decide ((g_.2.1.length : Int) > 12)) then (K true) else (K (decide ((g_.2.2.length : Int) > 4)))))
def graph_goesIn_r1_p : Bool := graph_goesIn_r1_q g_ (fun y => y)
theorem graph_goesIn_r1_n (K : Bool → β) : graph_goesIn_r1_q g_ K = K (graph_goesIn_r1_p g_) := (bif_k K rfl (bif_k K rfl rfl))
theorem graph_goesIn_r1 : P6 1 C6.r.l.b (S6_0 g_) k = k ⟨[(1, rC tsGraph g_), (6, rb (graph_goesIn_r1_p g_))], [], [], 55⟩ := Eq.trans (by kernel_rfl) (graph_goesIn_r1_n g_ (fun y4 : Bool => k ⟨[(1, rC tsGraph g_), (6, rb y4)], [], [], 55⟩))
theorem graph_goesIn_fz : P6 1 C6.r.l.b.r.t (S6_0 g_) k = k ⟨[(2, .one (.ow tsI4 [] (.v 2))), (3, ri 3)], [], [], 55⟩ := by kernel_rfl
def graph_goesIn_r3_q (K : Bool → β) : β := (bif ((g_.1.length : Int) == 0) then (K true) else (K ((g_.2.2.length : Int) == 0)))
def graph_goesIn_r3_p : Bool := graph_goesIn_r3_q g_ (fun y => y)
theorem graph_goesIn_r3_n (K : Bool → β) : graph_goesIn_r3_q g_ K = K (graph_goesIn_r3_p g_) := (bif_k K rfl rfl)
theorem graph_goesIn_r3 : P6 1 C6.r.l.b.r.e (S6_0 g_) k = k ⟨[(1, rC tsGraph g_), (23, rb (graph_goesIn_r3_p g_))], [], [], 55⟩ := Eq.trans (by kernel_rfl) (graph_goesIn_r3_n g_ (fun y5 : Bool => k ⟨[(1, rC tsGraph g_), (23, rb y5)], [], [], 55⟩))
theorem graph_goesIn_fzx1 : P6 1 C6.r.l.b.r.e.r.t (S6_0 g_) k = k ⟨[(2, .one (.ow tsI4 [] (.v 2))), (3, ri 13)], [], [], 55⟩ := by kernel_rfl
abbrev S6_1 : St := ⟨[(1, rC tsGraph g_), (35, rl tsI4 g_.1), (36, ri (g_.1.length : Int)), (37, ri 0)], [], [], 55⟩
theorem graph_goesIn_f6 : P6 1 C6.r.r.l (S6_0 g_) k = k (S6_1 g_) := by kernel_rfl
abbrev S6_2 : St := ⟨[(1, rC tsGraph g_), (35, rl tsI4 g_.1), (36, ri (g_.1.length : Int)), (37, ri s53)], [], [], 55⟩
theorem graph_goesIn_fzx2 : P6 1 C6.r.r.l.r.b.b (S6_2 g_ s53) k = k ⟨[(1, rC tsGraph g_), (35, rl tsI4 g_.1), (36, ri (g_.1.length : Int)), (37, ri s53), (38, rb (decide (s53 < (g_.1.length : Int))))], [], [], 55⟩ := by kernel_rfl
def graph_goesIn_r7_p : Option Unit := (bif (decide ((0 : Int) ≤ s53)) then (bif (decide (s53 < (g_.1.length : Int))) then (some ()) else none) else none)
abbrev S6_3 : St := ⟨[(1, rC tsGraph g_), (5, rF 0), (35, rl tsI4 g_.1), (36, ri (g_.1.length : Int)), (37, ri s53)], [(tsI4.leaves (gt g_.1 s53 dI4))], [], 55⟩
theorem graph_goesIn_r7 : P6 1 C6.r.r.l.r.b.b.r.r.l.b (S6_2 g_ s53) k = Option.bind (graph_goesIn_r7_p g_ s53) (fun y56 : Unit => k (S6_3 g_ s53)) := .trans (by kernel_rfl) (bif_b (bif_b some_b none_b) none_b)
theorem graph_goesIn_r8 : P6 1 C6.r.r.l.r.b.b.r.r.l.b.r.b (S6_3 g_ s53) k = Option.bind (shape_May ((gt g_.1 s53 dI4).1, (gt g_.1 s53 dI4).2.1, (gt g_.1 s53 dI4).2.2.1)) fun y57 : Int => k ⟨[(1, rC tsGraph g_), (5, rF 0), (35, rl tsI4 g_.1), (36, ri (g_.1.length : Int)), (37, ri s53), (41, rb (y57 != 0))], [(tsI4.leaves (gt g_.1 s53 dI4))], [], 55⟩ := by kernel_rfl
theorem graph_goesIn_fzx3 : P6 1 C6.r.r.l.r.b.b.r.r.l.b.r.b.r.t (S6_3 g_ s53) k = k ⟨[(2, .one (.ow tsI4 [] (.v 2))), (3, ri 10)], [[]], [], 55⟩ := by kernel_rfl
theorem graph_goesIn_f1000011 : P6 1 C6.r.r.l.r.b.b.r.r.l.b.r.b.r.e (S6_3 g_ s53) k = k ⟨[(1, rC tsGraph g_), (35, rl tsI4 g_.1), (36, ri (g_.1.length : Int)), (37, ri s53), (46, rb (!(graph_within ((gt g_.1 s53 dI4).2.2.2) (-128 : Int) (127 : Int))))], [[]], [], 55⟩ := by kernel_rfl
abbrev S6_4 : St := ⟨[(1, rC tsGraph g_), (35, rl tsI4 g_.1), (36, ri (g_.1.length : Int)), (37, ri s53)], [[]], [], 55⟩
theorem graph_goesIn_fzx4 : P6 1 C6.r.r.l.r.b.b.r.r.l.b.r.b.r.e.r.t (S6_4 g_ s53) k = k ⟨[(2, .one (.ow tsI4 [] (.v 2))), (3, ri 11)], [[]], [], 55⟩ := by kernel_rfl
theorem graph_goesIn_r12 : R6 C6.r.r.l.r.b.b.r.r.r (S6_4 g_ s53) q = q .normal ⟨[(1, rC tsGraph g_), (35, rl tsI4 g_.1), (36, ri (g_.1.length : Int)), (37, ri (IntKind.wrap .i64 (s53 + 1)))], [[]], [], 55⟩ := by kernel_rfl
def graph_goesIn_l6_p : Option (Int ⊕ (Int ⊕ Int)) := (bif (decide (s53 < (g_.1.length : Int))) then (Option.bind (graph_goesIn_r7_p g_ s53) (fun y56 : Unit => (Option.bind (shape_May ((gt g_.1 s53 dI4).1, (gt g_.1 s53 dI4).2.1, (gt g_.1 s53 dI4).2.2.1)) (fun y57 : Int => (bif (y57 != 0) then (some (Sum.inr (Sum.inr (10 : Int)))) else (bif (!(graph_within ((gt g_.1 s53 dI4).2.2.2) (-128 : Int) (127 : Int))) then (some (Sum.inr (Sum.inr (11 : Int)))) else (some (Sum.inl (IntKind.wrap .i64 (s53 + 1)))))))))) else (some (Sum.inr (Sum.inl s53))))
abbrev S6_5 (y58 : Int) : St := ⟨[(1, rC tsGraph g_), (35, rl tsI4 g_.1), (36, ri (g_.1.length : Int)), (37, ri y58)], [], [], 55⟩
abbrev S6_6 (y59 : Int) : St := ⟨[(2, .one (.ow tsI4 [] (.v 2))), (3, ri y59)], [[]], [], 55⟩
theorem graph_goesIn_l6_b : R6 C6.r.r.l.r.b.b (S6_2 g_ s53) (loopKont 0 q) = Option.bind (graph_goesIn_l6_p g_ s53) (either (fun y : Int => q .normal ⟨[(1, rC tsGraph g_), (35, rl tsI4 g_.1), (36, ri (g_.1.length : Int)), (37, ri y)], [], [], 55⟩) (either (fun y58 : Int => q (.exit 1) (S6_5 g_ y58)) (fun y59 : Int => q .ret (S6_6 y59)))) := by
  refine .trans ?_ (bif_b (bind_b fun y56 => (bind_b fun y57 => (bif_b e3_2 (bif_b e3_2 e3_0)))) e3_1)
  refine (pre1 (graph_goesIn_fzx2 g_ s53 _)).trans ?_
  refine .trans seq_push ?_
  refine (cond_e (b := (decide (s53 < (g_.1.length : Int)))) (st' := (S6_2 g_ s53)) ).trans (bif_g ?_ ?_)
  · refine (skip_eq).trans ?_
    refine (seqC_normal (st' := (S6_2 g_ s53))).trans ?_
    refine .trans seq_push ?_
    refine (block_push (id := 2)).trans ?_
    refine (pre1 (graph_goesIn_r7 g_ s53 _)).trans (bind_g fun y56 => ?_)
    refine (block_push (id := 3)).trans ?_
    refine (pre1 (graph_goesIn_r8 g_ s53 _)).trans (bind_g fun y57 => ?_)
    refine (cond_e (b := (y57 != 0)) (st' := (S6_3 g_ s53)) ).trans (bif_g ?_ ?_)
    · refine (pre1 (graph_goesIn_fzx3 g_ s53 _)).trans ?_
      refine (ret_eq).trans ?_
      refine block_ret.trans ?_
      refine block_ret.trans ?_
      refine seqC_ret.trans ?_
      kernel_rfl
    · refine (pre1 (graph_goesIn_f1000011 g_ s53 _)).trans ?_
      refine (cond_e (b := (!(graph_within ((gt g_.1 s53 dI4).2.2.2) (-128 : Int) (127 : Int)))) (st' := (S6_4 g_ s53)) ).trans (bif_g ?_ ?_)
      · refine (pre1 (graph_goesIn_fzx4 g_ s53 _)).trans ?_
        refine (ret_eq).trans ?_
        refine block_ret.trans ?_
        refine block_ret.trans ?_
        refine seqC_ret.trans ?_
        kernel_rfl
      · refine (skip_eq).trans ?_
        refine block_normal.trans ?_
        refine block_normal.trans ?_
        refine (seqC_normal (st' := (S6_4 g_ s53))).trans ?_
        refine (graph_goesIn_r12 g_ s53 _).trans ?_
        kernel_rfl
  · refine ((exit_eq (j := 1))).trans ?_
    refine seqC_exit.trans ?_
    kernel_rfl
theorem graph_goesIn_l6 : R6 C6.r.r.l.r.b (S6_1 g_) q = Option.bind (iterN (graph_goesIn_l6_p g_) LL (0 : Int)) (either (fun y58 : Int => q (.exit 1) (S6_5 g_ y58)) (fun y59 : Int => q .ret (S6_6 y59))) :=
  Eq.trans (by kernel_rfl) (loop_iter2 (S := fun s53 : Int => (S6_2 g_ s53)) (Y1 := fun y58 : Int => ((.exit 1), (S6_5 g_ y58))) (Y2 := fun y59 : Int => (.ret, (S6_6 y59))) (fun s q => graph_goesIn_l6_b g_ s q) (fun z => rfl) (fun z => rfl) LL (0 : Int))
theorem graph_goesIn_r13 : P6 1 C6.r.r.r (S6_0 g_) k = Option.bind (slices_Cloneapi_Value_api_Value g_.1) fun y60 : (List I4) => k ⟨[(2, rO tsI4 y60 2), (3, ri 0)], [], [], 55⟩ := by kernel_rfl
/-- quilt/graph.goesIn -/
def graph_goesIn : Option ((List I4) × Int) := (bif (graph_goesIn_r1_p g_) then (some ([], (3 : Int))) else (bif (graph_goesIn_r3_p g_) then (some ([], (13 : Int))) else (Option.bind (iterN (graph_goesIn_l6_p g_) LL (0 : Int)) (either (fun y58 : Int => (Option.bind (slices_Cloneapi_Value_api_Value g_.1) (fun y60 : (List I4) => (some (y60, (0 : Int)))))) (fun y59 : Int => (some ([], y59)))))))
theorem graph_goesIn_is : stepO E cp6 noE 39 [rA tsGraph g_] = Option.bind (graph_goesIn g_) (fun y : ((List I4) × Int) => some (.tup [.one (.ow tsI4 y.1 (.s 0)), ri y.2] : R)) := by
  refine .trans ?_ (bif_b some_b (bif_b some_b (bind_b (either_b (fun y58 => (bind_b fun y60 => some_b)) (fun y59 => some_b)))))
  refine (stepG_is (nt := 55) (regs := [(0, rA tsGraph g_)])).trans ?_
  refine (pre1 (graph_goesIn_f1 g_ _)).trans ?_
  refine .trans seq_push ?_
  refine (block_push (id := 0)).trans ?_
  refine (pre1 (graph_goesIn_r1 g_ _)).trans ?_
  refine (cond_e (b := (graph_goesIn_r1_p g_)) (st' := (S6_0 g_)) ).trans (bif_g ?_ ?_)
  · refine (pre1 (graph_goesIn_fz g_ _)).trans ?_
    refine (ret_eq).trans ?_
    refine block_ret.trans ?_
    refine seqC_ret.trans ?_
    kernel_rfl
  · refine (pre1 (graph_goesIn_r3 g_ _)).trans ?_
    refine (cond_e (b := (graph_goesIn_r3_p g_)) (st' := (S6_0 g_)) ).trans (bif_g ?_ ?_)
    · refine (pre1 (graph_goesIn_fzx1 g_ _)).trans ?_
      refine (ret_eq).trans ?_
      refine block_ret.trans ?_
      refine seqC_ret.trans ?_
      kernel_rfl
    · refine (skip_eq).trans ?_
      refine block_normal.trans ?_
      refine (seqC_normal (st' := (S6_0 g_))).trans ?_
      refine .trans seq_push ?_
      refine (pre1 (graph_goesIn_f6 g_ _)).trans ?_
      refine (block_push (id := 1)).trans ?_
      refine (graph_goesIn_l6 g_ _).trans (bind_g (either_g (fun y58 => ?_) (fun y59 => ?_)))
      · refine block_same.trans ?_
        refine (seqC_normal (st' := (S6_0 g_))).trans ?_
        refine (pre1 (graph_goesIn_r13 g_ _)).trans (bind_g fun y60 => ?_)
        refine (ret_eq).trans ?_
        kernel_rfl
      · refine block_ret.trans ?_
        refine seqC_ret.trans ?_
        kernel_rfl
noncomputable def cp7 : CallP := withC cp6 39 [(.agg tsGraph)] (.tup [(.one (.ow tsI4)), pI]) (fun y : ((List I4) × Int) => (y.1, y.2, ())) (fun x => graph_goesIn x.1)
theorem cp7_ok : PureOK E cp7 := conO eok cp6_ok noE_ok fun x => Eq.mp (by kernel_rfl) (graph_goesIn_is x.1)
end
section
variable {α β : Type} (vals : (List I4)) (l_ : (List Int)) (s93 : ((List I4) × Int)) (y102 : ((List I4) × Int)) (k : St → Option α) (q : Kont α)
noncomputable abbrev C7 := codeOf E.P 40
noncomputable abbrev P7 := @preK α E 40 cp7 noE
noncomputable abbrev R7 := @runCode α E 40 cp7 noE
abbrev S7_0 : St := ⟨[(0, rl tsI4 vals), (1, rl (.one (.int .i64)) l_), (4, .one (.ow tsI4 [] (.v 4)))], [], [], 29⟩
theorem graph_picked_f1 : P7 1 C7 ⟨[(0, rl tsI4 vals), (1, rl (.one (.int .i64)) l_)], [], [], 29⟩ k = k (S7_0 vals l_) := by kernel_rfl
abbrev S7_1 : St := ⟨[(0, rl tsI4 vals), (4, .one (.ow tsI4 [] (.v 4))), (8, rl (.one (.int .i64)) l_), (9, ri (l_.length : Int)), (10, ri 0)], [], [], 29⟩
theorem graph_picked_f2 : P7 1 C7.r.l (S7_0 vals l_) k = k (S7_1 vals l_) := by kernel_rfl
abbrev S7_2 : St := ⟨[(0, rl tsI4 vals), (4, rO tsI4 s93.1 4), (8, rl (.one (.int .i64)) l_), (9, ri (l_.length : Int)), (10, ri s93.2)], [], [], 29⟩
theorem graph_picked_fz : P7 1 C7.r.l.r.b.b (S7_2 vals l_ s93) k = k ⟨[(0, rl tsI4 vals), (4, rO tsI4 s93.1 4), (8, rl (.one (.int .i64)) l_), (9, ri (l_.length : Int)), (10, ri s93.2), (11, rb (decide (s93.2 < (l_.length : Int))))], [], [], 29⟩ := by kernel_rfl
def graph_picked_r3_p : Option Unit := (bif (decide ((0 : Int) ≤ s93.2)) then (bif (decide (s93.2 < (l_.length : Int))) then (some ()) else none) else none)
abbrev S7_3 : St := ⟨[(0, rl tsI4 vals), (4, rO tsI4 s93.1 4), (7, ri (gt l_ s93.2 (0 : Int))), (8, rl (.one (.int .i64)) l_), (9, ri (l_.length : Int)), (10, ri s93.2)], [], [], 29⟩
theorem graph_picked_r3 : P7 1 C7.r.l.r.b.b.r.r.l.b (S7_2 vals l_ s93) k = Option.bind (graph_picked_r3_p l_ s93) (fun y98 : Unit => k (S7_3 vals l_ s93)) := .trans (by kernel_rfl) (bif_b (bif_b some_b none_b) none_b)
def graph_picked_r4_q (K : Bool → β) : β := (K (!(graph_within (gt l_ s93.2 (0 : Int)) (0 : Int) (IntKind.wrap .i64 ((vals.length : Int) - 1)))))
def graph_picked_r4_p : Bool := graph_picked_r4_q vals l_ s93 (fun y => y)
theorem graph_picked_r4_n (K : Bool → β) : graph_picked_r4_q vals l_ s93 K = K (graph_picked_r4_p vals l_ s93) := rfl
theorem graph_picked_r4 : P7 1 C7.r.l.r.b.b.r.r.l.b.r.l (S7_3 vals l_ s93) k = k ⟨[(0, rl tsI4 vals), (4, rO tsI4 s93.1 4), (7, ri (gt l_ s93.2 (0 : Int))), (8, rl (.one (.int .i64)) l_), (9, ri (l_.length : Int)), (10, ri s93.2), (19, rb (graph_picked_r4_p vals l_ s93))], [], [], 29⟩ := Eq.trans (by kernel_rfl) (graph_picked_r4_n vals l_ s93 (fun y100 : Bool => k ⟨[(0, rl tsI4 vals), (4, rO tsI4 s93.1 4), (7, ri (gt l_ s93.2 (0 : Int))), (8, rl (.one (.int .i64)) l_), (9, ri (l_.length : Int)), (10, ri s93.2), (19, rb y100)], [], [], 29⟩))
abbrev S7_4 : St := ⟨[(4, .one (.ow tsI4 [] (.v 4))), (5, rb false)], [], [], 29⟩
theorem graph_picked_fzx1 : P7 1 C7.r.l.r.b.b.r.r.l.b.r.l.r.t (S7_3 vals l_ s93) k = k S7_4 := by kernel_rfl
def graph_picked_r6_p : Option Unit := (bif (decide ((0 : Int) ≤ (gt l_ s93.2 (0 : Int)))) then (bif (decide ((gt l_ s93.2 (0 : Int)) < (vals.length : Int))) then (bif (decide (s93.1.length + ([(gt vals (gt l_ s93.2 (0 : Int)) dI4)] : List I4).length ≤ maxL)) then (some ()) else none) else none) else none)
abbrev S7_5 : St := ⟨[(0, rl tsI4 vals), (4, .one (.ow tsI4 (s93.1 ++ [(gt vals (gt l_ s93.2 (0 : Int)) dI4)]) (.v 4))), (8, rl (.one (.int .i64)) l_), (9, ri (l_.length : Int)), (10, ri s93.2)], [], [], 29⟩
theorem graph_picked_r6 : R7 C7.r.l.r.b.b.r.r.l.b.r.r (S7_3 vals l_ s93) q = Option.bind (graph_picked_r6_p vals l_ s93) (fun y101 : Unit => q .normal (S7_5 vals l_ s93)) := .trans (by kernel_rfl) (bif_b (bif_b (bif_b some_b none_b) none_b) none_b)
theorem graph_picked_r7 : R7 C7.r.l.r.b.b.r.r.r (S7_5 vals l_ s93) q = q .normal ⟨[(0, rl tsI4 vals), (4, .one (.ow tsI4 (s93.1 ++ [(gt vals (gt l_ s93.2 (0 : Int)) dI4)]) (.v 4))), (8, rl (.one (.int .i64)) l_), (9, ri (l_.length : Int)), (10, ri (IntKind.wrap .i64 (s93.2 + 1)))], [], [], 29⟩ := by kernel_rfl
def graph_picked_l2_p : Option (((List I4) × Int) ⊕ (((List I4) × Int) ⊕ Unit)) := (bif (decide (s93.2 < (l_.length : Int))) then (Option.bind (graph_picked_r3_p l_ s93) (fun y98 : Unit => (bif (graph_picked_r4_p vals l_ s93) then (some (Sum.inr (Sum.inr ()))) else (Option.bind (graph_picked_r6_p vals l_ s93) (fun y101 : Unit => (some (Sum.inl ((s93.1 ++ [(gt vals (gt l_ s93.2 (0 : Int)) dI4)]), (IntKind.wrap .i64 (s93.2 + 1)))))))))) else (some (Sum.inr (Sum.inl s93))))
abbrev S7_6 : St := ⟨[(0, rl tsI4 vals), (4, rO tsI4 y102.1 4), (8, rl (.one (.int .i64)) l_), (9, ri (l_.length : Int)), (10, ri y102.2)], [], [], 29⟩
theorem graph_picked_l2_b : R7 C7.r.l.r.b.b (S7_2 vals l_ s93) (loopKont 0 q) = Option.bind (graph_picked_l2_p vals l_ s93) (either (fun y : ((List I4) × Int) => q .normal ⟨[(0, rl tsI4 vals), (4, rO tsI4 y.1 4), (8, rl (.one (.int .i64)) l_), (9, ri (l_.length : Int)), (10, ri y.2)], [], [], 29⟩) (either (fun y102 : ((List I4) × Int) => q (.exit 0) (S7_6 vals l_ y102)) (fun y103 : Unit => q .ret S7_4))) := by
  refine .trans ?_ (bif_b (bind_b fun y98 => (bif_b e3_2 (bind_b fun y101 => e3_0))) e3_1)
  refine (pre1 (graph_picked_fz vals l_ s93 _)).trans ?_
  refine .trans seq_push ?_
  refine (cond_e (b := (decide (s93.2 < (l_.length : Int)))) (st' := (S7_2 vals l_ s93)) ).trans (bif_g ?_ ?_)
  · refine (skip_eq).trans ?_
    refine (seqC_normal (st' := (S7_2 vals l_ s93))).trans ?_
    refine .trans seq_push ?_
    refine (block_push (id := 1)).trans ?_
    refine (pre1 (graph_picked_r3 vals l_ s93 _)).trans (bind_g fun y98 => ?_)
    refine .trans seq_push ?_
    refine (pre1 (graph_picked_r4 vals l_ s93 _)).trans ?_
    refine (cond_e (b := (graph_picked_r4_p vals l_ s93)) (st' := (S7_3 vals l_ s93)) ).trans (bif_g ?_ ?_)
    · refine (pre1 (graph_picked_fzx1 vals l_ s93 _)).trans ?_
      refine (ret_eq).trans ?_
      refine seqC_ret.trans ?_
      refine block_ret.trans ?_
      refine seqC_ret.trans ?_
      kernel_rfl
    · refine (skip_eq).trans ?_
      refine (seqC_normal (st' := (S7_3 vals l_ s93))).trans ?_
      refine (graph_picked_r6 vals l_ s93 _).trans (bind_g fun y101 => ?_)
      refine block_normal.trans ?_
      refine (seqC_normal (st' := (S7_5 vals l_ s93))).trans ?_
      refine (graph_picked_r7 vals l_ s93 _).trans ?_
      kernel_rfl
  · refine ((exit_eq (j := 0))).trans ?_
    refine seqC_exit.trans ?_
    kernel_rfl
theorem graph_picked_l2 : R7 C7.r.l.r.b (S7_1 vals l_) q = Option.bind (iterN (graph_picked_l2_p vals l_) LL ([], (0 : Int))) (either (fun y102 : ((List I4) × Int) => q (.exit 0) (S7_6 vals l_ y102)) (fun y103 : Unit => q .ret S7_4)) :=
  Eq.trans (by kernel_rfl) (loop_iter2 (S := fun s93 : ((List I4) × Int) => (S7_2 vals l_ s93)) (Y1 := fun y102 : ((List I4) × Int) => ((.exit 0), (S7_6 vals l_ y102))) (Y2 := fun y103 : Unit => (.ret, S7_4)) (fun s q => graph_picked_l2_b vals l_ s q) (fun z => rfl) (fun z => rfl) LL ([], (0 : Int)))
theorem graph_picked_fzx2 : P7 1 C7.r.r ⟨[(4, rO tsI4 y102.1 4)], [], [], 29⟩ k = k ⟨[(4, rO tsI4 y102.1 4), (5, rb true)], [], [], 29⟩ := by kernel_rfl
/-- quilt/graph.picked -/
def graph_picked : Option ((List I4) × Bool) := (Option.bind (iterN (graph_picked_l2_p vals l_) LL ([], (0 : Int))) (either (fun y102 : ((List I4) × Int) => (some (y102.1, true))) (fun y103 : Unit => (some ([], false)))))
theorem graph_picked_is : stepO E cp7 noE 40 [rl tsI4 vals, rl (.one (.int .i64)) l_] = Option.bind (graph_picked vals l_) (fun y : ((List I4) × Bool) => some (.tup [.one (.ow tsI4 y.1 (.s 0)), rb y.2] : R)) := by
  refine .trans ?_ (bind_b (either_b (fun y102 => some_b) (fun y103 => some_b)))
  refine (stepG_is (nt := 29) (regs := [(0, rl tsI4 vals), (1, rl (.one (.int .i64)) l_)])).trans ?_
  refine (pre1 (graph_picked_f1 vals l_ _)).trans ?_
  refine .trans seq_push ?_
  refine (pre1 (graph_picked_f2 vals l_ _)).trans ?_
  refine (block_push (id := 0)).trans ?_
  refine (graph_picked_l2 vals l_ _).trans (bind_g (either_g (fun y102 => ?_) (fun y103 => ?_)))
  · refine block_same.trans ?_
    refine (seqC_normal (st' := ⟨[(4, rO tsI4 y102.1 4)], [], [], 29⟩)).trans ?_
    refine (pre1 (graph_picked_fzx2 y102 _)).trans ?_
    refine (ret_eq).trans ?_
    kernel_rfl
  · refine block_ret.trans ?_
    refine seqC_ret.trans ?_
    kernel_rfl
noncomputable def cp8 : CallP := withC cp7 40 [(pL tsI4), (.one (.g (.sl (.one (.int .i64)))))] (.tup [(.one (.ow tsI4)), pB]) (fun y : ((List I4) × Bool) => (y.1, y.2, ())) (fun x => graph_picked x.1 x.2.1)
theorem cp8_ok : PureOK E cp8 := conO eok cp7_ok noE_ok fun x => Eq.mp (by kernel_rfl) (graph_picked_is x.1 x.2.1)
end
section
variable {α β : Type} (op : Int) (y107 : U4) (k : St → Option α) (q : Kont α)
noncomputable abbrev C8 := codeOf E.P 48
noncomputable abbrev P8 := @preK α E 48 cp8 noE
noncomputable abbrev R8 := @runCode α E 48 cp8 noE
noncomputable abbrev Q8 := @seqC α E 48 cp8 noE
abbrev S8_0 : St := ⟨[(0, ri op), (2, rF 0), (4, rF 1)], [[di 0, db false, db false, db false, db false, db false, .nilFn, .nilFn], [di 1, db false, db false, db false, db false, db false, .fn 56 [], .fn 57 []]], [], 58⟩
theorem graph_of_f2 : P8 2 C8 ⟨[(0, ri op)], [], [], 58⟩ k = k (S8_0 op) := by kernel_rfl
abbrev S8_1 : St := ⟨[(2, rF 0), (4, rF 1), (6, ri op)], [[di 0, db false, db false, db false, db false, db false, .nilFn, .nilFn], [di 1, db false, db false, db false, db false, db false, .fn 56 [], .fn 57 []]], [], 58⟩
theorem graph_of_f4 : P8 1 C8.r.r.l (S8_0 op) k = k (S8_1 op) := by kernel_rfl
theorem graph_of_f1000005 : P8 1 C8.r.r.l.r.b (S8_1 op) k = k ⟨[(2, rF 0), (4, rF 1), (6, ri op), (8, rb (op == 1))], [[di 0, db false, db false, db false, db false, db false, .nilFn, .nilFn], [di 1, db false, db false, db false, db false, db false, .fn 56 [], .fn 57 []]], [], 58⟩ := by kernel_rfl
abbrev S8_2 : St := ⟨[(2, rF 0), (4, rF 1)], [[di 0, db false, db false, db false, db false, db false, .nilFn, .nilFn], [di 1, db true, db true, db false, db true, db false, .fn 58 [], .fn 57 []]], [], 58⟩
theorem graph_of_f7 : P8 2 C8.r.r.l.r.b.r.t (S8_1 op) k = k S8_2 := by kernel_rfl
abbrev S8_3 : St := ⟨[(2, rF 0), (4, rF 1)], [[di 0, db false, db false, db false, db false, db false, .nilFn, .nilFn], [di 1, db true, db true, db false, db true, db false, .fn 58 [], .fn 60 []]], [], 58⟩
theorem graph_of_r7 : R8 C8.r.r.l.r.b.r.t.r.r S8_2 q = q .normal S8_3 := by kernel_rfl
theorem graph_of_f1000009 : P8 1 C8.r.r.l.r.b.r.e (S8_1 op) k = k ⟨[(2, rF 0), (4, rF 1), (6, ri op), (15, rb (op == 2))], [[di 0, db false, db false, db false, db false, db false, .nilFn, .nilFn], [di 1, db false, db false, db false, db false, db false, .fn 56 [], .fn 57 []]], [], 58⟩ := by kernel_rfl
abbrev S8_4 : St := ⟨[(2, rF 0), (4, rF 1)], [[di 0, db false, db false, db false, db false, db false, .nilFn, .nilFn], [di 1, db true, db true, db false, db false, db false, .fn 61 [], .fn 57 []]], [], 58⟩
theorem graph_of_f10 : P8 1 C8.r.r.l.r.b.r.e.r.t (S8_1 op) k = k S8_4 := by kernel_rfl
abbrev S8_5 : St := ⟨[(2, rF 0), (4, rF 1)], [[di 0, db false, db false, db false, db false, db false, .nilFn, .nilFn], [di 1, db true, db true, db false, db false, db false, .fn 61 [], .fn 62 []]], [], 58⟩
theorem graph_of_r10 : R8 C8.r.r.l.r.b.r.e.r.t.r S8_4 q = q .normal S8_5 := by kernel_rfl
theorem graph_of_f1000012 : P8 1 C8.r.r.l.r.b.r.e.r.e (S8_1 op) k = k ⟨[(2, rF 0), (4, rF 1), (6, ri op), (21, rb (op == 3))], [[di 0, db false, db false, db false, db false, db false, .nilFn, .nilFn], [di 1, db false, db false, db false, db false, db false, .fn 56 [], .fn 57 []]], [], 58⟩ := by kernel_rfl
abbrev S8_6 : St := ⟨[(2, rF 0), (4, rF 1)], [[di 0, db false, db false, db false, db false, db false, .nilFn, .nilFn], [di 1, db false, db false, db false, db true, db false, .fn 63 [], .fn 57 []]], [], 58⟩
theorem graph_of_f14 : P8 2 C8.r.r.l.r.b.r.e.r.e.r.t (S8_1 op) k = k S8_6 := by kernel_rfl
abbrev S8_7 : St := ⟨[(2, rF 0), (4, rF 1)], [[di 0, db false, db false, db false, db false, db false, .nilFn, .nilFn], [di 1, db false, db false, db false, db true, db false, .fn 63 [], .fn 64 []]], [], 58⟩
theorem graph_of_r14 : R8 C8.r.r.l.r.b.r.e.r.e.r.t.r.r S8_6 q = q .normal S8_7 := by kernel_rfl
abbrev S8_8 : St := ⟨[(2, rF 0), (4, rF 1), (6, ri op), (26, rb (op == 4))], [[di 0, db false, db false, db false, db false, db false, .nilFn, .nilFn], [di 1, db false, db false, db false, db false, db false, .fn 56 [], .fn 57 []]], [], 58⟩
theorem graph_of_f2000016 : P8 1 C8.r.r.l.r.b.r.e.r.e.r.e.l (S8_1 op) k = k (S8_8 op) := by kernel_rfl
abbrev S8_9 : St := ⟨[(2, rF 0), (4, rF 1), (6, ri op), (26, rb (op == 5))], [[di 0, db false, db false, db false, db false, db false, .nilFn, .nilFn], [di 1, db false, db false, db false, db false, db false, .fn 56 [], .fn 57 []]], [], 58⟩
theorem graph_of_r16 : R8 C8.r.r.l.r.b.r.e.r.e.r.e.l.r.e (S8_8 op) q = q .normal (S8_9 op) := by kernel_rfl
def graph_of_j15_q (K : Bool → β) : β := (bif (op == 4) then (K (op == 4)) else (K (op == 5)))
def graph_of_j15_p : Bool := graph_of_j15_q op (fun y => y)
theorem graph_of_j15_n (K : Bool → β) : graph_of_j15_q op K = K (graph_of_j15_p op) := (bif_k K rfl rfl)
abbrev S8_10 : St := ⟨[(2, rF 0), (4, rF 1), (6, ri op), (26, rb (graph_of_j15_p op))], [[di 0, db false, db false, db false, db false, db false, .nilFn, .nilFn], [di 1, db false, db false, db false, db false, db false, .fn 56 [], .fn 57 []]], [], 58⟩
theorem graph_of_j15 : R8 C8.r.r.l.r.b.r.e.r.e.r.e.l (S8_1 op) (Q8 C8.r.r.l.r.b.r.e.r.e.r.e.r q) = R8 C8.r.r.l.r.b.r.e.r.e.r.e.r (S8_10 op) q := by
  refine Eq.trans ?_ (graph_of_j15_n op (fun y105 : Bool => R8 C8.r.r.l.r.b.r.e.r.e.r.e.r ⟨[(2, rF 0), (4, rF 1), (6, ri op), (26, rb y105)], [[di 0, db false, db false, db false, db false, db false, .nilFn, .nilFn], [di 1, db false, db false, db false, db false, db false, .fn 56 [], .fn 57 []]], [], 58⟩ q))
  unfold graph_of_j15_q
  refine (pre1 (graph_of_f2000016 op _)).trans ?_
  refine (cond_s (b := (op == 4)) ).trans (bif_g ?_ ?_)
  · refine (skip_eq).trans ?_
    refine (seqC_normal (st' := (S8_8 op))).trans ?_
    kernel_rfl
  · refine (graph_of_r16 op _).trans ?_
    refine (seqC_normal (st' := (S8_9 op))).trans ?_
    kernel_rfl
abbrev S8_11 : St := ⟨[(2, rF 0), (4, rF 1)], [[di 0, db false, db false, db false, db false, db false, .nilFn, .nilFn], [di 1, db true, db false, db false, db false, db true, .fn 61 [], .fn 57 []]], [], 58⟩
theorem graph_of_r17 : R8 C8.r.r.l.r.b.r.e.r.e.r.e.r.t (S8_10 op) q = q .normal S8_11 := by kernel_rfl
abbrev S8_12 : St := ⟨[(2, rF 0), (4, rF 1), (6, ri op), (32, rb (op == 6))], [[di 0, db false, db false, db false, db false, db false, .nilFn, .nilFn], [di 1, db false, db false, db false, db false, db false, .fn 56 [], .fn 57 []]], [], 58⟩
theorem graph_of_f2000019 : P8 1 C8.r.r.l.r.b.r.e.r.e.r.e.r.e.l (S8_10 op) k = k (S8_12 op) := by kernel_rfl
abbrev S8_13 : St := ⟨[(2, rF 0), (4, rF 1), (6, ri op), (32, rb (op == 7))], [[di 0, db false, db false, db false, db false, db false, .nilFn, .nilFn], [di 1, db false, db false, db false, db false, db false, .fn 56 [], .fn 57 []]], [], 58⟩
theorem graph_of_r19 : R8 C8.r.r.l.r.b.r.e.r.e.r.e.r.e.l.r.e (S8_12 op) q = q .normal (S8_13 op) := by kernel_rfl
def graph_of_j18_q (K : Bool → β) : β := (bif (op == 6) then (K (op == 6)) else (K (op == 7)))
def graph_of_j18_p : Bool := graph_of_j18_q op (fun y => y)
theorem graph_of_j18_n (K : Bool → β) : graph_of_j18_q op K = K (graph_of_j18_p op) := (bif_k K rfl rfl)
abbrev S8_14 : St := ⟨[(2, rF 0), (4, rF 1), (6, ri op), (32, rb (graph_of_j18_p op))], [[di 0, db false, db false, db false, db false, db false, .nilFn, .nilFn], [di 1, db false, db false, db false, db false, db false, .fn 56 [], .fn 57 []]], [], 58⟩
theorem graph_of_j18 : R8 C8.r.r.l.r.b.r.e.r.e.r.e.r.e.l (S8_10 op) (Q8 C8.r.r.l.r.b.r.e.r.e.r.e.r.e.r q) = R8 C8.r.r.l.r.b.r.e.r.e.r.e.r.e.r (S8_14 op) q := by
  refine Eq.trans ?_ (graph_of_j18_n op (fun y106 : Bool => R8 C8.r.r.l.r.b.r.e.r.e.r.e.r.e.r ⟨[(2, rF 0), (4, rF 1), (6, ri op), (32, rb y106)], [[di 0, db false, db false, db false, db false, db false, .nilFn, .nilFn], [di 1, db false, db false, db false, db false, db false, .fn 56 [], .fn 57 []]], [], 58⟩ q))
  unfold graph_of_j18_q
  refine (pre1 (graph_of_f2000019 op _)).trans ?_
  refine (cond_s (b := (op == 6)) ).trans (bif_g ?_ ?_)
  · refine (skip_eq).trans ?_
    refine (seqC_normal (st' := (S8_12 op))).trans ?_
    kernel_rfl
  · refine (graph_of_r19 op _).trans ?_
    refine (seqC_normal (st' := (S8_13 op))).trans ?_
    kernel_rfl
abbrev S8_15 : St := ⟨[(2, rF 0), (4, rF 1)], [[di 0, db false, db false, db false, db false, db false, .nilFn, .nilFn], [di 2, db false, db false, db false, db false, db false, .fn 65 [], .fn 57 []]], [], 58⟩
theorem graph_of_r20 : R8 C8.r.r.l.r.b.r.e.r.e.r.e.r.e.r.t (S8_14 op) q = q .normal S8_15 := by kernel_rfl
theorem graph_of_f1000022 : P8 1 C8.r.r.l.r.b.r.e.r.e.r.e.r.e.r.e (S8_14 op) k = k ⟨[(2, rF 0), (4, rF 1), (6, ri op), (37, rb (op == 8))], [[di 0, db false, db false, db false, db false, db false, .nilFn, .nilFn], [di 1, db false, db false, db false, db false, db false, .fn 56 [], .fn 57 []]], [], 58⟩ := by kernel_rfl
abbrev S8_16 : St := ⟨[(2, rF 0), (4, rF 1)], [[di 0, db false, db false, db false, db false, db false, .nilFn, .nilFn], [di 1, db false, db false, db false, db false, db true, .fn 56 [], .fn 57 []]], [], 58⟩
theorem graph_of_r22 : R8 C8.r.r.l.r.b.r.e.r.e.r.e.r.e.r.e.r.t (S8_1 op) q = q .normal S8_16 := by kernel_rfl
theorem graph_of_f1000024 : P8 1 C8.r.r.l.r.b.r.e.r.e.r.e.r.e.r.e.r.e (S8_1 op) k = k ⟨[(2, rF 0), (4, rF 1), (6, ri op), (40, rb (op == 9))], [[di 0, db false, db false, db false, db false, db false, .nilFn, .nilFn], [di 1, db false, db false, db false, db false, db false, .fn 56 [], .fn 57 []]], [], 58⟩ := by kernel_rfl
abbrev S8_17 : St := ⟨[(2, rF 0), (4, rF 1)], [[di 0, db false, db false, db false, db false, db false, .nilFn, .nilFn], [di 1, db false, db false, db true, db false, db true, .fn 56 [], .fn 57 []]], [], 58⟩
theorem graph_of_f25 : P8 1 C8.r.r.l.r.b.r.e.r.e.r.e.r.e.r.e.r.e.r.t (S8_1 op) k = k S8_17 := by kernel_rfl
abbrev S8_18 : St := ⟨[(2, rF 0), (4, rF 1)], [[di 0, db false, db false, db false, db false, db false, .nilFn, .nilFn], [di 1, db false, db false, db true, db false, db true, .fn 66 [], .fn 57 []]], [], 58⟩
theorem graph_of_r25 : R8 C8.r.r.l.r.b.r.e.r.e.r.e.r.e.r.e.r.e.r.t.r S8_17 q = q .normal S8_18 := by kernel_rfl
theorem graph_of_f1000027 : P8 1 C8.r.r.l.r.b.r.e.r.e.r.e.r.e.r.e.r.e.r.e (S8_1 op) k = k ⟨[(2, rF 0), (4, rF 1), (6, ri op), (45, rb (op == 10))], [[di 0, db false, db false, db false, db false, db false, .nilFn, .nilFn], [di 1, db false, db false, db false, db false, db false, .fn 56 [], .fn 57 []]], [], 58⟩ := by kernel_rfl
abbrev S8_19 : St := ⟨[(2, rF 0), (4, rF 1)], [[di 0, db false, db false, db false, db false, db false, .nilFn, .nilFn], [di 2, db false, db false, db false, db false, db true, .fn 67 [], .fn 57 []]], [], 58⟩
theorem graph_of_r27 : R8 C8.r.r.l.r.b.r.e.r.e.r.e.r.e.r.e.r.e.r.e.r.t (S8_1 op) q = q .normal S8_19 := by kernel_rfl
theorem graph_of_f1000029 : P8 1 C8.r.r.l.r.b.r.e.r.e.r.e.r.e.r.e.r.e.r.e.r.e (S8_1 op) k = k ⟨[(2, rF 0), (4, rF 1), (6, ri op), (50, rb (op == 11))], [[di 0, db false, db false, db false, db false, db false, .nilFn, .nilFn], [di 1, db false, db false, db false, db false, db false, .fn 56 [], .fn 57 []]], [], 58⟩ := by kernel_rfl
abbrev S8_20 : St := ⟨[(2, rF 0), (4, rF 1)], [[di 0, db false, db false, db false, db false, db false, .nilFn, .nilFn], [di 1, db false, db false, db false, db false, db true, .fn 68 [], .fn 57 []]], [], 58⟩
theorem graph_of_r29 : R8 C8.r.r.l.r.b.r.e.r.e.r.e.r.e.r.e.r.e.r.e.r.e.r.t (S8_1 op) q = q .normal S8_20 := by kernel_rfl
theorem graph_of_f1000031 : P8 1 C8.r.r.l.r.b.r.e.r.e.r.e.r.e.r.e.r.e.r.e.r.e.r.e (S8_1 op) k = k ⟨[(2, rF 0), (4, rF 1), (54, rb (op == 12))], [[di 0, db false, db false, db false, db false, db false, .nilFn, .nilFn], [di 1, db false, db false, db false, db false, db false, .fn 56 [], .fn 57 []]], [], 58⟩ := by kernel_rfl
abbrev S8_21 : St := ⟨[(2, rF 0), (4, rF 1)], [[di 0, db false, db false, db false, db false, db false, .nilFn, .nilFn], [di 1, db false, db false, db false, db false, db false, .fn 56 [], .fn 57 []]], [], 58⟩
abbrev S8_22 : St := ⟨[(2, rF 0), (4, rF 1)], [[di 0, db false, db false, db false, db false, db false, .nilFn, .nilFn], [di 1, db false, db false, db false, db false, db false, .fn 56 [], .fn 69 []]], [], 58⟩
theorem graph_of_r31 : R8 C8.r.r.l.r.b.r.e.r.e.r.e.r.e.r.e.r.e.r.e.r.e.r.e.r.t S8_21 q = q .normal S8_22 := by kernel_rfl
abbrev S8_23 : St := ⟨[(2, rF 0), (3, rb false)], [[di 0, db false, db false, db false, db false, db false, .nilFn, .nilFn], []], [], 58⟩
theorem graph_of_fz : P8 1 C8.r.r.l.r.b.r.e.r.e.r.e.r.e.r.e.r.e.r.e.r.e.r.e.r.e S8_21 k = k S8_23 := by kernel_rfl
def graph_of_j2_p : Option (U4 ⊕ Unit) := (bif (op == 1) then (some (Sum.inl ((1 : Int), true, true, false, true, false, (Sum.inr (Sum.inl ())), (Sum.inr (Sum.inl ()))))) else (bif (op == 2) then (some (Sum.inl ((1 : Int), true, true, false, false, false, (Sum.inr (Sum.inr (Sum.inl ()))), (Sum.inr (Sum.inr (Sum.inl ())))))) else (bif (op == 3) then (some (Sum.inl ((1 : Int), false, false, false, true, false, (Sum.inr (Sum.inr (Sum.inr (Sum.inl ())))), (Sum.inr (Sum.inr (Sum.inr (Sum.inl ()))))))) else (bif (graph_of_j15_p op) then (some (Sum.inl ((1 : Int), true, false, false, false, true, (Sum.inr (Sum.inr (Sum.inl ()))), (Sum.inl ())))) else (bif (graph_of_j18_p op) then (some (Sum.inl ((2 : Int), false, false, false, false, false, (Sum.inr (Sum.inr (Sum.inr (Sum.inr (Sum.inl ()))))), (Sum.inl ())))) else (bif (op == 8) then (some (Sum.inl ((1 : Int), false, false, false, false, true, (Sum.inl ()), (Sum.inl ())))) else (bif (op == 9) then (some (Sum.inl ((1 : Int), false, false, true, false, true, (Sum.inr (Sum.inr (Sum.inr (Sum.inr (Sum.inr (Sum.inl ())))))), (Sum.inl ())))) else (bif (op == 10) then (some (Sum.inl ((2 : Int), false, false, false, false, true, (Sum.inr (Sum.inr (Sum.inr (Sum.inr (Sum.inr (Sum.inr (Sum.inl ()))))))), (Sum.inl ())))) else (bif (op == 11) then (some (Sum.inl ((1 : Int), false, false, false, false, true, (Sum.inr (Sum.inr (Sum.inr (Sum.inr (Sum.inr (Sum.inr (Sum.inr ()))))))), (Sum.inl ())))) else (bif (op == 12) then (some (Sum.inl ((1 : Int), false, false, false, false, false, (Sum.inl ()), (Sum.inr (Sum.inr (Sum.inr (Sum.inr ()))))))) else (some (Sum.inr ()))))))))))))
abbrev S8_24 : St := ⟨[(2, rF 0), (4, rF 1)], [[di 0, db false, db false, db false, db false, db false, .nilFn, .nilFn], [di y107.1, db y107.2.1, db y107.2.2.1, db y107.2.2.2.1, db y107.2.2.2.2.1, db y107.2.2.2.2.2.1, Ps.enc (.alt (.fn 56 .nil) (.alt (.fn 58 .nil) (.alt (.fn 61 .nil) (.alt (.fn 63 .nil) (.alt (.fn 65 .nil) (.alt (.fn 66 .nil) (.alt (.fn 67 .nil) (.fn 68 .nil)))))))) y107.2.2.2.2.2.2.1, Ps.enc (.alt (.fn 57 .nil) (.alt (.fn 60 .nil) (.alt (.fn 62 .nil) (.alt (.fn 64 .nil) (.fn 69 .nil))))) y107.2.2.2.2.2.2.2]], [], 58⟩
theorem graph_of_j2 : R8 C8.r.r.l (S8_0 op) (Q8 C8.r.r.r q) = Option.bind (graph_of_j2_p op) (either (fun y107 : U4 => R8 C8.r.r.r (S8_24 y107) q) (fun y108 : Unit => q .ret S8_23)) := by
  refine .trans ?_ (bif_b e2_0 (bif_b e2_0 (bif_b e2_0 (bif_b e2_0 (bif_b e2_0 (bif_b e2_0 (bif_b e2_0 (bif_b e2_0 (bif_b e2_0 (bif_b e2_0 e2_1))))))))))
  refine (pre1 (graph_of_f4 op _)).trans ?_
  refine (block_push (id := 0)).trans ?_
  refine (pre1 (graph_of_f1000005 op _)).trans ?_
  refine (cond_e (b := (op == 1)) (st' := (S8_1 op)) ).trans (bif_g ?_ ?_)
  · refine (pre2 (graph_of_f7 op _)).trans ?_
    refine (graph_of_r7 _).trans ?_
    refine block_normal.trans ?_
    refine (seqC_normal (st' := S8_3)).trans ?_
    kernel_rfl
  · refine (pre1 (graph_of_f1000009 op _)).trans ?_
    refine (cond_e (b := (op == 2)) (st' := (S8_1 op)) ).trans (bif_g ?_ ?_)
    · refine (pre1 (graph_of_f10 op _)).trans ?_
      refine (graph_of_r10 _).trans ?_
      refine block_normal.trans ?_
      refine (seqC_normal (st' := S8_5)).trans ?_
      kernel_rfl
    · refine (pre1 (graph_of_f1000012 op _)).trans ?_
      refine (cond_e (b := (op == 3)) (st' := (S8_1 op)) ).trans (bif_g ?_ ?_)
      · refine (pre2 (graph_of_f14 op _)).trans ?_
        refine (graph_of_r14 _).trans ?_
        refine block_normal.trans ?_
        refine (seqC_normal (st' := S8_7)).trans ?_
        kernel_rfl
      · refine .trans seq_push ?_
        refine (graph_of_j15 op _).trans ?_
        refine (cond_s (b := (graph_of_j15_p op)) ).trans (bif_g ?_ ?_)
        · refine (graph_of_r17 op _).trans ?_
          refine block_normal.trans ?_
          refine (seqC_normal (st' := S8_11)).trans ?_
          kernel_rfl
        · refine .trans seq_push ?_
          refine (graph_of_j18 op _).trans ?_
          refine (cond_s (b := (graph_of_j18_p op)) ).trans (bif_g ?_ ?_)
          · refine (graph_of_r20 op _).trans ?_
            refine block_normal.trans ?_
            refine (seqC_normal (st' := S8_15)).trans ?_
            kernel_rfl
          · refine (pre1 (graph_of_f1000022 op _)).trans ?_
            refine (cond_e (b := (op == 8)) (st' := (S8_1 op)) ).trans (bif_g ?_ ?_)
            · refine (graph_of_r22 op _).trans ?_
              refine block_normal.trans ?_
              refine (seqC_normal (st' := S8_16)).trans ?_
              kernel_rfl
            · refine (pre1 (graph_of_f1000024 op _)).trans ?_
              refine (cond_e (b := (op == 9)) (st' := (S8_1 op)) ).trans (bif_g ?_ ?_)
              · refine (pre1 (graph_of_f25 op _)).trans ?_
                refine (graph_of_r25 _).trans ?_
                refine block_normal.trans ?_
                refine (seqC_normal (st' := S8_18)).trans ?_
                kernel_rfl
              · refine (pre1 (graph_of_f1000027 op _)).trans ?_
                refine (cond_e (b := (op == 10)) (st' := (S8_1 op)) ).trans (bif_g ?_ ?_)
                · refine (graph_of_r27 op _).trans ?_
                  refine block_normal.trans ?_
                  refine (seqC_normal (st' := S8_19)).trans ?_
                  kernel_rfl
                · refine (pre1 (graph_of_f1000029 op _)).trans ?_
                  refine (cond_e (b := (op == 11)) (st' := (S8_1 op)) ).trans (bif_g ?_ ?_)
                  · refine (graph_of_r29 op _).trans ?_
                    refine block_normal.trans ?_
                    refine (seqC_normal (st' := S8_20)).trans ?_
                    kernel_rfl
                  · refine (pre1 (graph_of_f1000031 op _)).trans ?_
                    refine (cond_e (b := (op == 12)) (st' := S8_21) ).trans (bif_g ?_ ?_)
                    · refine (graph_of_r31 _).trans ?_
                      refine block_normal.trans ?_
                      refine (seqC_normal (st' := S8_22)).trans ?_
                      kernel_rfl
                    · refine (pre1 (graph_of_fz _)).trans ?_
                      refine (ret_eq).trans ?_
                      refine block_ret.trans ?_
                      refine seqC_ret.trans ?_
                      kernel_rfl
theorem graph_of_fzx1 : P8 1 C8.r.r.r (S8_24 y107) k = k ⟨[(2, rF 0), (3, rb true)], [[di y107.1, db y107.2.1, db y107.2.2.1, db y107.2.2.2.1, db y107.2.2.2.2.1, db y107.2.2.2.2.2.1, Ps.enc (.alt (.fn 56 .nil) (.alt (.fn 58 .nil) (.alt (.fn 61 .nil) (.alt (.fn 63 .nil) (.alt (.fn 65 .nil) (.alt (.fn 66 .nil) (.alt (.fn 67 .nil) (.fn 68 .nil)))))))) y107.2.2.2.2.2.2.1, Ps.enc (.alt (.fn 57 .nil) (.alt (.fn 60 .nil) (.alt (.fn 62 .nil) (.alt (.fn 64 .nil) (.fn 69 .nil))))) y107.2.2.2.2.2.2.2], []], [], 58⟩ := by (rcases y107 with ⟨_, _, _, _, _, _, (_ | _ | _ | _ | _ | _ | _ | _), (_ | _ | _ | _ | _)⟩ <;> kernel_rfl)
/-- quilt/graph.of -/
def graph_of : Option U7 := (Option.bind (graph_of_j2_p op) (either (fun y107 : U4 => (some ((y107.1, y107.2.1, y107.2.2.1, y107.2.2.2.1, y107.2.2.2.2.1, y107.2.2.2.2.2.1, ((either (fun u109 : Unit => (Sum.inl ())) (either (fun u110 : Unit => (Sum.inr (Sum.inl ()))) (either (fun u111 : Unit => (Sum.inr (Sum.inr (Sum.inl ())))) (either (fun u112 : Unit => (Sum.inr (Sum.inr (Sum.inr (Sum.inl ()))))) (either (fun u113 : Unit => (Sum.inr (Sum.inr (Sum.inr (Sum.inr (Sum.inl ())))))) (either (fun u114 : Unit => (Sum.inr (Sum.inr (Sum.inr (Sum.inr (Sum.inr (Sum.inl ()))))))) (either (fun u115 : Unit => (Sum.inr (Sum.inr (Sum.inr (Sum.inr (Sum.inr (Sum.inr (Sum.inl ())))))))) (fun u116 : Unit => (Sum.inr (Sum.inr (Sum.inr (Sum.inr (Sum.inr (Sum.inr (Sum.inr (Sum.inl ())))))))))))))))) y107.2.2.2.2.2.2.1), ((either (fun u117 : Unit => (Sum.inl ())) (either (fun u118 : Unit => (Sum.inr (Sum.inl ()))) (either (fun u119 : Unit => (Sum.inr (Sum.inr (Sum.inl ())))) (either (fun u120 : Unit => (Sum.inr (Sum.inr (Sum.inr (Sum.inl ()))))) (fun u121 : Unit => (Sum.inr (Sum.inr (Sum.inr (Sum.inr (Sum.inl ())))))))))) y107.2.2.2.2.2.2.2), ()), true))) (fun y108 : Unit => (some (((0 : Int), false, false, false, false, false, (Sum.inr (Sum.inr (Sum.inr (Sum.inr (Sum.inr (Sum.inr (Sum.inr (Sum.inr ())))))))), (Sum.inr (Sum.inr (Sum.inr (Sum.inr (Sum.inr ()))))), ()), false)))))
theorem graph_of_is : stepS E cp8 noE 48 [ri op] = Option.bind (graph_of op) (fun y : U7 => some (Po.enc (.tup [(.aggs Z4), pB]) ((fun y : U7 => (y.1, y.2, ())) y))) := by
  refine .trans ?_ (bind_b (either_b (fun y107 => some_b) (fun y108 => some_b)))
  refine (stepG_is (nt := 58) (regs := [(0, ri op)])).trans ?_
  refine (pre2 (graph_of_f2 op _)).trans ?_
  refine .trans seq_push ?_
  refine (graph_of_j2 op _).trans (bind_g (either_g (fun y107 => ?_) (fun y108 => ?_)))
  · refine (pre1 (graph_of_fzx1 y107 _)).trans ?_
    refine (ret_eq).trans ?_
    (rcases y107 with ⟨_, _, _, _, _, _, (_ | _ | _ | _ | _ | _ | _ | _), (_ | _ | _ | _ | _)⟩ <;> kernel_rfl)
  · kernel_rfl
noncomputable def cp9 : CallP := withC cp8 48 [pI] (.tup [(.aggs Z4), pB]) (fun y : U7 => (y.1, y.2, ())) (fun x => graph_of x.1)
theorem cp9_ok : PureOK E cp9 := conS eok cp8_ok noE_ok fun x => Eq.mp (by kernel_rfl) (graph_of_is x.1)
end
section
variable {α β : Type} (k_ : Int) (k_' : Bool) (k_'' : Bool) (k_''' : Bool) (k_'''' : Bool) (k_''''' : Bool) (k_'''''' : U3) (k_''''''' : U0) (n_ : Node) (in_ : (List I4)) (k : St → Option α) (q : Kont α)
noncomputable abbrev C9 := codeOf E.P 49
noncomputable abbrev P9 := @preK α E 49 cp9 noE
noncomputable abbrev R9 := @runCode α E 49 cp9 noE
noncomputable abbrev Q9 := @seqC α E 49 cp9 noE
def graph_kind_may_r1_q (K : Bool → β) : β := (bif ((in_.length : Int) == k_) then (bif (graph_within n_.2.2.2.2.2.2.1 (1 : Int) (32767 : Int)) then (bif (graph_within n_.2.2.2.2.2.2.2.1 (0 : Int) (31 : Int)) then (K (graph_within n_.2.2.2.2.2.2.2.2.1 (-128 : Int) (127 : Int))) else (K false)) else (K false)) else (K false))
def graph_kind_may_r1_p : Bool := graph_kind_may_r1_q k_ n_ in_ (fun y => y)
theorem graph_kind_may_r1_n (K : Bool → β) : graph_kind_may_r1_q k_ n_ in_ K = K (graph_kind_may_r1_p k_ n_ in_) := (bif_k K (bif_k K (bif_k K rfl rfl) rfl) rfl)
abbrev S9_0 : St := ⟨[(3, .one (.cell [di k_, db k_', db k_'', db k_''', db k_'''', db k_''''', Ps.enc Z1 k_'''''', Ps.enc Z0 k_'''''''])), (4, rC tsNode n_), (7, rb (graph_kind_may_r1_p k_ n_ in_))], [], [], 106⟩
theorem graph_kind_may_r1 : P9 2 C9 ⟨[(0, .agg [di k_, db k_', db k_'', db k_''', db k_'''', db k_''''', Ps.enc Z1 k_'''''', Ps.enc Z0 k_''''''']), (1, rA tsNode n_), (2, rl tsI4 in_)], [], [], 106⟩ k = k (S9_0 k_ k_' k_'' k_''' k_'''' k_''''' k_'''''' k_''''''' n_ in_) := Eq.trans (by (rcases k_'''''' with (_ | _ | _ | _ | _ | _ | _ | _ | _) <;> rcases k_''''''' with (_ | _ | _ | _ | _ | _) <;> kernel_rfl)) (graph_kind_may_r1_n k_ n_ in_ (fun y187 : Bool => k ⟨[(3, .one (.cell [di k_, db k_', db k_'', db k_''', db k_'''', db k_''''', Ps.enc Z1 k_'''''', Ps.enc Z0 k_'''''''])), (4, rC tsNode n_), (7, rb y187)], [], [], 106⟩))
def graph_kind_may_r2_q (K : Bool → β) : β := (bif (graph_kind_may_r1_p k_ n_ in_) then (bif (n_.1 == 11) then (K true) else (K ((n_.2.2.2.2.2.2.2.2.2.1 == 0) && ((n_.2.2.2.2.2.2.2.2.2.2.1 == 0) && ((n_.2.2.2.2.2.2.2.2.2.2.2.1 == 0) && true))))) else (K false))
def graph_kind_may_r2_p : Bool := graph_kind_may_r2_q k_ n_ in_ (fun y => y)
theorem graph_kind_may_r2_n (K : Bool → β) : graph_kind_may_r2_q k_ n_ in_ K = K (graph_kind_may_r2_p k_ n_ in_) := (bif_k K (bif_k K rfl rfl) rfl)
abbrev S9_1 : St := ⟨[(3, .one (.cell [di k_, db k_', db k_'', db k_''', db k_'''', db k_''''', Ps.enc Z1 k_'''''', Ps.enc Z0 k_'''''''])), (4, rC tsNode n_), (7, rb (graph_kind_may_r2_p k_ n_ in_))], [], [], 106⟩
theorem graph_kind_may_r2 : P9 1 C9.r.r (S9_0 k_ k_' k_'' k_''' k_'''' k_''''' k_'''''' k_''''''' n_ in_) k = k (S9_1 k_ k_' k_'' k_''' k_'''' k_''''' k_'''''' k_''''''' n_ in_) := Eq.trans (by (rcases k_'''''' with (_ | _ | _ | _ | _ | _ | _ | _ | _) <;> rcases k_''''''' with (_ | _ | _ | _ | _ | _) <;> kernel_rfl)) (graph_kind_may_r2_n k_ n_ in_ (fun y188 : Bool => k ⟨[(3, .one (.cell [di k_, db k_', db k_'', db k_''', db k_'''', db k_''''', Ps.enc Z1 k_'''''', Ps.enc Z0 k_'''''''])), (4, rC tsNode n_), (7, rb y188)], [], [], 106⟩))
theorem graph_kind_may_f1000004 : P9 1 C9.r.r.r.l (S9_1 k_ k_' k_'' k_''' k_'''' k_''''' k_'''''' k_''''''' n_ in_) k = k ⟨[(3, .one (.cell [di k_, db k_', db k_'', db k_''', db k_'''', db k_''''', Ps.enc Z1 k_'''''', Ps.enc Z0 k_'''''''])), (4, rC tsNode n_), (7, rb (graph_kind_may_r2_p k_ n_ in_)), (41, rb k_')], [], [], 106⟩ := by (rcases k_'''''' with (_ | _ | _ | _ | _ | _ | _ | _ | _) <;> rcases k_''''''' with (_ | _ | _ | _ | _ | _) <;> kernel_rfl)
def graph_kind_may_r4_q (K : Bool → β) : β := (bif (graph_kind_may_r2_p k_ n_ in_) then (bif (graph_within n_.2.2.1 (1 : Int) (3 : Int)) then (K (graph_within n_.2.2.2.1 (1 : Int) (2 : Int))) else (K false)) else (K false))
def graph_kind_may_r4_p : Bool := graph_kind_may_r4_q k_ n_ in_ (fun y => y)
theorem graph_kind_may_r4_n (K : Bool → β) : graph_kind_may_r4_q k_ n_ in_ K = K (graph_kind_may_r4_p k_ n_ in_) := (bif_k K (bif_k K rfl rfl) rfl)
abbrev S9_2 : St := ⟨[(3, .one (.cell [di k_, db k_', db k_'', db k_''', db k_'''', db k_''''', Ps.enc Z1 k_'''''', Ps.enc Z0 k_'''''''])), (4, rC tsNode n_), (7, rb (graph_kind_may_r4_p k_ n_ in_))], [], [], 106⟩
theorem graph_kind_may_r4 : R9 C9.r.r.r.l.r.t (S9_1 k_ k_' k_'' k_''' k_'''' k_''''' k_'''''' k_''''''' n_ in_) q = q .normal (S9_2 k_ k_' k_'' k_''' k_'''' k_''''' k_'''''' k_''''''' n_ in_) := Eq.trans (by (rcases k_'''''' with (_ | _ | _ | _ | _ | _ | _ | _ | _) <;> rcases k_''''''' with (_ | _ | _ | _ | _ | _) <;> kernel_rfl)) (graph_kind_may_r4_n k_ n_ in_ (fun y189 : Bool => q .normal ⟨[(3, .one (.cell [di k_, db k_', db k_'', db k_''', db k_'''', db k_''''', Ps.enc Z1 k_'''''', Ps.enc Z0 k_'''''''])), (4, rC tsNode n_), (7, rb y189)], [], [], 106⟩))
def graph_kind_may_r5_q (K : Bool → β) : β := (bif (graph_kind_may_r2_p k_ n_ in_) then (bif (n_.2.2.1 == 0) then (K (n_.2.2.2.1 == 0)) else (K false)) else (K false))
def graph_kind_may_r5_p : Bool := graph_kind_may_r5_q k_ n_ in_ (fun y => y)
theorem graph_kind_may_r5_n (K : Bool → β) : graph_kind_may_r5_q k_ n_ in_ K = K (graph_kind_may_r5_p k_ n_ in_) := (bif_k K (bif_k K rfl rfl) rfl)
abbrev S9_3 : St := ⟨[(3, .one (.cell [di k_, db k_', db k_'', db k_''', db k_'''', db k_''''', Ps.enc Z1 k_'''''', Ps.enc Z0 k_'''''''])), (4, rC tsNode n_), (7, rb (graph_kind_may_r5_p k_ n_ in_))], [], [], 106⟩
theorem graph_kind_may_r5 : R9 C9.r.r.r.l.r.e (S9_1 k_ k_' k_'' k_''' k_'''' k_''''' k_'''''' k_''''''' n_ in_) q = q .normal (S9_3 k_ k_' k_'' k_''' k_'''' k_''''' k_'''''' k_''''''' n_ in_) := Eq.trans (by (rcases k_'''''' with (_ | _ | _ | _ | _ | _ | _ | _ | _) <;> rcases k_''''''' with (_ | _ | _ | _ | _ | _) <;> kernel_rfl)) (graph_kind_may_r5_n k_ n_ in_ (fun y190 : Bool => q .normal ⟨[(3, .one (.cell [di k_, db k_', db k_'', db k_''', db k_'''', db k_''''', Ps.enc Z1 k_'''''', Ps.enc Z0 k_'''''''])), (4, rC tsNode n_), (7, rb y190)], [], [], 106⟩))
def graph_kind_may_j3_q (K : Bool → β) : β := (bif k_' then (K (graph_kind_may_r4_p k_ n_ in_)) else (K (graph_kind_may_r5_p k_ n_ in_)))
def graph_kind_may_j3_p : Bool := graph_kind_may_j3_q k_ k_' n_ in_ (fun y => y)
theorem graph_kind_may_j3_n (K : Bool → β) : graph_kind_may_j3_q k_ k_' n_ in_ K = K (graph_kind_may_j3_p k_ k_' n_ in_) := (bif_k K rfl rfl)
abbrev S9_4 : St := ⟨[(3, .one (.cell [di k_, db k_', db k_'', db k_''', db k_'''', db k_''''', Ps.enc Z1 k_'''''', Ps.enc Z0 k_'''''''])), (4, rC tsNode n_), (7, rb (graph_kind_may_j3_p k_ k_' n_ in_))], [], [], 106⟩
theorem graph_kind_may_j3 : R9 C9.r.r.r.l (S9_1 k_ k_' k_'' k_''' k_'''' k_''''' k_'''''' k_''''''' n_ in_) (Q9 C9.r.r.r.r q) = R9 C9.r.r.r.r (S9_4 k_ k_' k_'' k_''' k_'''' k_''''' k_'''''' k_''''''' n_ in_) q := by
  refine Eq.trans ?_ (graph_kind_may_j3_n k_ k_' n_ in_ (fun y191 : Bool => R9 C9.r.r.r.r ⟨[(3, .one (.cell [di k_, db k_', db k_'', db k_''', db k_'''', db k_''''', Ps.enc Z1 k_'''''', Ps.enc Z0 k_'''''''])), (4, rC tsNode n_), (7, rb y191)], [], [], 106⟩ q))
  unfold graph_kind_may_j3_q
  refine (pre1 (graph_kind_may_f1000004 k_ k_' k_'' k_''' k_'''' k_''''' k_'''''' k_''''''' n_ in_ _)).trans ?_
  refine (cond_e (b := k_') (st' := (S9_1 k_ k_' k_'' k_''' k_'''' k_''''' k_'''''' k_''''''' n_ in_)) (hs := by (rcases k_'''''' with (_ | _ | _ | _ | _ | _ | _ | _ | _) <;> rcases k_''''''' with (_ | _ | _ | _ | _ | _) <;> kernel_rfl))).trans (bif_g ?_ ?_)
  · refine (graph_kind_may_r4 k_ k_' k_'' k_''' k_'''' k_''''' k_'''''' k_''''''' n_ in_ _).trans ?_
    refine (seqC_normal (st' := (S9_2 k_ k_' k_'' k_''' k_'''' k_''''' k_'''''' k_''''''' n_ in_)) (hs := by (rcases k_'''''' with (_ | _ | _ | _ | _ | _ | _ | _ | _) <;> rcases k_''''''' with (_ | _ | _ | _ | _ | _) <;> kernel_rfl))).trans ?_
    (rcases k_'''''' with (_ | _ | _ | _ | _ | _ | _ | _ | _) <;> rcases k_''''''' with (_ | _ | _ | _ | _ | _) <;> kernel_rfl)
  · refine (graph_kind_may_r5 k_ k_' k_'' k_''' k_'''' k_''''' k_'''''' k_''''''' n_ in_ _).trans ?_
    refine (seqC_normal (st' := (S9_3 k_ k_' k_'' k_''' k_'''' k_''''' k_'''''' k_''''''' n_ in_)) (hs := by (rcases k_'''''' with (_ | _ | _ | _ | _ | _ | _ | _ | _) <;> rcases k_''''''' with (_ | _ | _ | _ | _ | _) <;> kernel_rfl))).trans ?_
    (rcases k_'''''' with (_ | _ | _ | _ | _ | _ | _ | _ | _) <;> rcases k_''''''' with (_ | _ | _ | _ | _ | _) <;> kernel_rfl)
theorem graph_kind_may_f1000008 : P9 1 C9.r.r.r.r.l.b (S9_4 k_ k_' k_'' k_''' k_'''' k_''''' k_'''''' k_''''''' n_ in_) k = k ⟨[(3, .one (.cell [di k_, db k_', db k_'', db k_''', db k_'''', db k_''''', Ps.enc Z1 k_'''''', Ps.enc Z0 k_'''''''])), (4, rC tsNode n_), (7, rb (graph_kind_may_j3_p k_ k_' n_ in_)), (70, rb k_'')], [], [], 106⟩ := by (rcases k_'''''' with (_ | _ | _ | _ | _ | _ | _ | _ | _) <;> rcases k_''''''' with (_ | _ | _ | _ | _ | _) <;> kernel_rfl)
def graph_kind_may_r8_q (K : Bool → β) : β := (bif (graph_kind_may_j3_p k_ k_' n_ in_) then (K (graph_within n_.2.2.2.2.1 (0 : Int) (min (1 : Int) (IntKind.wrap .i64 (n_.2.2.1 - 1))))) else (K false))
def graph_kind_may_r8_p : Bool := graph_kind_may_r8_q k_ k_' n_ in_ (fun y => y)
theorem graph_kind_may_r8_n (K : Bool → β) : graph_kind_may_r8_q k_ k_' n_ in_ K = K (graph_kind_may_r8_p k_ k_' n_ in_) := (bif_k K rfl rfl)
abbrev S9_5 : St := ⟨[(3, .one (.cell [di k_, db k_', db k_'', db k_''', db k_'''', db k_''''', Ps.enc Z1 k_'''''', Ps.enc Z0 k_'''''''])), (4, rC tsNode n_), (7, rb (graph_kind_may_r8_p k_ k_' n_ in_))], [], [], 106⟩
theorem graph_kind_may_r8 : R9 C9.r.r.r.r.l.b.r.t (S9_4 k_ k_' k_'' k_''' k_'''' k_''''' k_'''''' k_''''''' n_ in_) q = q .normal (S9_5 k_ k_' k_'' k_''' k_'''' k_''''' k_'''''' k_''''''' n_ in_) := Eq.trans (by (rcases k_'''''' with (_ | _ | _ | _ | _ | _ | _ | _ | _) <;> rcases k_''''''' with (_ | _ | _ | _ | _ | _) <;> kernel_rfl)) (graph_kind_may_r8_n k_ k_' n_ in_ (fun y192 : Bool => q .normal ⟨[(3, .one (.cell [di k_, db k_', db k_'', db k_''', db k_'''', db k_''''', Ps.enc Z1 k_'''''', Ps.enc Z0 k_'''''''])), (4, rC tsNode n_), (7, rb y192)], [], [], 106⟩))
theorem graph_kind_may_f1000010 : P9 1 C9.r.r.r.r.l.b.r.e (S9_4 k_ k_' k_'' k_''' k_'''' k_''''' k_'''''' k_''''''' n_ in_) k = k ⟨[(3, .one (.cell [di k_, db k_', db k_'', db k_''', db k_'''', db k_''''', Ps.enc Z1 k_'''''', Ps.enc Z0 k_'''''''])), (4, rC tsNode n_), (7, rb (graph_kind_may_j3_p k_ k_' n_ in_)), (83, rb k_''')], [], [], 106⟩ := by (rcases k_'''''' with (_ | _ | _ | _ | _ | _ | _ | _ | _) <;> rcases k_''''''' with (_ | _ | _ | _ | _ | _) <;> kernel_rfl)
def graph_kind_may_r10_q (K : Bool → β) : β := (bif (graph_kind_may_j3_p k_ k_' n_ in_) then (K (n_.2.2.2.2.1 == 1)) else (K false))
def graph_kind_may_r10_p : Bool := graph_kind_may_r10_q k_ k_' n_ in_ (fun y => y)
theorem graph_kind_may_r10_n (K : Bool → β) : graph_kind_may_r10_q k_ k_' n_ in_ K = K (graph_kind_may_r10_p k_ k_' n_ in_) := (bif_k K rfl rfl)
abbrev S9_6 : St := ⟨[(3, .one (.cell [di k_, db k_', db k_'', db k_''', db k_'''', db k_''''', Ps.enc Z1 k_'''''', Ps.enc Z0 k_'''''''])), (4, rC tsNode n_), (7, rb (graph_kind_may_r10_p k_ k_' n_ in_))], [], [], 106⟩
theorem graph_kind_may_r10 : R9 C9.r.r.r.r.l.b.r.e.r.t (S9_4 k_ k_' k_'' k_''' k_'''' k_''''' k_'''''' k_''''''' n_ in_) q = q .normal (S9_6 k_ k_' k_'' k_''' k_'''' k_''''' k_'''''' k_''''''' n_ in_) := Eq.trans (by (rcases k_'''''' with (_ | _ | _ | _ | _ | _ | _ | _ | _) <;> rcases k_''''''' with (_ | _ | _ | _ | _ | _) <;> kernel_rfl)) (graph_kind_may_r10_n k_ k_' n_ in_ (fun y193 : Bool => q .normal ⟨[(3, .one (.cell [di k_, db k_', db k_'', db k_''', db k_'''', db k_''''', Ps.enc Z1 k_'''''', Ps.enc Z0 k_'''''''])), (4, rC tsNode n_), (7, rb y193)], [], [], 106⟩))
def graph_kind_may_r6_q (K : Bool → β) : β := (bif (graph_kind_may_j3_p k_ k_' n_ in_) then (K (n_.2.2.2.2.1 == 0)) else (K false))
def graph_kind_may_r6_p : Bool := graph_kind_may_r6_q k_ k_' n_ in_ (fun y => y)
theorem graph_kind_may_r6_n (K : Bool → β) : graph_kind_may_r6_q k_ k_' n_ in_ K = K (graph_kind_may_r6_p k_ k_' n_ in_) := (bif_k K rfl rfl)
abbrev S9_7 : St := ⟨[(3, .one (.cell [di k_, db k_', db k_'', db k_''', db k_'''', db k_''''', Ps.enc Z1 k_'''''', Ps.enc Z0 k_'''''''])), (4, rC tsNode n_), (7, rb (graph_kind_may_r6_p k_ k_' n_ in_))], [], [], 106⟩
theorem graph_kind_may_r6 : R9 C9.r.r.r.r.l.b.r.e.r.e (S9_4 k_ k_' k_'' k_''' k_'''' k_''''' k_'''''' k_''''''' n_ in_) q = q .normal (S9_7 k_ k_' k_'' k_''' k_'''' k_''''' k_'''''' k_''''''' n_ in_) := Eq.trans (by (rcases k_'''''' with (_ | _ | _ | _ | _ | _ | _ | _ | _) <;> rcases k_''''''' with (_ | _ | _ | _ | _ | _) <;> kernel_rfl)) (graph_kind_may_r6_n k_ k_' n_ in_ (fun y194 : Bool => q .normal ⟨[(3, .one (.cell [di k_, db k_', db k_'', db k_''', db k_'''', db k_''''', Ps.enc Z1 k_'''''', Ps.enc Z0 k_'''''''])), (4, rC tsNode n_), (7, rb y194)], [], [], 106⟩))
def graph_kind_may_j7_q (K : Bool → β) : β := (bif k_'' then (K (graph_kind_may_r8_p k_ k_' n_ in_)) else (bif k_''' then (K (graph_kind_may_r10_p k_ k_' n_ in_)) else (K (graph_kind_may_r6_p k_ k_' n_ in_))))
def graph_kind_may_j7_p : Bool := graph_kind_may_j7_q k_ k_' k_'' k_''' n_ in_ (fun y => y)
theorem graph_kind_may_j7_n (K : Bool → β) : graph_kind_may_j7_q k_ k_' k_'' k_''' n_ in_ K = K (graph_kind_may_j7_p k_ k_' k_'' k_''' n_ in_) := (bif_k K rfl (bif_k K rfl rfl))
abbrev S9_8 : St := ⟨[(3, .one (.cell [di k_, db k_', db k_'', db k_''', db k_'''', db k_''''', Ps.enc Z1 k_'''''', Ps.enc Z0 k_'''''''])), (4, rC tsNode n_), (7, rb (graph_kind_may_j7_p k_ k_' k_'' k_''' n_ in_))], [], [], 106⟩
theorem graph_kind_may_j7 : R9 C9.r.r.r.r.l (S9_4 k_ k_' k_'' k_''' k_'''' k_''''' k_'''''' k_''''''' n_ in_) (Q9 C9.r.r.r.r.r q) = R9 C9.r.r.r.r.r (S9_8 k_ k_' k_'' k_''' k_'''' k_''''' k_'''''' k_''''''' n_ in_) q := by
  refine Eq.trans ?_ (graph_kind_may_j7_n k_ k_' k_'' k_''' n_ in_ (fun y195 : Bool => R9 C9.r.r.r.r.r ⟨[(3, .one (.cell [di k_, db k_', db k_'', db k_''', db k_'''', db k_''''', Ps.enc Z1 k_'''''', Ps.enc Z0 k_'''''''])), (4, rC tsNode n_), (7, rb y195)], [], [], 106⟩ q))
  unfold graph_kind_may_j7_q
  refine (block_push (id := 0)).trans ?_
  refine (pre1 (graph_kind_may_f1000008 k_ k_' k_'' k_''' k_'''' k_''''' k_'''''' k_''''''' n_ in_ _)).trans ?_
  refine (cond_e (b := k_'') (st' := (S9_4 k_ k_' k_'' k_''' k_'''' k_''''' k_'''''' k_''''''' n_ in_)) (hs := by (rcases k_'''''' with (_ | _ | _ | _ | _ | _ | _ | _ | _) <;> rcases k_''''''' with (_ | _ | _ | _ | _ | _) <;> kernel_rfl))).trans (bif_g ?_ ?_)
  · refine (graph_kind_may_r8 k_ k_' k_'' k_''' k_'''' k_''''' k_'''''' k_''''''' n_ in_ _).trans ?_
    refine block_normal.trans ?_
    refine (seqC_normal (st' := (S9_5 k_ k_' k_'' k_''' k_'''' k_''''' k_'''''' k_''''''' n_ in_)) (hs := by (rcases k_'''''' with (_ | _ | _ | _ | _ | _ | _ | _ | _) <;> rcases k_''''''' with (_ | _ | _ | _ | _ | _) <;> kernel_rfl))).trans ?_
    (rcases k_'''''' with (_ | _ | _ | _ | _ | _ | _ | _ | _) <;> rcases k_''''''' with (_ | _ | _ | _ | _ | _) <;> kernel_rfl)
  · refine (pre1 (graph_kind_may_f1000010 k_ k_' k_'' k_''' k_'''' k_''''' k_'''''' k_''''''' n_ in_ _)).trans ?_
    refine (cond_e (b := k_''') (st' := (S9_4 k_ k_' k_'' k_''' k_'''' k_''''' k_'''''' k_''''''' n_ in_)) (hs := by (rcases k_'''''' with (_ | _ | _ | _ | _ | _ | _ | _ | _) <;> rcases k_''''''' with (_ | _ | _ | _ | _ | _) <;> kernel_rfl))).trans (bif_g ?_ ?_)
    · refine (graph_kind_may_r10 k_ k_' k_'' k_''' k_'''' k_''''' k_'''''' k_''''''' n_ in_ _).trans ?_
      refine block_normal.trans ?_
      refine (seqC_normal (st' := (S9_6 k_ k_' k_'' k_''' k_'''' k_''''' k_'''''' k_''''''' n_ in_)) (hs := by (rcases k_'''''' with (_ | _ | _ | _ | _ | _ | _ | _ | _) <;> rcases k_''''''' with (_ | _ | _ | _ | _ | _) <;> kernel_rfl))).trans ?_
      (rcases k_'''''' with (_ | _ | _ | _ | _ | _ | _ | _ | _) <;> rcases k_''''''' with (_ | _ | _ | _ | _ | _) <;> kernel_rfl)
    · refine (graph_kind_may_r6 k_ k_' k_'' k_''' k_'''' k_''''' k_'''''' k_''''''' n_ in_ _).trans ?_
      refine block_normal.trans ?_
      refine (seqC_normal (st' := (S9_7 k_ k_' k_'' k_''' k_'''' k_''''' k_'''''' k_''''''' n_ in_)) (hs := by (rcases k_'''''' with (_ | _ | _ | _ | _ | _ | _ | _ | _) <;> rcases k_''''''' with (_ | _ | _ | _ | _ | _) <;> kernel_rfl))).trans ?_
      (rcases k_'''''' with (_ | _ | _ | _ | _ | _ | _ | _ | _) <;> rcases k_''''''' with (_ | _ | _ | _ | _ | _) <;> kernel_rfl)
theorem graph_kind_may_f1000012 : P9 1 C9.r.r.r.r.r.l (S9_8 k_ k_' k_'' k_''' k_'''' k_''''' k_'''''' k_''''''' n_ in_) k = k ⟨[(4, rC tsNode n_), (7, rb (graph_kind_may_j7_p k_ k_' k_'' k_''' n_ in_)), (93, rb k_'''')], [], [], 106⟩ := by (rcases k_'''''' with (_ | _ | _ | _ | _ | _ | _ | _ | _) <;> rcases k_''''''' with (_ | _ | _ | _ | _ | _) <;> kernel_rfl)
def graph_kind_may_r12_q (K : Bool → β) : β := (bif (graph_kind_may_j7_p k_ k_' k_'' k_''' n_ in_) then (K (graph_within n_.2.2.2.2.2.1 (1 : Int) (8 : Int))) else (K false))
def graph_kind_may_r12_p : Bool := graph_kind_may_r12_q k_ k_' k_'' k_''' n_ in_ (fun y => y)
theorem graph_kind_may_r12_n (K : Bool → β) : graph_kind_may_r12_q k_ k_' k_'' k_''' n_ in_ K = K (graph_kind_may_r12_p k_ k_' k_'' k_''' n_ in_) := (bif_k K rfl rfl)
abbrev S9_9 : St := ⟨[(4, rC tsNode n_), (7, rb (graph_kind_may_j7_p k_ k_' k_'' k_''' n_ in_))], [], [], 106⟩
theorem graph_kind_may_r12 : P9 1 C9.r.r.r.r.r.l.r.t (S9_9 k_ k_' k_'' k_''' n_ in_) k = k ⟨[(6, rb (graph_kind_may_r12_p k_ k_' k_'' k_''' n_ in_))], [], [], 106⟩ := Eq.trans (by kernel_rfl) (graph_kind_may_r12_n k_ k_' k_'' k_''' n_ in_ (fun y197 : Bool => k ⟨[(6, rb y197)], [], [], 106⟩))
def graph_kind_may_r13_q (K : Bool → β) : β := (bif (graph_kind_may_j7_p k_ k_' k_'' k_''' n_ in_) then (K (n_.2.2.2.2.2.1 == 0)) else (K false))
def graph_kind_may_r13_p : Bool := graph_kind_may_r13_q k_ k_' k_'' k_''' n_ in_ (fun y => y)
theorem graph_kind_may_r13_n (K : Bool → β) : graph_kind_may_r13_q k_ k_' k_'' k_''' n_ in_ K = K (graph_kind_may_r13_p k_ k_' k_'' k_''' n_ in_) := (bif_k K rfl rfl)
theorem graph_kind_may_r13 : P9 1 C9.r.r.r.r.r.r (S9_9 k_ k_' k_'' k_''' n_ in_) k = k ⟨[(6, rb (graph_kind_may_r13_p k_ k_' k_'' k_''' n_ in_))], [], [], 106⟩ := Eq.trans (by kernel_rfl) (graph_kind_may_r13_n k_ k_' k_'' k_''' n_ in_ (fun y198 : Bool => k ⟨[(6, rb y198)], [], [], 106⟩))
/-- (quilt/graph.kind).may -/
def graph_kind_may_q {β : Type} (k_ : Int) (k_' : Bool) (k_'' : Bool) (k_''' : Bool) (k_'''' : Bool) (k_''''' : Bool) (k_'''''' : U3) (k_''''''' : U0) (n_ : Node) (in_ : (List I4)) (K : Bool → β) : β := (bif k_'''' then (K (graph_kind_may_r12_p k_ k_' k_'' k_''' n_ in_)) else (K (graph_kind_may_r13_p k_ k_' k_'' k_''' n_ in_)))
def graph_kind_may : Bool := graph_kind_may_q k_ k_' k_'' k_''' k_'''' k_''''' k_'''''' k_''''''' n_ in_ (fun y => y)
theorem graph_kind_may_n (K : Bool → β) : graph_kind_may_q k_ k_' k_'' k_''' k_'''' k_''''' k_'''''' k_''''''' n_ in_ K = K (graph_kind_may k_ k_' k_'' k_''' k_'''' k_''''' k_'''''' k_''''''' n_ in_) := (bif_k K rfl rfl)
theorem graph_kind_may_is : stepS E cp9 noE 49 [.agg [di k_, db k_', db k_'', db k_''', db k_'''', db k_''''', Ps.enc Z1 k_'''''', Ps.enc Z0 k_'''''''], rA tsNode n_, rl tsI4 in_] = (fun y : Bool => some (rb y : R)) (graph_kind_may k_ k_' k_'' k_''' k_'''' k_''''' k_'''''' k_''''''' n_ in_) := by
  refine Eq.trans ?_ (graph_kind_may_n k_ k_' k_'' k_''' k_'''' k_''''' k_'''''' k_''''''' n_ in_ (fun y : Bool => some (rb y : R)))
  refine (stepG_is (nt := 106) (regs := [(0, .agg [di k_, db k_', db k_'', db k_''', db k_'''', db k_''''', Ps.enc Z1 k_'''''', Ps.enc Z0 k_''''''']), (1, rA tsNode n_), (2, rl tsI4 in_)]) (by (rcases k_'''''' with (_ | _ | _ | _ | _ | _ | _ | _ | _) <;> rcases k_''''''' with (_ | _ | _ | _ | _ | _) <;> kernel_rfl)) (by (rcases k_'''''' with (_ | _ | _ | _ | _ | _ | _ | _ | _) <;> rcases k_''''''' with (_ | _ | _ | _ | _ | _) <;> kernel_rfl))).trans ?_
  unfold graph_kind_may_q
  refine (pre2 (graph_kind_may_r1 k_ k_' k_'' k_''' k_'''' k_''''' k_'''''' k_''''''' n_ in_ _)).trans ?_
  refine (pre1 (graph_kind_may_r2 k_ k_' k_'' k_''' k_'''' k_''''' k_'''''' k_''''''' n_ in_ _)).trans ?_
  refine .trans seq_push ?_
  refine (graph_kind_may_j3 k_ k_' k_'' k_''' k_'''' k_''''' k_'''''' k_''''''' n_ in_ _).trans ?_
  refine .trans seq_push ?_
  refine (graph_kind_may_j7 k_ k_' k_'' k_''' k_'''' k_''''' k_'''''' k_''''''' n_ in_ _).trans ?_
  refine .trans seq_push ?_
  refine (pre1 (graph_kind_may_f1000012 k_ k_' k_'' k_''' k_'''' k_''''' k_'''''' k_''''''' n_ in_ _)).trans ?_
  refine (cond_e (b := k_'''') (st' := (S9_9 k_ k_' k_'' k_''' n_ in_)) (hs := by (rcases k_'''''' with (_ | _ | _ | _ | _ | _ | _ | _ | _) <;> rcases k_''''''' with (_ | _ | _ | _ | _ | _) <;> kernel_rfl))).trans (bif_g ?_ ?_)
  · refine (pre1 (graph_kind_may_r12 k_ k_' k_'' k_''' n_ in_ _)).trans ?_
    refine (ret_eq).trans ?_
    refine seqC_ret.trans ?_
    (rcases k_'''''' with (_ | _ | _ | _ | _ | _ | _ | _ | _) <;> rcases k_''''''' with (_ | _ | _ | _ | _ | _) <;> kernel_rfl)
  · refine (skip_eq).trans ?_
    refine (seqC_normal (st' := (S9_9 k_ k_' k_'' k_''' n_ in_)) (hs := by (rcases k_'''''' with (_ | _ | _ | _ | _ | _ | _ | _ | _) <;> rcases k_''''''' with (_ | _ | _ | _ | _ | _) <;> kernel_rfl))).trans ?_
    refine (pre1 (graph_kind_may_r13 k_ k_' k_'' k_''' n_ in_ _)).trans ?_
    refine (ret_eq).trans ?_
    (rcases k_'''''' with (_ | _ | _ | _ | _ | _ | _ | _ | _) <;> rcases k_''''''' with (_ | _ | _ | _ | _ | _) <;> kernel_rfl)
noncomputable def cp10 : CallP := withC cp9 49 [(.aggs Z4), (.agg tsNode), (pL tsI4)] (.one pB) (fun y : Bool => y) (fun x => some (graph_kind_may x.1.1 x.1.2.1 x.1.2.2.1 x.1.2.2.2.1 x.1.2.2.2.2.1 x.1.2.2.2.2.2.1 x.1.2.2.2.2.2.2.1 x.1.2.2.2.2.2.2.2.1 x.2.1 x.2.2.1))
theorem cp10_ok : PureOK E cp10 := conS eok cp9_ok noE_ok fun x => Eq.mp (by kernel_rfl) (graph_kind_may_is x.1.1 x.1.2.1 x.1.2.2.1 x.1.2.2.2.1 x.1.2.2.2.2.1 x.1.2.2.2.2.2.1 x.1.2.2.2.2.2.2.1 x.1.2.2.2.2.2.2.2.1 x.2.1 x.2.2.1)
end
section
variable {α β : Type} (v_ : I4) (c1_ : Node) (k : St → Option α)
noncomputable abbrev C10 := codeOf E.P 51
noncomputable abbrev P10 := @preK α E 51 cp10 noE
theorem graph_Value_1_fz : P10 2 C10 ⟨[(0, rA tsI4 v_), (1, rC tsNode c1_)], [], [], 9⟩ k = k ⟨[(3, rb (v_.2.2.2 != c1_.2.2.2.2.2.2.2.2.1))], [], [], 9⟩ := by kernel_rfl
/-- quilt/graph.Value$1 -/
def graph_Value_1_q (K : Bool → β) : β := (K (v_.2.2.2 != c1_.2.2.2.2.2.2.2.2.1))
def graph_Value_1 : Bool := graph_Value_1_q v_ c1_ (fun y => y)
theorem graph_Value_1_n (K : Bool → β) : graph_Value_1_q v_ c1_ K = K (graph_Value_1 v_ c1_) := rfl
theorem graph_Value_1_is : stepS E cp10 noE 51 [rA tsI4 v_, rC tsNode c1_] = (fun y : Bool => some (rb y : R)) (graph_Value_1 v_ c1_) := by
  refine Eq.trans ?_ (graph_Value_1_n v_ c1_ (fun y : Bool => some (rb y : R)))
  refine (stepG_is (nt := 9) (regs := [(0, rA tsI4 v_), (1, rC tsNode c1_)])).trans ?_
  unfold graph_Value_1_q
  refine (pre2 (graph_Value_1_fz v_ c1_ _)).trans ?_
  refine (ret_eq).trans ?_
  kernel_rfl
noncomputable def cp11 : CallP := withC cp10 51 [(.agg tsI4), (.one Z3)] (.one pB) (fun y : Bool => y) (fun x => some (graph_Value_1 x.1 (x.2.1.1, x.2.1.2.1, x.2.1.2.2.1, x.2.1.2.2.2.1, x.2.1.2.2.2.2.1, x.2.1.2.2.2.2.2.1, x.2.1.2.2.2.2.2.2.1, x.2.1.2.2.2.2.2.2.2.1, x.2.1.2.2.2.2.2.2.2.2.1, x.2.1.2.2.2.2.2.2.2.2.2.1, x.2.1.2.2.2.2.2.2.2.2.2.2.1, x.2.1.2.2.2.2.2.2.2.2.2.2.2.1, x.2.1.2.2.2.2.2.2.2.2.2.2.2.2.1, x.2.1.2.2.2.2.2.2.2.2.2.2.2.2.2.1)))
theorem cp11_ok : PureOK E cp11 := conS eok cp10_ok noE_ok fun x => Eq.mp (by kernel_rfl) (graph_Value_1_is x.1 (x.2.1.1, x.2.1.2.1, x.2.1.2.2.1, x.2.1.2.2.2.1, x.2.1.2.2.2.2.1, x.2.1.2.2.2.2.2.1, x.2.1.2.2.2.2.2.2.1, x.2.1.2.2.2.2.2.2.2.1, x.2.1.2.2.2.2.2.2.2.2.1, x.2.1.2.2.2.2.2.2.2.2.2.1, x.2.1.2.2.2.2.2.2.2.2.2.2.1, x.2.1.2.2.2.2.2.2.2.2.2.2.2.1, x.2.1.2.2.2.2.2.2.2.2.2.2.2.2.1, x.2.1.2.2.2.2.2.2.2.2.2.2.2.2.2.1))
end
section
variable {α : Type} (s_ : (List I4)) (f_ : Node) (s212 : Int) (k : St → Option α) (q : Kont α)
noncomputable abbrev C11 := codeOf E.P 70
noncomputable abbrev P11 := @preK α E 70 cp11 noE
noncomputable abbrev R11 := @runCode α E 70 cp11 noE
abbrev S11_0 : St := ⟨[(0, rl tsI4 s_), (1, .one (.fn 51 [.cell (tsNode.leaves f_)]))], [], [], 19⟩
theorem slices_IndexFuncapi_Value_api_Value_f1 : P11 1 C11 (S11_0 s_ f_) k = k (S11_0 s_ f_) := by kernel_rfl
abbrev S11_1 : St := ⟨[(0, rl tsI4 s_), (1, .one (.fn 51 [.cell (tsNode.leaves f_)])), (7, ri (s_.length : Int)), (8, ri 0)], [], [], 19⟩
theorem slices_IndexFuncapi_Value_api_Value_f2 : P11 1 C11.r.l (S11_0 s_ f_) k = k (S11_1 s_ f_) := by kernel_rfl
abbrev S11_2 : St := ⟨[(0, rl tsI4 s_), (1, .one (.fn 51 [.cell (tsNode.leaves f_)])), (7, ri (s_.length : Int)), (8, ri s212)], [], [], 19⟩
theorem slices_IndexFuncapi_Value_api_Value_fz : P11 1 C11.r.l.r.b.b (S11_2 s_ f_ s212) k = k ⟨[(0, rl tsI4 s_), (1, .one (.fn 51 [.cell (tsNode.leaves f_)])), (7, ri (s_.length : Int)), (8, ri s212), (9, rb (decide (s212 < (s_.length : Int))))], [], [], 19⟩ := by kernel_rfl
def slices_IndexFuncapi_Value_api_Value_r4_p : Option Unit := (bif (decide ((0 : Int) ≤ s212)) then (bif (decide (s212 < (s_.length : Int))) then (some ()) else none) else none)
theorem slices_IndexFuncapi_Value_api_Value_r4 : P11 2 C11.r.l.r.b.b.r.r.l.b (S11_2 s_ f_ s212) k = Option.bind (slices_IndexFuncapi_Value_api_Value_r4_p s_ s212) (fun y214 : Unit => k ⟨[(0, rl tsI4 s_), (1, .one (.fn 51 [.cell (tsNode.leaves f_)])), (5, ri s212), (7, ri (s_.length : Int)), (8, ri s212), (16, rb (graph_Value_1 (gt s_ s212 dI4) f_))], [], [], 19⟩) := .trans (by kernel_rfl) (bif_b (bif_b some_b none_b) none_b)
abbrev S11_3 : St := ⟨[(0, rl tsI4 s_), (1, .one (.fn 51 [.cell (tsNode.leaves f_)])), (5, ri s212), (7, ri (s_.length : Int)), (8, ri s212)], [], [], 19⟩
theorem slices_IndexFuncapi_Value_api_Value_fzx1 : P11 1 C11.r.l.r.b.b.r.r.l.b.r.r.t (S11_3 s_ f_ s212) k = k ⟨[(4, ri s212)], [], [], 19⟩ := by kernel_rfl
theorem slices_IndexFuncapi_Value_api_Value_r6 : R11 C11.r.l.r.b.b.r.r.r (S11_2 s_ f_ s212) q = q .normal ⟨[(0, rl tsI4 s_), (1, .one (.fn 51 [.cell (tsNode.leaves f_)])), (7, ri (s_.length : Int)), (8, ri (IntKind.wrap .i64 (s212 + 1)))], [], [], 19⟩ := by kernel_rfl
def slices_IndexFuncapi_Value_api_Value_l2_p : Option (Int ⊕ (Int ⊕ Int)) := (bif (decide (s212 < (s_.length : Int))) then (Option.bind (slices_IndexFuncapi_Value_api_Value_r4_p s_ s212) (fun y214 : Unit => (bif (graph_Value_1 (gt s_ s212 dI4) f_) then (some (Sum.inr (Sum.inr s212))) else (some (Sum.inl (IntKind.wrap .i64 (s212 + 1))))))) else (some (Sum.inr (Sum.inl s212))))
abbrev S11_4 (y215 : Int) : St := ⟨[(0, rl tsI4 s_), (1, .one (.fn 51 [.cell (tsNode.leaves f_)])), (7, ri (s_.length : Int)), (8, ri y215)], [], [], 19⟩
theorem slices_IndexFuncapi_Value_api_Value_l2_b : R11 C11.r.l.r.b.b (S11_2 s_ f_ s212) (loopKont 0 q) = Option.bind (slices_IndexFuncapi_Value_api_Value_l2_p s_ f_ s212) (either (fun y : Int => q .normal ⟨[(0, rl tsI4 s_), (1, .one (.fn 51 [.cell (tsNode.leaves f_)])), (7, ri (s_.length : Int)), (8, ri y)], [], [], 19⟩) (either (fun y215 : Int => q (.exit 0) (S11_4 s_ f_ y215)) (fun y216 : Int => q .ret ⟨[(4, ri y216)], [], [], 19⟩))) := by
  refine .trans ?_ (bif_b (bind_b fun y214 => (bif_b e3_2 e3_0)) e3_1)
  refine (pre1 (slices_IndexFuncapi_Value_api_Value_fz s_ f_ s212 _)).trans ?_
  refine .trans seq_push ?_
  refine (cond_e (b := (decide (s212 < (s_.length : Int)))) (st' := (S11_2 s_ f_ s212)) ).trans (bif_g ?_ ?_)
  · refine (skip_eq).trans ?_
    refine (seqC_normal (st' := (S11_2 s_ f_ s212))).trans ?_
    refine .trans seq_push ?_
    refine (block_push (id := 1)).trans ?_
    refine (pre2 (slices_IndexFuncapi_Value_api_Value_r4 s_ f_ s212 _)).trans (bind_g fun y214 => ?_)
    refine (cond_e (b := (graph_Value_1 (gt s_ s212 dI4) f_)) (st' := (S11_3 s_ f_ s212)) ).trans (bif_g ?_ ?_)
    · refine (pre1 (slices_IndexFuncapi_Value_api_Value_fzx1 s_ f_ s212 _)).trans ?_
      refine (ret_eq).trans ?_
      refine block_ret.trans ?_
      refine seqC_ret.trans ?_
      kernel_rfl
    · refine (skip_eq).trans ?_
      refine block_normal.trans ?_
      refine (seqC_normal (st' := (S11_2 s_ f_ s212))).trans ?_
      refine (slices_IndexFuncapi_Value_api_Value_r6 s_ f_ s212 _).trans ?_
      kernel_rfl
  · refine ((exit_eq (j := 0))).trans ?_
    refine seqC_exit.trans ?_
    kernel_rfl
theorem slices_IndexFuncapi_Value_api_Value_l2 : R11 C11.r.l.r.b (S11_1 s_ f_) q = Option.bind (iterN (slices_IndexFuncapi_Value_api_Value_l2_p s_ f_) LL (0 : Int)) (either (fun y215 : Int => q (.exit 0) (S11_4 s_ f_ y215)) (fun y216 : Int => q .ret ⟨[(4, ri y216)], [], [], 19⟩)) :=
  Eq.trans (by kernel_rfl) (loop_iter2 (S := fun s212 : Int => (S11_2 s_ f_ s212)) (Y1 := fun y215 : Int => ((.exit 0), (S11_4 s_ f_ y215))) (Y2 := fun y216 : Int => (.ret, ⟨[(4, ri y216)], [], [], 19⟩)) (fun s q => slices_IndexFuncapi_Value_api_Value_l2_b s_ f_ s q) (fun z => rfl) (fun z => rfl) LL (0 : Int))
theorem slices_IndexFuncapi_Value_api_Value_fzx2 : P11 1 C11.r.r ⟨[], [], [], 19⟩ k = k ⟨[(4, ri (-1 : Int))], [], [], 19⟩ := by kernel_rfl
/-- slices.IndexFunc[[]quilt/api.Value,quilt/api.Value] -/
def slices_IndexFuncapi_Value_api_Value : Option Int := (Option.bind (iterN (slices_IndexFuncapi_Value_api_Value_l2_p s_ f_) LL (0 : Int)) (either (fun y215 : Int => (some (-1 : Int))) (fun y216 : Int => (some y216))))
theorem slices_IndexFuncapi_Value_api_Value_is : stepS E cp11 noE 70 [rl tsI4 s_, .one (.fn 51 [.cell (tsNode.leaves f_)])] = Option.bind (slices_IndexFuncapi_Value_api_Value s_ f_) (fun y : Int => some (ri y : R)) := by
  refine .trans ?_ (bind_b (either_b (fun y215 => some_b) (fun y216 => some_b)))
  refine (stepG_is (nt := 19) (regs := [(0, rl tsI4 s_), (1, .one (.fn 51 [.cell (tsNode.leaves f_)]))])).trans ?_
  refine (pre1 (slices_IndexFuncapi_Value_api_Value_f1 s_ f_ _)).trans ?_
  refine .trans seq_push ?_
  refine (pre1 (slices_IndexFuncapi_Value_api_Value_f2 s_ f_ _)).trans ?_
  refine (block_push (id := 0)).trans ?_
  refine (slices_IndexFuncapi_Value_api_Value_l2 s_ f_ _).trans (bind_g (either_g (fun y215 => ?_) (fun y216 => ?_)))
  · refine block_same.trans ?_
    refine (seqC_normal (st' := ⟨[], [], [], 19⟩)).trans ?_
    refine (pre1 (slices_IndexFuncapi_Value_api_Value_fzx2 _)).trans ?_
    refine (ret_eq).trans ?_
    kernel_rfl
  · refine block_ret.trans ?_
    refine seqC_ret.trans ?_
    kernel_rfl
noncomputable def cp12 : CallP := withC cp11 70 [(pL tsI4), (.one (.fn 51 (.cons Z3 .nil)))] (.one pI) (fun y : Int => y) (fun x => slices_IndexFuncapi_Value_api_Value x.1 (x.2.1.1.1, x.2.1.1.2.1, x.2.1.1.2.2.1, x.2.1.1.2.2.2.1, x.2.1.1.2.2.2.2.1, x.2.1.1.2.2.2.2.2.1, x.2.1.1.2.2.2.2.2.2.1, x.2.1.1.2.2.2.2.2.2.2.1, x.2.1.1.2.2.2.2.2.2.2.2.1, x.2.1.1.2.2.2.2.2.2.2.2.2.1, x.2.1.1.2.2.2.2.2.2.2.2.2.2.1, x.2.1.1.2.2.2.2.2.2.2.2.2.2.2.1, x.2.1.1.2.2.2.2.2.2.2.2.2.2.2.2.1, x.2.1.1.2.2.2.2.2.2.2.2.2.2.2.2.2.1))
theorem cp12_ok : PureOK E cp12 := conS eok cp11_ok noE_ok fun x => Eq.mp (by kernel_rfl) (slices_IndexFuncapi_Value_api_Value_is x.1 (x.2.1.1.1, x.2.1.1.2.1, x.2.1.1.2.2.1, x.2.1.1.2.2.2.1, x.2.1.1.2.2.2.2.1, x.2.1.1.2.2.2.2.2.1, x.2.1.1.2.2.2.2.2.2.1, x.2.1.1.2.2.2.2.2.2.2.1, x.2.1.1.2.2.2.2.2.2.2.2.1, x.2.1.1.2.2.2.2.2.2.2.2.2.1, x.2.1.1.2.2.2.2.2.2.2.2.2.2.1, x.2.1.1.2.2.2.2.2.2.2.2.2.2.2.1, x.2.1.1.2.2.2.2.2.2.2.2.2.2.2.2.1, x.2.1.1.2.2.2.2.2.2.2.2.2.2.2.2.2.1))
end
section
variable {α : Type} (s_ : (List I4)) (f_ : Node) (k : St → Option α)
noncomputable abbrev C12 := codeOf E.P 50
noncomputable abbrev P12 := @preK α E 50 cp12 noE
theorem slices_ContainsFuncapi_Value_api_Value_r1 : P12 2 C12 ⟨[(0, rl tsI4 s_), (1, .one (.fn 51 [.cell (tsNode.leaves f_)]))], [], [], 9⟩ k = Option.bind (slices_IndexFuncapi_Value_api_Value s_ f_) fun y217 : Int => k ⟨[(4, rb (decide (y217 ≥ 0)))], [], [], 9⟩ := by kernel_rfl
/-- slices.ContainsFunc[[]quilt/api.Value,quilt/api.Value] -/
def slices_ContainsFuncapi_Value_api_Value : Option Bool := (Option.bind (slices_IndexFuncapi_Value_api_Value s_ f_) (fun y217 : Int => (some (decide (y217 ≥ 0)))))
theorem slices_ContainsFuncapi_Value_api_Value_is : stepS E cp12 noE 50 [rl tsI4 s_, .one (.fn 51 [.cell (tsNode.leaves f_)])] = Option.bind (slices_ContainsFuncapi_Value_api_Value s_ f_) (fun y : Bool => some (rb y : R)) := by
  refine .trans ?_ (bind_b fun y217 => some_b)
  refine (stepG_is (nt := 9) (regs := [(0, rl tsI4 s_), (1, .one (.fn 51 [.cell (tsNode.leaves f_)]))])).trans ?_
  refine (pre2 (slices_ContainsFuncapi_Value_api_Value_r1 s_ f_ _)).trans (bind_g fun y217 => ?_)
  refine (ret_eq).trans ?_
  kernel_rfl
noncomputable def cp13 : CallP := withC cp12 50 [(pL tsI4), (.one (.fn 51 (.cons Z3 .nil)))] (.one pB) (fun y : Bool => y) (fun x => slices_ContainsFuncapi_Value_api_Value x.1 (x.2.1.1.1, x.2.1.1.2.1, x.2.1.1.2.2.1, x.2.1.1.2.2.2.1, x.2.1.1.2.2.2.2.1, x.2.1.1.2.2.2.2.2.1, x.2.1.1.2.2.2.2.2.2.1, x.2.1.1.2.2.2.2.2.2.2.1, x.2.1.1.2.2.2.2.2.2.2.2.1, x.2.1.1.2.2.2.2.2.2.2.2.2.1, x.2.1.1.2.2.2.2.2.2.2.2.2.2.1, x.2.1.1.2.2.2.2.2.2.2.2.2.2.2.1, x.2.1.1.2.2.2.2.2.2.2.2.2.2.2.2.1, x.2.1.1.2.2.2.2.2.2.2.2.2.2.2.2.2.1))
theorem cp13_ok : PureOK E cp13 := conS eok cp12_ok noE_ok fun x => Eq.mp (by kernel_rfl) (slices_ContainsFuncapi_Value_api_Value_is x.1 (x.2.1.1.1, x.2.1.1.2.1, x.2.1.1.2.2.1, x.2.1.1.2.2.2.1, x.2.1.1.2.2.2.2.1, x.2.1.1.2.2.2.2.2.1, x.2.1.1.2.2.2.2.2.2.1, x.2.1.1.2.2.2.2.2.2.2.1, x.2.1.1.2.2.2.2.2.2.2.2.1, x.2.1.1.2.2.2.2.2.2.2.2.2.1, x.2.1.1.2.2.2.2.2.2.2.2.2.2.1, x.2.1.1.2.2.2.2.2.2.2.2.2.2.2.1, x.2.1.1.2.2.2.2.2.2.2.2.2.2.2.2.1, x.2.1.1.2.2.2.2.2.2.2.2.2.2.2.2.2.1))
end
end Go.V.P
