/- What functions compute. -/
import Derived.Test.YtlmhfffnobgipaaPl2
namespace Go.V.P
open Go.RowKit Go.V Go.Proofs
set_option linter.unusedVariables false
set_option maxRecDepth 100000
section
variable {α : Type} (g_ : Graph) (y669 : ((List I4) × Int)) (s682 : ((List Int) × Int)) (y687 : ((List Int) × Int)) (k : St → Option α) (q : Kont α)
noncomputable abbrev C46 := codeOf E.P 12
noncomputable abbrev P46 := @preK α E 12 cp43 ce3
noncomputable abbrev R46 := @runCode α E 12 cp43 ce3
abbrev S46_0 : St := ⟨[(4, rO tsI4 y669.1 4), (5, ri y669.2)], [], [], 28⟩
theorem place_Places_r1 : P46 2 C46 ⟨[(0, rA tsGraph g_)], [], [], 28⟩ k = Option.bind (place_lots g_) fun y669 : ((List I4) × Int) => k (S46_0 y669) := by kernel_rfl
abbrev S46_1 : St := ⟨[(4, rO tsI4 y669.1 4), (5, ri y669.2), (6, .one (.ow (.one (.int .i64)) [] (.v 6)))], [], [], 28⟩
theorem place_Places_f3 : P46 1 C46.r.r (S46_0 y669) k = k (S46_1 y669) := by kernel_rfl
abbrev S46_2 : St := ⟨[(5, ri y669.2), (6, .one (.ow (.one (.int .i64)) [] (.v 6))), (14, rO tsI4 y669.1 4), (15, ri (y669.1.length : Int)), (16, ri 0)], [], [], 28⟩
theorem place_Places_f4 : P46 1 C46.r.r.r.l (S46_1 y669) k = k (S46_2 y669) := by kernel_rfl
abbrev S46_3 : St := ⟨[(5, ri y669.2), (6, .one (.ow (.one (.int .i64)) s682.1 (.v 6))), (14, rO tsI4 y669.1 4), (15, ri (y669.1.length : Int)), (16, ri s682.2)], [], [], 28⟩
theorem place_Places_fz : P46 1 C46.r.r.r.l.r.b.b (S46_3 y669 s682) k = k ⟨[(5, ri y669.2), (6, .one (.ow (.one (.int .i64)) s682.1 (.v 6))), (14, rO tsI4 y669.1 4), (15, ri (y669.1.length : Int)), (16, ri s682.2), (17, rb (decide (s682.2 < (y669.1.length : Int))))], [], [], 28⟩ := by kernel_rfl
def place_Places_r5_p : Option Unit := (bif (decide ((0 : Int) ≤ s682.2)) then (bif (decide (s682.2 < (y669.1.length : Int))) then (some ()) else none) else none)
abbrev S46_4 : St := ⟨[(5, ri y669.2), (6, .one (.ow (.one (.int .i64)) s682.1 (.v 6))), (8, rF 0), (14, rO tsI4 y669.1 4), (15, ri (y669.1.length : Int)), (16, ri s682.2)], [(tsI4.leaves (gt y669.1 s682.2 dI4))], [], 28⟩
theorem place_Places_r5 : P46 1 C46.r.r.r.l.r.b.b.r.r.l.b (S46_3 y669 s682) k = Option.bind (place_Places_r5_p y669 s682) (fun y685 : Unit => k (S46_4 y669 s682)) := .trans (by kernel_rfl) (bif_b (bif_b some_b none_b) none_b)
def place_Places_r6_p : Option Unit := (bif (decide (s682.1.length + ([(gt y669.1 s682.2 dI4).2.2.1] : List Int).length ≤ maxL)) then (some ()) else none)
abbrev S46_5 : St := ⟨[(5, ri y669.2), (6, .one (.ow (.one (.int .i64)) (s682.1 ++ [(gt y669.1 s682.2 dI4).2.2.1]) (.v 6))), (14, rO tsI4 y669.1 4), (15, ri (y669.1.length : Int)), (16, ri s682.2)], [[]], [], 28⟩
theorem place_Places_r6 : R46 C46.r.r.r.l.r.b.b.r.r.l.b.r (S46_4 y669 s682) q = Option.bind (place_Places_r6_p y669 s682) (fun y686 : Unit => q .normal (S46_5 y669 s682)) := .trans (by kernel_rfl) (bif_b some_b none_b)
theorem place_Places_r7 : R46 C46.r.r.r.l.r.b.b.r.r.r (S46_5 y669 s682) q = q .normal ⟨[(5, ri y669.2), (6, .one (.ow (.one (.int .i64)) (s682.1 ++ [(gt y669.1 s682.2 dI4).2.2.1]) (.v 6))), (14, rO tsI4 y669.1 4), (15, ri (y669.1.length : Int)), (16, ri (IntKind.wrap .i64 (s682.2 + 1)))], [[]], [], 28⟩ := by kernel_rfl
def place_Places_l4_p : Option (((List Int) × Int) ⊕ ((List Int) × Int)) := (bif (decide (s682.2 < (y669.1.length : Int))) then (Option.bind (place_Places_r5_p y669 s682) (fun y685 : Unit => (Option.bind (place_Places_r6_p y669 s682) (fun y686 : Unit => (some (Sum.inl ((s682.1 ++ [(gt y669.1 s682.2 dI4).2.2.1]), (IntKind.wrap .i64 (s682.2 + 1))))))))) else (some (Sum.inr s682)))
abbrev S46_6 : St := ⟨[(5, ri y669.2), (6, .one (.ow (.one (.int .i64)) y687.1 (.v 6))), (14, rO tsI4 y669.1 4), (15, ri (y669.1.length : Int)), (16, ri y687.2)], [], [], 28⟩
theorem place_Places_l4_b : R46 C46.r.r.r.l.r.b.b (S46_3 y669 s682) (loopKont 0 q) = Option.bind (place_Places_l4_p y669 s682) (either (fun y : ((List Int) × Int) => q .normal ⟨[(5, ri y669.2), (6, .one (.ow (.one (.int .i64)) y.1 (.v 6))), (14, rO tsI4 y669.1 4), (15, ri (y669.1.length : Int)), (16, ri y.2)], [], [], 28⟩) (fun y687 : ((List Int) × Int) => q (.exit 0) (S46_6 y669 y687))) := by
  refine .trans ?_ (bif_b (bind_b fun y685 => (bind_b fun y686 => e2_0)) e2_1)
  refine (pre1 (place_Places_fz y669 s682 _)).trans ?_
  refine .trans seq_push ?_
  refine (cond_e (b := (decide (s682.2 < (y669.1.length : Int)))) (st' := (S46_3 y669 s682)) ).trans (bif_g ?_ ?_)
  · refine (skip_eq).trans ?_
    refine (seqC_normal (st' := (S46_3 y669 s682))).trans ?_
    refine .trans seq_push ?_
    refine (block_push (id := 1)).trans ?_
    refine (pre1 (place_Places_r5 y669 s682 _)).trans (bind_g fun y685 => ?_)
    refine (place_Places_r6 y669 s682 _).trans (bind_g fun y686 => ?_)
    refine block_normal.trans ?_
    refine (seqC_normal (st' := (S46_5 y669 s682))).trans ?_
    refine (place_Places_r7 y669 s682 _).trans ?_
    kernel_rfl
  · refine ((exit_eq (j := 0))).trans ?_
    refine seqC_exit.trans ?_
    kernel_rfl
theorem place_Places_l4 : R46 C46.r.r.r.l.r.b (S46_2 y669) q = Option.bind (iterN (place_Places_l4_p y669) LL ([], (0 : Int))) (fun y687 : ((List Int) × Int) => q (.exit 0) (S46_6 y669 y687)) :=
  Eq.trans (by kernel_rfl) (loop_iter1 (S := fun s682 : ((List Int) × Int) => (S46_3 y669 s682)) (Y1 := fun y687 : ((List Int) × Int) => ((.exit 0), (S46_6 y669 y687))) (fun s q => place_Places_l4_b y669 s q) (fun z => rfl) LL ([], (0 : Int)))
abbrev S46_7 : St := ⟨[(5, ri y669.2), (6, .one (.ow (.one (.int .i64)) y687.1 (.v 6)))], [], [], 28⟩
theorem place_Places_fzx1 : P46 1 C46.r.r.r.r (S46_7 y669 y687) k = k ⟨[(2, .one (.ow (.one (.int .i64)) y687.1 (.v 6))), (3, ri y669.2)], [], [], 28⟩ := by kernel_rfl
/-- quilt/place.Places -/
def place_Places : Option ((List Int) × Int) := (Option.bind (place_lots g_) (fun y669 : ((List I4) × Int) => (Option.bind (iterN (place_Places_l4_p y669) LL ([], (0 : Int))) (fun y687 : ((List Int) × Int) => (some (y687.1, y669.2))))))
theorem place_Places_is : stepO E cp43 ce3 12 [rA tsGraph g_] = Option.bind (place_Places g_) (fun y : ((List Int) × Int) => some (.tup [.one (.ow (.one (.int .i64)) y.1 (.s 0)), ri y.2] : R)) := by
  refine .trans ?_ (bind_b fun y669 => (bind_b fun y687 => some_b))
  refine (stepG_is (nt := 28) (regs := [(0, rA tsGraph g_)])).trans ?_
  refine (pre2 (place_Places_r1 g_ _)).trans (bind_g fun y669 => ?_)
  refine (pre1 (place_Places_f3 y669 _)).trans ?_
  refine .trans seq_push ?_
  refine (pre1 (place_Places_f4 y669 _)).trans ?_
  refine (block_push (id := 0)).trans ?_
  refine (place_Places_l4 y669 _).trans (bind_g fun y687 => ?_)
  refine block_same.trans ?_
  refine (seqC_normal (st' := (S46_7 y669 y687))).trans ?_
  refine (pre1 (place_Places_fzx1 y669 y687 _)).trans ?_
  refine (ret_eq).trans ?_
  kernel_rfl
noncomputable def cp44 : CallP := withC cp43 12 [(.agg tsGraph)] (.tup [(.one (.ow (.one (.int .i64)))), pI]) (fun y : ((List Int) × Int) => (y.1, y.2, ())) (fun x => place_Places x.1)
theorem cp44_ok : PureOK E cp44 := conO eok cp43_ok ce3_ok fun x => Eq.mp (by kernel_rfl) (place_Places_is x.1)
end
noncomputable abbrev C47 := codeOf E.P 8
noncomputable abbrev P47 {α : Type} := @preK α E 8 cp44 ce3
def law17_shown_r3_q {β : Type} (K : (List Node) → β) : β := (K [((8 : Int), [(0 : Int)], (0 : Int), (0 : Int), (0 : Int), (0 : Int), (1 : Int), (0 : Int), (0 : Int), (0 : Int), (0 : Int), (0 : Int), [], []), ((8 : Int), [(1 : Int)], (0 : Int), (0 : Int), (0 : Int), (0 : Int), (1 : Int), (0 : Int), (0 : Int), (0 : Int), (0 : Int), (0 : Int), [], [])])
def law17_shown_r3_p : (List Node) := law17_shown_r3_q (fun y => y)
theorem law17_shown_r3_n {β : Type} (K : (List Node) → β) : law17_shown_r3_q K = K (law17_shown_r3_p) := rfl
abbrev S47_0 : St := ⟨[(3, rF 2)], [[], [], [dl tsI4 [((1 : Int), (2 : Int), (2 : Int), (0 : Int))], dl tsNode law17_shown_r3_p, dl (.one (.int .i64)) [(2 : Int)]]], [], 48⟩
theorem law17_shown_r3 {α : Type} (k : St → Option α) : P47 4 C47 ⟨[], [], [], 48⟩ k = k S47_0 := Eq.trans (by kernel_rfl) (law17_shown_r3_n (fun y1 : (List Node) => k ⟨[(3, rF 2)], [[], [], [dl tsI4 [((1 : Int), (2 : Int), (2 : Int), (0 : Int))], dl tsNode y1, dl (.one (.int .i64)) [(2 : Int)]]], [], 48⟩))
abbrev S47_1 (y688 : ((List Int) × Int)) : St := ⟨[(4, .one (.ow (.one (.int .i64)) y688.1 (.v 4))), (5, ri y688.2)], [[], [], []], [], 48⟩
theorem law17_shown_r4 {α : Type} (k : St → Option α) : P47 1 C47.r.r.r.r S47_0 k = Option.bind (place_Places ([((1 : Int), (2 : Int), (2 : Int), (0 : Int))], law17_shown_r3_p, [(2 : Int)])) fun y688 : ((List Int) × Int) => k (S47_1 y688) := by kernel_rfl
def law17_shown_r5_p (y688 : ((List Int) × Int)) : Option Bool := (bif (y688.2 == 0) then (bif ((y688.1.length : Int) == 3) then (bif (decide ((0 : Int) < (y688.1.length : Int))) then (bif ((gt y688.1 (0 : Int) (0 : Int)) == 0) then (bif (decide ((1 : Int) < (y688.1.length : Int))) then (bif ((gt y688.1 (1 : Int) (0 : Int)) == 4) then (bif (decide ((2 : Int) < (y688.1.length : Int))) then (some ((gt y688.1 (2 : Int) (0 : Int)) == 0)) else none) else (some false)) else none) else (some false)) else none) else (some false)) else (some false))
theorem law17_shown_r5 {α : Type} (y688 : ((List Int) × Int)) (k : St → Option α) : P47 1 C47.r.r.r.r.r (S47_1 y688) k = Option.bind (law17_shown_r5_p y688) (fun y689 : Bool => k ⟨[(0, rb y689)], [[], [], []], [], 48⟩) := .trans (by kernel_rfl) (bif_b (bif_b (bif_b (bif_b (bif_b (bif_b (bif_b some_b none_b) some_b) none_b) some_b) none_b) some_b) some_b)
/-- quilt/quiltlaw17.shown -/
def law17_shown : Option Bool := (Option.bind (place_Places ([((1 : Int), (2 : Int), (2 : Int), (0 : Int))], law17_shown_r3_p, [(2 : Int)])) (fun y688 : ((List Int) × Int) => (Option.bind (law17_shown_r5_p y688) (fun y689 : Bool => (some y689)))))
theorem law17_shown_is : stepS E cp44 ce3 8 [] = Option.bind (law17_shown) (fun y : Bool => some (rb y : R)) := by
  refine .trans ?_ (bind_b fun y688 => (bind_b fun y689 => some_b))
  refine (stepG_is (nt := 48) (regs := [])).trans ?_
  refine (pre (n := 4) (c' := C47.r.r.r.r) (by kernel_rfl) (by kernel_rfl) (law17_shown_r3 _)).trans ?_
  refine (pre1 (law17_shown_r4 _)).trans (bind_g fun y688 => ?_)
  refine (pre1 (law17_shown_r5 y688 _)).trans (bind_g fun y689 => ?_)
  refine (ret_eq).trans ?_
  kernel_rfl
noncomputable def cp45 : CallP := withC cp44 8 [] (.one pB) (fun y : Bool => y) (fun x => law17_shown)
theorem cp45_ok : PureOK E cp45 := conS eok cp44_ok ce3_ok fun x => Eq.mp (by kernel_rfl) (law17_shown_is)
section
variable {α β : Type} (g_ : Graph) (y692 : (List I4)) (y694 : (List Int)) (s765 : ((List Node) × Int)) (y780 : (List Int)) (y783 : (List Int)) (y786 : (List Int)) (y787 : (List Node)) (y788 : ((List Node) × Int)) (k : St → Option α) (q : Kont α)
noncomputable abbrev C48 := codeOf E.P 9
noncomputable abbrev P48 := @preK α E 9 cp45 ce3
noncomputable abbrev R48 := @runCode α E 9 cp45 ce3
noncomputable abbrev Q48 := @seqC α E 9 cp45 ce3
abbrev S48_0 : St := ⟨[(1, rF 0), (2, rF 1)], [(tsGraph.leaves g_), [dl tsI4 [], dl tsNode [], dl (.one (.int .i64)) []]], [], 70⟩
theorem law17_less_f1 : P48 1 C48 ⟨[(0, rA tsGraph g_)], [], [], 70⟩ k = k (S48_0 g_) := by kernel_rfl
theorem law17_less_f1000002 : P48 1 C48.r.l (S48_0 g_) k = k ⟨[(1, rF 0), (2, rF 1), (9, rb (decide ((g_.1.length : Int) > 6)))], [(tsGraph.leaves g_), [dl tsI4 [], dl tsNode [], dl (.one (.int .i64)) []]], [], 70⟩ := by kernel_rfl
def law17_less_r2_p : Option Unit := (bif (decide ((6 : Int) ≤ (g_.1.length : Int))) then (some ()) else none)
abbrev S48_1 : St := ⟨[(1, rF 0), (2, rF 1)], [[dl tsI4 ((g_.1.take (Int.toNat (6 : Int))).drop (Int.toNat (0 : Int))), dl tsNode g_.2.1, dl (.one (.int .i64)) g_.2.2], [dl tsI4 [], dl tsNode [], dl (.one (.int .i64)) []]], [], 70⟩
theorem law17_less_r2 : R48 C48.r.l.r.t (S48_0 g_) q = Option.bind (law17_less_r2_p g_) (fun y691 : Unit => q .normal (S48_1 g_)) := .trans (by kernel_rfl) (bif_b some_b none_b)
def law17_less_j1_p : Option (List I4) := (bif (decide ((g_.1.length : Int) > 6)) then (Option.bind (law17_less_r2_p g_) (fun y691 : Unit => (some ((g_.1.take (Int.toNat (6 : Int))).drop (Int.toNat (0 : Int)))))) else (some g_.1))
abbrev S48_2 : St := ⟨[(1, rF 0), (2, rF 1)], [[dl tsI4 y692, dl tsNode g_.2.1, dl (.one (.int .i64)) g_.2.2], [dl tsI4 [], dl tsNode [], dl (.one (.int .i64)) []]], [], 70⟩
theorem law17_less_j1 : R48 C48.r.l (S48_0 g_) (Q48 C48.r.r q) = Option.bind (law17_less_j1_p g_) (fun y692 : (List I4) => R48 C48.r.r (S48_2 g_ y692) q) := by
  refine .trans ?_ (bif_b (bind_b fun y691 => some_b) some_b)
  refine (pre1 (law17_less_f1000002 g_ _)).trans ?_
  refine (cond_e (b := (decide ((g_.1.length : Int) > 6))) (st' := (S48_0 g_)) ).trans (bif_g ?_ ?_)
  · refine (law17_less_r2 g_ _).trans (bind_g fun y691 => ?_)
    refine (seqC_normal (st' := (S48_1 g_))).trans ?_
    kernel_rfl
  · refine (skip_eq).trans ?_
    refine (seqC_normal (st' := (S48_0 g_))).trans ?_
    kernel_rfl
theorem law17_less_f1000004 : P48 1 C48.r.r.l (S48_2 g_ y692) k = k ⟨[(1, rF 0), (2, rF 1), (17, rb (decide ((g_.2.2.length : Int) > 6)))], [[dl tsI4 y692, dl tsNode g_.2.1, dl (.one (.int .i64)) g_.2.2], [dl tsI4 [], dl tsNode [], dl (.one (.int .i64)) []]], [], 70⟩ := by kernel_rfl
def law17_less_r4_p : Option Unit := (bif (decide ((6 : Int) ≤ (g_.2.2.length : Int))) then (some ()) else none)
abbrev S48_3 : St := ⟨[(1, rF 0), (2, rF 1)], [[dl tsI4 y692, dl tsNode g_.2.1, dl (.one (.int .i64)) ((g_.2.2.take (Int.toNat (6 : Int))).drop (Int.toNat (0 : Int)))], [dl tsI4 [], dl tsNode [], dl (.one (.int .i64)) []]], [], 70⟩
theorem law17_less_r4 : R48 C48.r.r.l.r.t (S48_2 g_ y692) q = Option.bind (law17_less_r4_p g_) (fun y693 : Unit => q .normal (S48_3 g_ y692)) := .trans (by kernel_rfl) (bif_b some_b none_b)
def law17_less_j3_p : Option (List Int) := (bif (decide ((g_.2.2.length : Int) > 6)) then (Option.bind (law17_less_r4_p g_) (fun y693 : Unit => (some ((g_.2.2.take (Int.toNat (6 : Int))).drop (Int.toNat (0 : Int)))))) else (some g_.2.2))
abbrev S48_4 : St := ⟨[(1, rF 0), (2, rF 1)], [[dl tsI4 y692, dl tsNode g_.2.1, dl (.one (.int .i64)) y694], [dl tsI4 [], dl tsNode [], dl (.one (.int .i64)) []]], [], 70⟩
theorem law17_less_j3 : R48 C48.r.r.l (S48_2 g_ y692) (Q48 C48.r.r.r q) = Option.bind (law17_less_j3_p g_) (fun y694 : (List Int) => R48 C48.r.r.r (S48_4 g_ y692 y694) q) := by
  refine .trans ?_ (bif_b (bind_b fun y693 => some_b) some_b)
  refine (pre1 (law17_less_f1000004 g_ y692 _)).trans ?_
  refine (cond_e (b := (decide ((g_.2.2.length : Int) > 6))) (st' := (S48_2 g_ y692)) ).trans (bif_g ?_ ?_)
  · refine (law17_less_r4 g_ y692 _).trans (bind_g fun y693 => ?_)
    refine (seqC_normal (st' := (S48_3 g_ y692))).trans ?_
    kernel_rfl
  · refine (skip_eq).trans ?_
    refine (seqC_normal (st' := (S48_2 g_ y692))).trans ?_
    kernel_rfl
abbrev S48_5 : St := ⟨[(1, rF 0), (2, rF 1), (3, .one (.ow tsNode [] (.v 3)))], [[dl tsI4 y692, dl tsNode g_.2.1, dl (.one (.int .i64)) y694], [dl tsI4 [], dl tsNode [], dl (.one (.int .i64)) []]], [], 70⟩
theorem law17_less_f6 : P48 1 C48.r.r.r (S48_4 g_ y692 y694) k = k (S48_5 g_ y692 y694) := by kernel_rfl
abbrev S48_6 : St := ⟨[(1, rF 0), (2, rF 1), (3, .one (.ow tsNode [] (.v 3))), (4, ri 0)], [[dl tsI4 y692, dl tsNode g_.2.1, dl (.one (.int .i64)) y694], [dl tsI4 [], dl tsNode [], dl (.one (.int .i64)) []]], [], 70⟩
theorem law17_less_f7 : P48 1 C48.r.r.r.r.l (S48_5 g_ y692 y694) k = k (S48_6 g_ y692 y694) := by kernel_rfl
def law17_less_r7_q (K : Bool → β) : β := (bif (decide (s765.2 < (g_.2.1.length : Int))) then (K (decide (s765.2 < 14))) else (K false))
def law17_less_r7_p : Bool := law17_less_r7_q g_ s765 (fun y => y)
theorem law17_less_r7_n (K : Bool → β) : law17_less_r7_q g_ s765 K = K (law17_less_r7_p g_ s765) := (bif_k K rfl rfl)
abbrev S48_7 : St := ⟨[(1, rF 0), (2, rF 1), (3, rO tsNode s765.1 3), (4, ri s765.2)], [[dl tsI4 y692, dl tsNode g_.2.1, dl (.one (.int .i64)) y694], [dl tsI4 [], dl tsNode [], dl (.one (.int .i64)) []]], [], 70⟩
theorem law17_less_r7 : P48 1 C48.r.r.r.r.l.r.b.b.l (S48_7 g_ y692 y694 s765) k = k ⟨[(1, rF 0), (2, rF 1), (3, rO tsNode s765.1 3), (4, ri s765.2), (31, rb (law17_less_r7_p g_ s765))], [[dl tsI4 y692, dl tsNode g_.2.1, dl (.one (.int .i64)) y694], [dl tsI4 [], dl tsNode [], dl (.one (.int .i64)) []]], [], 70⟩ := Eq.trans (by kernel_rfl) (law17_less_r7_n g_ s765 (fun y767 : Bool => k ⟨[(1, rF 0), (2, rF 1), (3, rO tsNode s765.1 3), (4, ri s765.2), (31, rb y767)], [[dl tsI4 y692, dl tsNode g_.2.1, dl (.one (.int .i64)) y694], [dl tsI4 [], dl tsNode [], dl (.one (.int .i64)) []]], [], 70⟩))
def law17_less_r9_p : Option Unit := (bif (decide ((0 : Int) ≤ s765.2)) then (bif (decide (s765.2 < (g_.2.1.length : Int))) then (some ()) else none) else none)
abbrev S48_8 : St := ⟨[(1, rF 0), (2, rF 1), (3, rO tsNode s765.1 3), (4, ri s765.2), (5, rF 2)], [[dl tsI4 y692, dl tsNode g_.2.1, dl (.one (.int .i64)) y694], [dl tsI4 [], dl tsNode [], dl (.one (.int .i64)) []], (tsNode.leaves (gt g_.2.1 s765.2 dNode))], [], 70⟩
theorem law17_less_r9 : P48 1 C48.r.r.r.r.l.r.b.b.r.l.b (S48_7 g_ y692 y694 s765) k = Option.bind (law17_less_r9_p g_ s765) (fun y778 : Unit => k (S48_8 g_ y692 y694 s765)) := .trans (by kernel_rfl) (bif_b (bif_b some_b none_b) none_b)
theorem law17_less_f1000011 : P48 1 C48.r.r.r.r.l.r.b.b.r.l.b.r.l (S48_8 g_ y692 y694 s765) k = k ⟨[(1, rF 0), (2, rF 1), (3, rO tsNode s765.1 3), (4, ri s765.2), (5, rF 2), (42, rb (decide ((((gt g_.2.1 s765.2 dNode).2.1).length : Int) > 20)))], [[dl tsI4 y692, dl tsNode g_.2.1, dl (.one (.int .i64)) y694], [dl tsI4 [], dl tsNode [], dl (.one (.int .i64)) []], (tsNode.leaves (gt g_.2.1 s765.2 dNode))], [], 70⟩ := by kernel_rfl
def law17_less_r11_p : Option (List Int) := (bif (decide ((20 : Int) ≤ (((gt g_.2.1 s765.2 dNode).2.1).length : Int))) then (some ((((gt g_.2.1 s765.2 dNode).2.1).take (Int.toNat (20 : Int))).drop (Int.toNat (0 : Int)))) else none)
abbrev S48_9 (y779 : (List Int)) : St := ⟨[(1, rF 0), (2, rF 1), (3, rO tsNode s765.1 3), (4, ri s765.2), (5, rF 2)], [[dl tsI4 y692, dl tsNode g_.2.1, dl (.one (.int .i64)) y694], [dl tsI4 [], dl tsNode [], dl (.one (.int .i64)) []], [di ((gt g_.2.1 s765.2 dNode).1), dl (.one (.int .i64)) y779, di ((gt g_.2.1 s765.2 dNode).2.2.1), di ((gt g_.2.1 s765.2 dNode).2.2.2.1), di ((gt g_.2.1 s765.2 dNode).2.2.2.2.1), di ((gt g_.2.1 s765.2 dNode).2.2.2.2.2.1), di ((gt g_.2.1 s765.2 dNode).2.2.2.2.2.2.1), di ((gt g_.2.1 s765.2 dNode).2.2.2.2.2.2.2.1), di ((gt g_.2.1 s765.2 dNode).2.2.2.2.2.2.2.2.1), di ((gt g_.2.1 s765.2 dNode).2.2.2.2.2.2.2.2.2.1), di ((gt g_.2.1 s765.2 dNode).2.2.2.2.2.2.2.2.2.2.1), di ((gt g_.2.1 s765.2 dNode).2.2.2.2.2.2.2.2.2.2.2.1), dl (.one (.int .i8)) ((gt g_.2.1 s765.2 dNode).2.2.2.2.2.2.2.2.2.2.2.2.1), dl (.one (.int .i32)) ((gt g_.2.1 s765.2 dNode).2.2.2.2.2.2.2.2.2.2.2.2.2)]], [], 70⟩
theorem law17_less_r11 : R48 C48.r.r.r.r.l.r.b.b.r.l.b.r.l.r.t (S48_8 g_ y692 y694 s765) q = Option.bind (law17_less_r11_p g_ s765) (fun y779 : (List Int) => q .normal (S48_9 g_ y692 y694 s765 y779)) := .trans (by kernel_rfl) (bif_b some_b none_b)
def law17_less_j10_p : Option (List Int) := (bif (decide ((((gt g_.2.1 s765.2 dNode).2.1).length : Int) > 20)) then (Option.bind (law17_less_r11_p g_ s765) (fun y779 : (List Int) => (some y779))) else (some ((gt g_.2.1 s765.2 dNode).2.1)))
abbrev S48_10 : St := ⟨[(1, rF 0), (2, rF 1), (3, rO tsNode s765.1 3), (4, ri s765.2), (5, rF 2)], [[dl tsI4 y692, dl tsNode g_.2.1, dl (.one (.int .i64)) y694], [dl tsI4 [], dl tsNode [], dl (.one (.int .i64)) []], [di ((gt g_.2.1 s765.2 dNode).1), dl (.one (.int .i64)) y780, di ((gt g_.2.1 s765.2 dNode).2.2.1), di ((gt g_.2.1 s765.2 dNode).2.2.2.1), di ((gt g_.2.1 s765.2 dNode).2.2.2.2.1), di ((gt g_.2.1 s765.2 dNode).2.2.2.2.2.1), di ((gt g_.2.1 s765.2 dNode).2.2.2.2.2.2.1), di ((gt g_.2.1 s765.2 dNode).2.2.2.2.2.2.2.1), di ((gt g_.2.1 s765.2 dNode).2.2.2.2.2.2.2.2.1), di ((gt g_.2.1 s765.2 dNode).2.2.2.2.2.2.2.2.2.1), di ((gt g_.2.1 s765.2 dNode).2.2.2.2.2.2.2.2.2.2.1), di ((gt g_.2.1 s765.2 dNode).2.2.2.2.2.2.2.2.2.2.2.1), dl (.one (.int .i8)) ((gt g_.2.1 s765.2 dNode).2.2.2.2.2.2.2.2.2.2.2.2.1), dl (.one (.int .i32)) ((gt g_.2.1 s765.2 dNode).2.2.2.2.2.2.2.2.2.2.2.2.2)]], [], 70⟩
theorem law17_less_j10 : R48 C48.r.r.r.r.l.r.b.b.r.l.b.r.l (S48_8 g_ y692 y694 s765) (Q48 C48.r.r.r.r.l.r.b.b.r.l.b.r.r q) = Option.bind (law17_less_j10_p g_ s765) (fun y780 : (List Int) => R48 C48.r.r.r.r.l.r.b.b.r.l.b.r.r (S48_10 g_ y692 y694 s765 y780) q) := by
  refine .trans ?_ (bif_b (bind_b fun y779 => some_b) some_b)
  refine (pre1 (law17_less_f1000011 g_ y692 y694 s765 _)).trans ?_
  refine (cond_e (b := (decide ((((gt g_.2.1 s765.2 dNode).2.1).length : Int) > 20))) (st' := (S48_8 g_ y692 y694 s765)) ).trans (bif_g ?_ ?_)
  · refine (law17_less_r11 g_ y692 y694 s765 _).trans (bind_g fun y779 => ?_)
    refine (seqC_normal (st' := (S48_9 g_ y692 y694 s765 y779))).trans ?_
    kernel_rfl
  · refine (skip_eq).trans ?_
    refine (seqC_normal (st' := (S48_8 g_ y692 y694 s765))).trans ?_
    kernel_rfl
def law17_less_r12_q (K : Bool → β) : β := (K (decide ((((gt g_.2.1 s765.2 dNode).2.2.2.2.2.2.2.2.2.2.2.2.1).length : Int) > 5000)))
def law17_less_r12_p : Bool := law17_less_r12_q g_ s765 (fun y => y)
theorem law17_less_r12_n (K : Bool → β) : law17_less_r12_q g_ s765 K = K (law17_less_r12_p g_ s765) := rfl
theorem law17_less_r12 : P48 1 C48.r.r.r.r.l.r.b.b.r.l.b.r.r.l (S48_10 g_ y692 y694 s765 y780) k = k ⟨[(1, rF 0), (2, rF 1), (3, rO tsNode s765.1 3), (4, ri s765.2), (5, rF 2), (50, rb (law17_less_r12_p g_ s765))], [[dl tsI4 y692, dl tsNode g_.2.1, dl (.one (.int .i64)) y694], [dl tsI4 [], dl tsNode [], dl (.one (.int .i64)) []], [di ((gt g_.2.1 s765.2 dNode).1), dl (.one (.int .i64)) y780, di ((gt g_.2.1 s765.2 dNode).2.2.1), di ((gt g_.2.1 s765.2 dNode).2.2.2.1), di ((gt g_.2.1 s765.2 dNode).2.2.2.2.1), di ((gt g_.2.1 s765.2 dNode).2.2.2.2.2.1), di ((gt g_.2.1 s765.2 dNode).2.2.2.2.2.2.1), di ((gt g_.2.1 s765.2 dNode).2.2.2.2.2.2.2.1), di ((gt g_.2.1 s765.2 dNode).2.2.2.2.2.2.2.2.1), di ((gt g_.2.1 s765.2 dNode).2.2.2.2.2.2.2.2.2.1), di ((gt g_.2.1 s765.2 dNode).2.2.2.2.2.2.2.2.2.2.1), di ((gt g_.2.1 s765.2 dNode).2.2.2.2.2.2.2.2.2.2.2.1), dl (.one (.int .i8)) ((gt g_.2.1 s765.2 dNode).2.2.2.2.2.2.2.2.2.2.2.2.1), dl (.one (.int .i32)) ((gt g_.2.1 s765.2 dNode).2.2.2.2.2.2.2.2.2.2.2.2.2)]], [], 70⟩ := Eq.trans (by kernel_rfl) (law17_less_r12_n g_ s765 (fun y781 : Bool => k ⟨[(1, rF 0), (2, rF 1), (3, rO tsNode s765.1 3), (4, ri s765.2), (5, rF 2), (50, rb y781)], [[dl tsI4 y692, dl tsNode g_.2.1, dl (.one (.int .i64)) y694], [dl tsI4 [], dl tsNode [], dl (.one (.int .i64)) []], [di ((gt g_.2.1 s765.2 dNode).1), dl (.one (.int .i64)) y780, di ((gt g_.2.1 s765.2 dNode).2.2.1), di ((gt g_.2.1 s765.2 dNode).2.2.2.1), di ((gt g_.2.1 s765.2 dNode).2.2.2.2.1), di ((gt g_.2.1 s765.2 dNode).2.2.2.2.2.1), di ((gt g_.2.1 s765.2 dNode).2.2.2.2.2.2.1), di ((gt g_.2.1 s765.2 dNode).2.2.2.2.2.2.2.1), di ((gt g_.2.1 s765.2 dNode).2.2.2.2.2.2.2.2.1), di ((gt g_.2.1 s765.2 dNode).2.2.2.2.2.2.2.2.2.1), di ((gt g_.2.1 s765.2 dNode).2.2.2.2.2.2.2.2.2.2.1), di ((gt g_.2.1 s765.2 dNode).2.2.2.2.2.2.2.2.2.2.2.1), dl (.one (.int .i8)) ((gt g_.2.1 s765.2 dNode).2.2.2.2.2.2.2.2.2.2.2.2.1), dl (.one (.int .i32)) ((gt g_.2.1 s765.2 dNode).2.2.2.2.2.2.2.2.2.2.2.2.2)]], [], 70⟩))
def law17_less_r13_p : Option (List Int) := (bif (decide ((5000 : Int) ≤ (((gt g_.2.1 s765.2 dNode).2.2.2.2.2.2.2.2.2.2.2.2.1).length : Int))) then (some ((((gt g_.2.1 s765.2 dNode).2.2.2.2.2.2.2.2.2.2.2.2.1).take (Int.toNat (5000 : Int))).drop (Int.toNat (0 : Int)))) else none)
abbrev S48_11 (y782 : (List Int)) : St := ⟨[(1, rF 0), (2, rF 1), (3, rO tsNode s765.1 3), (4, ri s765.2), (5, rF 2)], [[dl tsI4 y692, dl tsNode g_.2.1, dl (.one (.int .i64)) y694], [dl tsI4 [], dl tsNode [], dl (.one (.int .i64)) []], [di ((gt g_.2.1 s765.2 dNode).1), dl (.one (.int .i64)) y780, di ((gt g_.2.1 s765.2 dNode).2.2.1), di ((gt g_.2.1 s765.2 dNode).2.2.2.1), di ((gt g_.2.1 s765.2 dNode).2.2.2.2.1), di ((gt g_.2.1 s765.2 dNode).2.2.2.2.2.1), di ((gt g_.2.1 s765.2 dNode).2.2.2.2.2.2.1), di ((gt g_.2.1 s765.2 dNode).2.2.2.2.2.2.2.1), di ((gt g_.2.1 s765.2 dNode).2.2.2.2.2.2.2.2.1), di ((gt g_.2.1 s765.2 dNode).2.2.2.2.2.2.2.2.2.1), di ((gt g_.2.1 s765.2 dNode).2.2.2.2.2.2.2.2.2.2.1), di ((gt g_.2.1 s765.2 dNode).2.2.2.2.2.2.2.2.2.2.2.1), dl (.one (.int .i8)) y782, dl (.one (.int .i32)) ((gt g_.2.1 s765.2 dNode).2.2.2.2.2.2.2.2.2.2.2.2.2)]], [], 70⟩
theorem law17_less_r13 : R48 C48.r.r.r.r.l.r.b.b.r.l.b.r.r.l.r.t (S48_10 g_ y692 y694 s765 y780) q = Option.bind (law17_less_r13_p g_ s765) (fun y782 : (List Int) => q .normal (S48_11 g_ y692 y694 s765 y780 y782)) := .trans (by kernel_rfl) (bif_b some_b none_b)
def law17_less_j12_p : Option (List Int) := (bif (law17_less_r12_p g_ s765) then (Option.bind (law17_less_r13_p g_ s765) (fun y782 : (List Int) => (some y782))) else (some ((gt g_.2.1 s765.2 dNode).2.2.2.2.2.2.2.2.2.2.2.2.1)))
abbrev S48_12 : St := ⟨[(1, rF 0), (2, rF 1), (3, rO tsNode s765.1 3), (4, ri s765.2), (5, rF 2)], [[dl tsI4 y692, dl tsNode g_.2.1, dl (.one (.int .i64)) y694], [dl tsI4 [], dl tsNode [], dl (.one (.int .i64)) []], [di ((gt g_.2.1 s765.2 dNode).1), dl (.one (.int .i64)) y780, di ((gt g_.2.1 s765.2 dNode).2.2.1), di ((gt g_.2.1 s765.2 dNode).2.2.2.1), di ((gt g_.2.1 s765.2 dNode).2.2.2.2.1), di ((gt g_.2.1 s765.2 dNode).2.2.2.2.2.1), di ((gt g_.2.1 s765.2 dNode).2.2.2.2.2.2.1), di ((gt g_.2.1 s765.2 dNode).2.2.2.2.2.2.2.1), di ((gt g_.2.1 s765.2 dNode).2.2.2.2.2.2.2.2.1), di ((gt g_.2.1 s765.2 dNode).2.2.2.2.2.2.2.2.2.1), di ((gt g_.2.1 s765.2 dNode).2.2.2.2.2.2.2.2.2.2.1), di ((gt g_.2.1 s765.2 dNode).2.2.2.2.2.2.2.2.2.2.2.1), dl (.one (.int .i8)) y783, dl (.one (.int .i32)) ((gt g_.2.1 s765.2 dNode).2.2.2.2.2.2.2.2.2.2.2.2.2)]], [], 70⟩
theorem law17_less_j12 : R48 C48.r.r.r.r.l.r.b.b.r.l.b.r.r.l (S48_10 g_ y692 y694 s765 y780) (Q48 C48.r.r.r.r.l.r.b.b.r.l.b.r.r.r q) = Option.bind (law17_less_j12_p g_ s765) (fun y783 : (List Int) => R48 C48.r.r.r.r.l.r.b.b.r.l.b.r.r.r (S48_12 g_ y692 y694 s765 y780 y783) q) := by
  refine .trans ?_ (bif_b (bind_b fun y782 => some_b) some_b)
  refine (pre1 (law17_less_r12 g_ y692 y694 s765 y780 _)).trans ?_
  refine (cond_e (b := (law17_less_r12_p g_ s765)) (st' := (S48_10 g_ y692 y694 s765 y780)) ).trans (bif_g ?_ ?_)
  · refine (law17_less_r13 g_ y692 y694 s765 y780 _).trans (bind_g fun y782 => ?_)
    refine (seqC_normal (st' := (S48_11 g_ y692 y694 s765 y780 y782))).trans ?_
    kernel_rfl
  · refine (skip_eq).trans ?_
    refine (seqC_normal (st' := (S48_10 g_ y692 y694 s765 y780))).trans ?_
    kernel_rfl
def law17_less_r14_q (K : Bool → β) : β := (K (decide ((((gt g_.2.1 s765.2 dNode).2.2.2.2.2.2.2.2.2.2.2.2.2).length : Int) > 20)))
def law17_less_r14_p : Bool := law17_less_r14_q g_ s765 (fun y => y)
theorem law17_less_r14_n (K : Bool → β) : law17_less_r14_q g_ s765 K = K (law17_less_r14_p g_ s765) := rfl
theorem law17_less_r14 : P48 1 C48.r.r.r.r.l.r.b.b.r.l.b.r.r.r.l (S48_12 g_ y692 y694 s765 y780 y783) k = k ⟨[(1, rF 0), (2, rF 1), (3, rO tsNode s765.1 3), (4, ri s765.2), (5, rF 2), (58, rb (law17_less_r14_p g_ s765))], [[dl tsI4 y692, dl tsNode g_.2.1, dl (.one (.int .i64)) y694], [dl tsI4 [], dl tsNode [], dl (.one (.int .i64)) []], [di ((gt g_.2.1 s765.2 dNode).1), dl (.one (.int .i64)) y780, di ((gt g_.2.1 s765.2 dNode).2.2.1), di ((gt g_.2.1 s765.2 dNode).2.2.2.1), di ((gt g_.2.1 s765.2 dNode).2.2.2.2.1), di ((gt g_.2.1 s765.2 dNode).2.2.2.2.2.1), di ((gt g_.2.1 s765.2 dNode).2.2.2.2.2.2.1), di ((gt g_.2.1 s765.2 dNode).2.2.2.2.2.2.2.1), di ((gt g_.2.1 s765.2 dNode).2.2.2.2.2.2.2.2.1), di ((gt g_.2.1 s765.2 dNode).2.2.2.2.2.2.2.2.2.1), di ((gt g_.2.1 s765.2 dNode).2.2.2.2.2.2.2.2.2.2.1), di ((gt g_.2.1 s765.2 dNode).2.2.2.2.2.2.2.2.2.2.2.1), dl (.one (.int .i8)) y783, dl (.one (.int .i32)) ((gt g_.2.1 s765.2 dNode).2.2.2.2.2.2.2.2.2.2.2.2.2)]], [], 70⟩ := Eq.trans (by kernel_rfl) (law17_less_r14_n g_ s765 (fun y784 : Bool => k ⟨[(1, rF 0), (2, rF 1), (3, rO tsNode s765.1 3), (4, ri s765.2), (5, rF 2), (58, rb y784)], [[dl tsI4 y692, dl tsNode g_.2.1, dl (.one (.int .i64)) y694], [dl tsI4 [], dl tsNode [], dl (.one (.int .i64)) []], [di ((gt g_.2.1 s765.2 dNode).1), dl (.one (.int .i64)) y780, di ((gt g_.2.1 s765.2 dNode).2.2.1), di ((gt g_.2.1 s765.2 dNode).2.2.2.1), di ((gt g_.2.1 s765.2 dNode).2.2.2.2.1), di ((gt g_.2.1 s765.2 dNode).2.2.2.2.2.1), di ((gt g_.2.1 s765.2 dNode).2.2.2.2.2.2.1), di ((gt g_.2.1 s765.2 dNode).2.2.2.2.2.2.2.1), di ((gt g_.2.1 s765.2 dNode).2.2.2.2.2.2.2.2.1), di ((gt g_.2.1 s765.2 dNode).2.2.2.2.2.2.2.2.2.1), di ((gt g_.2.1 s765.2 dNode).2.2.2.2.2.2.2.2.2.2.1), di ((gt g_.2.1 s765.2 dNode).2.2.2.2.2.2.2.2.2.2.2.1), dl (.one (.int .i8)) y783, dl (.one (.int .i32)) ((gt g_.2.1 s765.2 dNode).2.2.2.2.2.2.2.2.2.2.2.2.2)]], [], 70⟩))
def law17_less_r15_p : Option (List Int) := (bif (decide ((20 : Int) ≤ (((gt g_.2.1 s765.2 dNode).2.2.2.2.2.2.2.2.2.2.2.2.2).length : Int))) then (some ((((gt g_.2.1 s765.2 dNode).2.2.2.2.2.2.2.2.2.2.2.2.2).take (Int.toNat (20 : Int))).drop (Int.toNat (0 : Int)))) else none)
abbrev S48_13 (y785 : (List Int)) : St := ⟨[(1, rF 0), (2, rF 1), (3, rO tsNode s765.1 3), (4, ri s765.2), (5, rF 2)], [[dl tsI4 y692, dl tsNode g_.2.1, dl (.one (.int .i64)) y694], [dl tsI4 [], dl tsNode [], dl (.one (.int .i64)) []], [di ((gt g_.2.1 s765.2 dNode).1), dl (.one (.int .i64)) y780, di ((gt g_.2.1 s765.2 dNode).2.2.1), di ((gt g_.2.1 s765.2 dNode).2.2.2.1), di ((gt g_.2.1 s765.2 dNode).2.2.2.2.1), di ((gt g_.2.1 s765.2 dNode).2.2.2.2.2.1), di ((gt g_.2.1 s765.2 dNode).2.2.2.2.2.2.1), di ((gt g_.2.1 s765.2 dNode).2.2.2.2.2.2.2.1), di ((gt g_.2.1 s765.2 dNode).2.2.2.2.2.2.2.2.1), di ((gt g_.2.1 s765.2 dNode).2.2.2.2.2.2.2.2.2.1), di ((gt g_.2.1 s765.2 dNode).2.2.2.2.2.2.2.2.2.2.1), di ((gt g_.2.1 s765.2 dNode).2.2.2.2.2.2.2.2.2.2.2.1), dl (.one (.int .i8)) y783, dl (.one (.int .i32)) y785]], [], 70⟩
theorem law17_less_r15 : R48 C48.r.r.r.r.l.r.b.b.r.l.b.r.r.r.l.r.t (S48_12 g_ y692 y694 s765 y780 y783) q = Option.bind (law17_less_r15_p g_ s765) (fun y785 : (List Int) => q .normal (S48_13 g_ y692 y694 s765 y780 y783 y785)) := .trans (by kernel_rfl) (bif_b some_b none_b)
def law17_less_j14_p : Option (List Int) := (bif (law17_less_r14_p g_ s765) then (Option.bind (law17_less_r15_p g_ s765) (fun y785 : (List Int) => (some y785))) else (some ((gt g_.2.1 s765.2 dNode).2.2.2.2.2.2.2.2.2.2.2.2.2)))
abbrev S48_14 : St := ⟨[(1, rF 0), (2, rF 1), (3, rO tsNode s765.1 3), (4, ri s765.2), (5, rF 2)], [[dl tsI4 y692, dl tsNode g_.2.1, dl (.one (.int .i64)) y694], [dl tsI4 [], dl tsNode [], dl (.one (.int .i64)) []], [di ((gt g_.2.1 s765.2 dNode).1), dl (.one (.int .i64)) y780, di ((gt g_.2.1 s765.2 dNode).2.2.1), di ((gt g_.2.1 s765.2 dNode).2.2.2.1), di ((gt g_.2.1 s765.2 dNode).2.2.2.2.1), di ((gt g_.2.1 s765.2 dNode).2.2.2.2.2.1), di ((gt g_.2.1 s765.2 dNode).2.2.2.2.2.2.1), di ((gt g_.2.1 s765.2 dNode).2.2.2.2.2.2.2.1), di ((gt g_.2.1 s765.2 dNode).2.2.2.2.2.2.2.2.1), di ((gt g_.2.1 s765.2 dNode).2.2.2.2.2.2.2.2.2.1), di ((gt g_.2.1 s765.2 dNode).2.2.2.2.2.2.2.2.2.2.1), di ((gt g_.2.1 s765.2 dNode).2.2.2.2.2.2.2.2.2.2.2.1), dl (.one (.int .i8)) y783, dl (.one (.int .i32)) y786]], [], 70⟩
theorem law17_less_j14 : R48 C48.r.r.r.r.l.r.b.b.r.l.b.r.r.r.l (S48_12 g_ y692 y694 s765 y780 y783) (Q48 C48.r.r.r.r.l.r.b.b.r.l.b.r.r.r.r q) = Option.bind (law17_less_j14_p g_ s765) (fun y786 : (List Int) => R48 C48.r.r.r.r.l.r.b.b.r.l.b.r.r.r.r (S48_14 g_ y692 y694 s765 y780 y783 y786) q) := by
  refine .trans ?_ (bif_b (bind_b fun y785 => some_b) some_b)
  refine (pre1 (law17_less_r14 g_ y692 y694 s765 y780 y783 _)).trans ?_
  refine (cond_e (b := (law17_less_r14_p g_ s765)) (st' := (S48_12 g_ y692 y694 s765 y780 y783)) ).trans (bif_g ?_ ?_)
  · refine (law17_less_r15 g_ y692 y694 s765 y780 y783 _).trans (bind_g fun y785 => ?_)
    refine (seqC_normal (st' := (S48_13 g_ y692 y694 s765 y780 y783 y785))).trans ?_
    kernel_rfl
  · refine (skip_eq).trans ?_
    refine (seqC_normal (st' := (S48_12 g_ y692 y694 s765 y780 y783))).trans ?_
    kernel_rfl
def law17_less_r16_p : Option (List Node) := (bif (decide (s765.1.length + ([((gt g_.2.1 s765.2 dNode).1, y780, (gt g_.2.1 s765.2 dNode).2.2.1, (gt g_.2.1 s765.2 dNode).2.2.2.1, (gt g_.2.1 s765.2 dNode).2.2.2.2.1, (gt g_.2.1 s765.2 dNode).2.2.2.2.2.1, (gt g_.2.1 s765.2 dNode).2.2.2.2.2.2.1, (gt g_.2.1 s765.2 dNode).2.2.2.2.2.2.2.1, (gt g_.2.1 s765.2 dNode).2.2.2.2.2.2.2.2.1, (gt g_.2.1 s765.2 dNode).2.2.2.2.2.2.2.2.2.1, (gt g_.2.1 s765.2 dNode).2.2.2.2.2.2.2.2.2.2.1, (gt g_.2.1 s765.2 dNode).2.2.2.2.2.2.2.2.2.2.2.1, y783, y786)] : List Node).length ≤ maxL)) then (some (s765.1 ++ [((gt g_.2.1 s765.2 dNode).1, y780, (gt g_.2.1 s765.2 dNode).2.2.1, (gt g_.2.1 s765.2 dNode).2.2.2.1, (gt g_.2.1 s765.2 dNode).2.2.2.2.1, (gt g_.2.1 s765.2 dNode).2.2.2.2.2.1, (gt g_.2.1 s765.2 dNode).2.2.2.2.2.2.1, (gt g_.2.1 s765.2 dNode).2.2.2.2.2.2.2.1, (gt g_.2.1 s765.2 dNode).2.2.2.2.2.2.2.2.1, (gt g_.2.1 s765.2 dNode).2.2.2.2.2.2.2.2.2.1, (gt g_.2.1 s765.2 dNode).2.2.2.2.2.2.2.2.2.2.1, (gt g_.2.1 s765.2 dNode).2.2.2.2.2.2.2.2.2.2.2.1, y783, y786)])) else none)
abbrev S48_15 : St := ⟨[(1, rF 0), (2, rF 1), (3, rO tsNode y787 3), (4, ri s765.2)], [[dl tsI4 y692, dl tsNode g_.2.1, dl (.one (.int .i64)) y694], [dl tsI4 [], dl tsNode [], dl (.one (.int .i64)) []], []], [], 70⟩
theorem law17_less_r16 : R48 C48.r.r.r.r.l.r.b.b.r.l.b.r.r.r.r (S48_14 g_ y692 y694 s765 y780 y783 y786) q = Option.bind (law17_less_r16_p g_ s765 y780 y783 y786) (fun y787 : (List Node) => q .normal (S48_15 g_ y692 y694 s765 y787)) := .trans (by kernel_rfl) (bif_b some_b none_b)
theorem law17_less_r8 : R48 C48.r.r.r.r.l.r.b.b.r.r (S48_15 g_ y692 y694 s765 y787) q = q .normal ⟨[(1, rF 0), (2, rF 1), (3, rO tsNode y787 3), (4, ri (IntKind.wrap .i64 (s765.2 + 1)))], [[dl tsI4 y692, dl tsNode g_.2.1, dl (.one (.int .i64)) y694], [dl tsI4 [], dl tsNode [], dl (.one (.int .i64)) []], []], [], 70⟩ := by kernel_rfl
def law17_less_l7_p : Option (((List Node) × Int) ⊕ ((List Node) × Int)) := (bif (law17_less_r7_p g_ s765) then (Option.bind (law17_less_r9_p g_ s765) (fun y778 : Unit => (Option.bind (law17_less_j10_p g_ s765) (fun y780 : (List Int) => (Option.bind (law17_less_j12_p g_ s765) (fun y783 : (List Int) => (Option.bind (law17_less_j14_p g_ s765) (fun y786 : (List Int) => (Option.bind (law17_less_r16_p g_ s765 y780 y783 y786) (fun y787 : (List Node) => (some (Sum.inl (y787, (IntKind.wrap .i64 (s765.2 + 1))))))))))))))) else (some (Sum.inr s765)))
abbrev S48_16 : St := ⟨[(1, rF 0), (2, rF 1), (3, rO tsNode y788.1 3), (4, ri y788.2)], [[dl tsI4 y692, dl tsNode g_.2.1, dl (.one (.int .i64)) y694], [dl tsI4 [], dl tsNode [], dl (.one (.int .i64)) []]], [], 70⟩
theorem law17_less_l7_b : R48 C48.r.r.r.r.l.r.b.b (S48_7 g_ y692 y694 s765) (loopKont 2 q) = Option.bind (law17_less_l7_p g_ s765) (either (fun y : ((List Node) × Int) => q .normal ⟨[(1, rF 0), (2, rF 1), (3, rO tsNode y.1 3), (4, ri y.2)], [[dl tsI4 y692, dl tsNode g_.2.1, dl (.one (.int .i64)) y694], [dl tsI4 [], dl tsNode [], dl (.one (.int .i64)) []]], [], 70⟩) (fun y788 : ((List Node) × Int) => q (.exit 0) (S48_16 g_ y692 y694 y788))) := by
  refine .trans ?_ (bif_b (bind_b fun y778 => (bind_b fun y780 => (bind_b fun y783 => (bind_b fun y786 => (bind_b fun y787 => e2_0))))) e2_1)
  refine .trans seq_push ?_
  refine (pre1 (law17_less_r7 g_ y692 y694 s765 _)).trans ?_
  refine (cond_e (b := (law17_less_r7_p g_ s765)) (st' := (S48_7 g_ y692 y694 s765)) ).trans (bif_g ?_ ?_)
  · refine (skip_eq).trans ?_
    refine (seqC_normal (st' := (S48_7 g_ y692 y694 s765))).trans ?_
    refine .trans seq_push ?_
    refine (block_push (id := 1)).trans ?_
    refine (pre1 (law17_less_r9 g_ y692 y694 s765 _)).trans (bind_g fun y778 => ?_)
    refine .trans seq_push ?_
    refine (law17_less_j10 g_ y692 y694 s765 _).trans (bind_g fun y780 => ?_)
    refine .trans seq_push ?_
    refine (law17_less_j12 g_ y692 y694 s765 y780 _).trans (bind_g fun y783 => ?_)
    refine .trans seq_push ?_
    refine (law17_less_j14 g_ y692 y694 s765 y780 y783 _).trans (bind_g fun y786 => ?_)
    refine (law17_less_r16 g_ y692 y694 s765 y780 y783 y786 _).trans (bind_g fun y787 => ?_)
    refine block_normal.trans ?_
    refine (seqC_normal (st' := (S48_15 g_ y692 y694 s765 y787))).trans ?_
    refine (law17_less_r8 g_ y692 y694 s765 y787 _).trans ?_
    kernel_rfl
  · refine ((exit_eq (j := 0))).trans ?_
    refine seqC_exit.trans ?_
    kernel_rfl
theorem law17_less_l7 : R48 C48.r.r.r.r.l.r.b (S48_6 g_ y692 y694) q = Option.bind (iterN (law17_less_l7_p g_) LL ([], (0 : Int))) (fun y788 : ((List Node) × Int) => q (.exit 0) (S48_16 g_ y692 y694 y788)) :=
  Eq.trans (by kernel_rfl) (loop_iter1 (S := fun s765 : ((List Node) × Int) => (S48_7 g_ y692 y694 s765)) (Y1 := fun y788 : ((List Node) × Int) => ((.exit 0), (S48_16 g_ y692 y694 y788))) (fun s q => law17_less_l7_b g_ y692 y694 s q) (fun z => rfl) LL ([], (0 : Int)))
abbrev S48_17 : St := ⟨[(1, rF 0), (2, rF 1), (3, rO tsNode y788.1 3)], [[dl tsI4 y692, dl tsNode g_.2.1, dl (.one (.int .i64)) y694], [dl tsI4 [], dl tsNode [], dl (.one (.int .i64)) []]], [], 70⟩
theorem law17_less_fz : P48 2 C48.r.r.r.r.r (S48_17 g_ y692 y694 y788) k = k ⟨[(2, rF 1)], [[], [dl tsI4 y692, dl tsNode y788.1, dl (.one (.int .i64)) y694]], [], 70⟩ := by kernel_rfl
/-- quilt/quiltlaw17.less -/
def law17_less : Option Graph := (Option.bind (law17_less_j1_p g_) (fun y692 : (List I4) => (Option.bind (law17_less_j3_p g_) (fun y694 : (List Int) => (Option.bind (iterN (law17_less_l7_p g_) LL ([], (0 : Int))) (fun y788 : ((List Node) × Int) => (some (y692, y788.1, y694))))))))
theorem law17_less_is : stepS E cp45 ce3 9 [rA tsGraph g_] = Option.bind (law17_less g_) (fun y : Graph => some (rA tsGraph y : R)) := by
  refine .trans ?_ (bind_b fun y692 => (bind_b fun y694 => (bind_b fun y788 => some_b)))
  refine (stepG_is (nt := 70) (regs := [(0, rA tsGraph g_)])).trans ?_
  refine (pre1 (law17_less_f1 g_ _)).trans ?_
  refine .trans seq_push ?_
  refine (law17_less_j1 g_ _).trans (bind_g fun y692 => ?_)
  refine .trans seq_push ?_
  refine (law17_less_j3 g_ y692 _).trans (bind_g fun y694 => ?_)
  refine (pre1 (law17_less_f6 g_ y692 y694 _)).trans ?_
  refine .trans seq_push ?_
  refine (pre1 (law17_less_f7 g_ y692 y694 _)).trans ?_
  refine (block_push (id := 0)).trans ?_
  refine (law17_less_l7 g_ y692 y694 _).trans (bind_g fun y788 => ?_)
  refine block_same.trans ?_
  refine (seqC_normal (st' := (S48_17 g_ y692 y694 y788))).trans ?_
  refine (pre2 (law17_less_fz g_ y692 y694 y788 _)).trans ?_
  refine (ret_eq).trans ?_
  kernel_rfl
noncomputable def cp46 : CallP := withC cp45 9 [(.agg tsGraph)] (.one (.agg tsGraph)) (fun y : Graph => y) (fun x => law17_less x.1)
theorem cp46_ok : PureOK E cp46 := conS eok cp45_ok ce3_ok fun x => Eq.mp (by kernel_rfl) (law17_less_is x.1)
end
noncomputable abbrev C49 := codeOf E.P 21
noncomputable abbrev P49 {α : Type} := @preK α E 21 cp46 ce3
theorem ref02_May_f1 {α : Type} (s_ : I3) (k : St → Option α) : P49 1 C49 ⟨[(0, rA tsI3 s_)], [], [], 31⟩ k = k ⟨[(1, rC tsI3 s_)], [], [], 31⟩ := by kernel_rfl
def ref02_May_r1_q {β : Type} (s_ : I3) (K : Bool → β) : β := (bif (decide (s_.1 < 1)) then (K true) else (bif (decide (s_.1 > 16)) then (K true) else (bif (decide (s_.2.1 < 1)) then (K true) else (bif (decide (s_.2.1 > 16)) then (K true) else (bif (decide (s_.2.2 < 1)) then (K true) else (K (decide (s_.2.2 > 8))))))))
def ref02_May_r1_p (s_ : I3) : Bool := ref02_May_r1_q s_ (fun y => y)
theorem ref02_May_r1_n {β : Type} (s_ : I3) (K : Bool → β) : ref02_May_r1_q s_ K = K (ref02_May_r1_p s_) := (bif_k K rfl (bif_k K rfl (bif_k K rfl (bif_k K rfl (bif_k K rfl rfl)))))
theorem ref02_May_r1 {α : Type} (s_ : I3) (k : St → Option α) : P49 1 C49.r.l ⟨[(1, rC tsI3 s_)], [], [], 31⟩ k = k ⟨[(30, rb (ref02_May_r1_p s_))], [], [], 31⟩ := Eq.trans (by kernel_rfl) (ref02_May_r1_n s_ (fun y797 : Bool => k ⟨[(30, rb y797)], [], [], 31⟩))
theorem ref02_May_fz {α : Type} (k : St → Option α) : P49 1 C49.r.l.r.t ⟨[], [], [], 31⟩ k = k ⟨[(2, ri 10)], [], [], 31⟩ := by kernel_rfl
theorem ref02_May_fzx1 {α : Type} (k : St → Option α) : P49 1 C49.r.r ⟨[], [], [], 31⟩ k = k ⟨[(2, ri 0)], [], [], 31⟩ := by kernel_rfl
/-- quilt/quiltref02.May -/
def ref02_May_q {β : Type} (s_ : I3) (K : Int → β) : β := (bif (ref02_May_r1_p s_) then (K (10 : Int)) else (K (0 : Int)))
def ref02_May (s_ : I3) : Int := ref02_May_q s_ (fun y => y)
theorem ref02_May_n {β : Type} (s_ : I3) (K : Int → β) : ref02_May_q s_ K = K (ref02_May s_) := (bif_k K rfl rfl)
theorem ref02_May_is (s_ : I3) : stepS E cp46 ce3 21 [rA tsI3 s_] = (fun y : Int => some (ri y : R)) (ref02_May s_) := by
  refine Eq.trans ?_ (ref02_May_n s_ (fun y : Int => some (ri y : R)))
  refine (stepG_is (nt := 31) (regs := [(0, rA tsI3 s_)])).trans ?_
  unfold ref02_May_q
  refine (pre1 (ref02_May_f1 s_ _)).trans ?_
  refine .trans seq_push ?_
  refine (pre1 (ref02_May_r1 s_ _)).trans ?_
  refine (cond_e (b := (ref02_May_r1_p s_)) (st' := ⟨[], [], [], 31⟩) ).trans (bif_g ?_ ?_)
  · refine (pre1 (ref02_May_fz _)).trans ?_
    refine (ret_eq).trans ?_
    refine seqC_ret.trans ?_
    kernel_rfl
  · refine (skip_eq).trans ?_
    refine (seqC_normal (st' := ⟨[], [], [], 31⟩)).trans ?_
    refine (pre1 (ref02_May_fzx1 _)).trans ?_
    refine (ret_eq).trans ?_
    kernel_rfl
noncomputable def cp47 : CallP := withC cp46 21 [(.agg tsI3)] (.one pI) (fun y : Int => y) (fun x => some (ref02_May x.1))
theorem cp47_ok : PureOK E cp47 := conS eok cp46_ok ce3_ok fun x => Eq.mp (by kernel_rfl) (ref02_May_is x.1)
section
variable {α β : Type} (x_ : Int) (low : Int) (high : Int) (k : St → Option α)
noncomputable abbrev C50 := codeOf E.P 27
noncomputable abbrev P50 := @preK α E 27 cp47 ce3
def ref03_in_r1_q (K : Bool → β) : β := (bif (decide (x_ ≥ low)) then (K (decide (x_ ≤ high))) else (K false))
def ref03_in_r1_p : Bool := ref03_in_r1_q x_ low high (fun y => y)
theorem ref03_in_r1_n (K : Bool → β) : ref03_in_r1_q x_ low high K = K (ref03_in_r1_p x_ low high) := (bif_k K rfl rfl)
theorem ref03_in_r1 : P50 2 C50 ⟨[(0, ri x_), (1, ri low), (2, ri high)], [], [], 15⟩ k = k ⟨[(6, rb (ref03_in_r1_p x_ low high))], [], [], 15⟩ := Eq.trans (by kernel_rfl) (ref03_in_r1_n x_ low high (fun y800 : Bool => k ⟨[(6, rb y800)], [], [], 15⟩))
/-- quilt/quiltref03.in -/
def ref03_in_q (K : Bool → β) : β := (K (ref03_in_r1_p x_ low high))
def ref03_in : Bool := ref03_in_q x_ low high (fun y => y)
theorem ref03_in_n (K : Bool → β) : ref03_in_q x_ low high K = K (ref03_in x_ low high) := rfl
theorem ref03_in_is : stepS E cp47 ce3 27 [ri x_, ri low, ri high] = (fun y : Bool => some (rb y : R)) (ref03_in x_ low high) := by
  refine Eq.trans ?_ (ref03_in_n x_ low high (fun y : Bool => some (rb y : R)))
  refine (stepG_is (nt := 15) (regs := [(0, ri x_), (1, ri low), (2, ri high)])).trans ?_
  unfold ref03_in_q
  refine (pre2 (ref03_in_r1 x_ low high _)).trans ?_
  refine (ret_eq).trans ?_
  kernel_rfl
noncomputable def cp48 : CallP := withC cp47 27 [pI, pI, pI] (.one pB) (fun y : Bool => y) (fun x => some (ref03_in x.1 x.2.1 x.2.2.1))
theorem cp48_ok : PureOK E cp48 := conS eok cp47_ok ce3_ok fun x => Eq.mp (by kernel_rfl) (ref03_in_is x.1 x.2.1 x.2.2.1)
end
noncomputable abbrev C51 := codeOf E.P 43
noncomputable abbrev P51 {α : Type} := @preK α E 43 cp48 ce3
def ref03_Two_r1_q {β : Type} (op : Int) (K : Bool → β) : β := (bif (op == 6) then (K true) else (bif (op == 7) then (K true) else (K (op == 10))))
def ref03_Two_r1_p (op : Int) : Bool := ref03_Two_r1_q op (fun y => y)
theorem ref03_Two_r1_n {β : Type} (op : Int) (K : Bool → β) : ref03_Two_r1_q op K = K (ref03_Two_r1_p op) := (bif_k K rfl (bif_k K rfl rfl))
theorem ref03_Two_r1 {α : Type} (op : Int) (k : St → Option α) : P51 2 C51 ⟨[(0, ri op)], [], [], 13⟩ k = k ⟨[(2, rb (ref03_Two_r1_p op))], [], [], 13⟩ := Eq.trans (by kernel_rfl) (ref03_Two_r1_n op (fun y880 : Bool => k ⟨[(2, rb y880)], [], [], 13⟩))
/-- quilt/quiltref03.Two -/
def ref03_Two_q {β : Type} (op : Int) (K : Bool → β) : β := (K (ref03_Two_r1_p op))
def ref03_Two (op : Int) : Bool := ref03_Two_q op (fun y => y)
theorem ref03_Two_n {β : Type} (op : Int) (K : Bool → β) : ref03_Two_q op K = K (ref03_Two op) := rfl
theorem ref03_Two_is (op : Int) : stepS E cp48 ce3 43 [ri op] = (fun y : Bool => some (rb y : R)) (ref03_Two op) := by
  refine Eq.trans ?_ (ref03_Two_n op (fun y : Bool => some (rb y : R)))
  refine (stepG_is (nt := 13) (regs := [(0, ri op)])).trans ?_
  unfold ref03_Two_q
  refine (pre2 (ref03_Two_r1 op _)).trans ?_
  refine (ret_eq).trans ?_
  kernel_rfl
noncomputable def cp49 : CallP := withC cp48 43 [pI] (.one pB) (fun y : Bool => y) (fun x => some (ref03_Two x.1))
theorem cp49_ok : PureOK E cp49 := conS eok cp48_ok ce3_ok fun x => Eq.mp (by kernel_rfl) (ref03_Two_is x.1)
noncomputable abbrev C52 := codeOf E.P 44
noncomputable abbrev P52 {α : Type} := @preK α E 44 cp49 ce3
def ref03_Window_r1_q {β : Type} (op : Int) (K : Bool → β) : β := (bif (decide (op ≥ 1)) then (bif (decide (op ≤ 5)) then (K (op != 3)) else (K false)) else (K false))
def ref03_Window_r1_p (op : Int) : Bool := ref03_Window_r1_q op (fun y => y)
theorem ref03_Window_r1_n {β : Type} (op : Int) (K : Bool → β) : ref03_Window_r1_q op K = K (ref03_Window_r1_p op) := (bif_k K (bif_k K rfl rfl) rfl)
theorem ref03_Window_r1 {α : Type} (op : Int) (k : St → Option α) : P52 2 C52 ⟨[(0, ri op)], [], [], 13⟩ k = k ⟨[(2, rb (ref03_Window_r1_p op))], [], [], 13⟩ := Eq.trans (by kernel_rfl) (ref03_Window_r1_n op (fun y883 : Bool => k ⟨[(2, rb y883)], [], [], 13⟩))
/-- quilt/quiltref03.Window -/
def ref03_Window_q {β : Type} (op : Int) (K : Bool → β) : β := (K (ref03_Window_r1_p op))
def ref03_Window (op : Int) : Bool := ref03_Window_q op (fun y => y)
theorem ref03_Window_n {β : Type} (op : Int) (K : Bool → β) : ref03_Window_q op K = K (ref03_Window op) := rfl
theorem ref03_Window_is (op : Int) : stepS E cp49 ce3 44 [ri op] = (fun y : Bool => some (rb y : R)) (ref03_Window op) := by
  refine Eq.trans ?_ (ref03_Window_n op (fun y : Bool => some (rb y : R)))
  refine (stepG_is (nt := 13) (regs := [(0, ri op)])).trans ?_
  unfold ref03_Window_q
  refine (pre2 (ref03_Window_r1 op _)).trans ?_
  refine (ret_eq).trans ?_
  kernel_rfl
noncomputable def cp50 : CallP := withC cp49 44 [pI] (.one pB) (fun y : Bool => y) (fun x => some (ref03_Window x.1))
theorem cp50_ok : PureOK E cp50 := conS eok cp49_ok ce3_ok fun x => Eq.mp (by kernel_rfl) (ref03_Window_is x.1)
section
variable {α β : Type} (n_ : Node) (many : Int) (k : St → Option α) (q : Kont α)
noncomputable abbrev C53 := codeOf E.P 35
noncomputable abbrev P53 := @preK α E 35 cp50 ce3
noncomputable abbrev R53 := @runCode α E 35 cp50 ce3
noncomputable abbrev Q53 := @seqC α E 35 cp50 ce3
abbrev S53_0 : St := ⟨[(1, ri many), (2, rC tsNode n_), (5, ri 1)], [], [], 119⟩
theorem ref03_node_f2 : P53 2 C53 ⟨[(0, rA tsNode n_), (1, ri many)], [], [], 119⟩ k = k (S53_0 n_ many) := by kernel_rfl
theorem ref03_node_f1000003 : P53 1 C53.r.r.l (S53_0 n_ many) k = k ⟨[(1, ri many), (2, rC tsNode n_), (5, ri 1), (13, rb (ref03_Two n_.1))], [], [], 119⟩ := by kernel_rfl
abbrev S53_1 : St := ⟨[(1, ri many), (2, rC tsNode n_), (5, ri 2)], [], [], 119⟩
theorem ref03_node_r3 : R53 C53.r.r.l.r.t (S53_0 n_ many) q = q .normal (S53_1 n_ many) := by kernel_rfl
def ref03_node_j2_q (K : Int → β) : β := (bif (ref03_Two n_.1) then (K (2 : Int)) else (K (1 : Int)))
def ref03_node_j2_p : Int := ref03_node_j2_q n_ (fun y => y)
theorem ref03_node_j2_n (K : Int → β) : ref03_node_j2_q n_ K = K (ref03_node_j2_p n_) := (bif_k K rfl rfl)
abbrev S53_2 : St := ⟨[(1, ri many), (2, rC tsNode n_), (5, ri (ref03_node_j2_p n_))], [], [], 119⟩
theorem ref03_node_j2 : R53 C53.r.r.l (S53_0 n_ many) (Q53 C53.r.r.r q) = R53 C53.r.r.r (S53_2 n_ many) q := by
  refine Eq.trans ?_ (ref03_node_j2_n n_ (fun y881 : Int => R53 C53.r.r.r ⟨[(1, ri many), (2, rC tsNode n_), (5, ri y881)], [], [], 119⟩ q))
  unfold ref03_node_j2_q
  refine (pre1 (ref03_node_f1000003 n_ many _)).trans ?_
  refine (cond_e (b := (ref03_Two n_.1)) (st' := (S53_0 n_ many)) ).trans (bif_g ?_ ?_)
  · refine (ref03_node_r3 n_ many _).trans ?_
    refine (seqC_normal (st' := (S53_1 n_ many))).trans ?_
    kernel_rfl
  · refine (skip_eq).trans ?_
    refine (seqC_normal (st' := (S53_0 n_ many))).trans ?_
    kernel_rfl
def ref03_node_r4_q (K : Bool → β) : β := (bif (n_.2.2.1 == 0) then (K (n_.2.2.2.1 == 0)) else (K false))
def ref03_node_r4_p : Bool := ref03_node_r4_q n_ (fun y => y)
theorem ref03_node_r4_n (K : Bool → β) : ref03_node_r4_q n_ K = K (ref03_node_r4_p n_) := (bif_k K rfl rfl)
abbrev S53_3 : St := ⟨[(1, ri many), (2, rC tsNode n_), (5, ri (ref03_node_j2_p n_)), (6, rb (ref03_node_r4_p n_))], [], [], 119⟩
theorem ref03_node_r4 : P53 1 C53.r.r.r (S53_2 n_ many) k = k (S53_3 n_ many) := Eq.trans (by kernel_rfl) (ref03_node_r4_n n_ (fun y882 : Bool => k ⟨[(1, ri many), (2, rC tsNode n_), (5, ri (ref03_node_j2_p n_)), (6, rb y882)], [], [], 119⟩))
theorem ref03_node_f1000006 : P53 1 C53.r.r.r.r.l (S53_3 n_ many) k = k ⟨[(1, ri many), (2, rC tsNode n_), (5, ri (ref03_node_j2_p n_)), (6, rb (ref03_node_r4_p n_)), (24, rb (ref03_Window n_.1))], [], [], 119⟩ := by kernel_rfl
def ref03_node_r6_q (K : Bool → β) : β := (bif (ref03_in n_.2.2.1 (1 : Int) (3 : Int)) then (K (ref03_in n_.2.2.2.1 (1 : Int) (2 : Int))) else (K false))
def ref03_node_r6_p : Bool := ref03_node_r6_q n_ (fun y => y)
theorem ref03_node_r6_n (K : Bool → β) : ref03_node_r6_q n_ K = K (ref03_node_r6_p n_) := (bif_k K rfl rfl)
abbrev S53_4 : St := ⟨[(1, ri many), (2, rC tsNode n_), (5, ri (ref03_node_j2_p n_)), (6, rb (ref03_node_r6_p n_))], [], [], 119⟩
theorem ref03_node_r6 : R53 C53.r.r.r.r.l.r.t (S53_3 n_ many) q = q .normal (S53_4 n_ many) := Eq.trans (by kernel_rfl) (ref03_node_r6_n n_ (fun y884 : Bool => q .normal ⟨[(1, ri many), (2, rC tsNode n_), (5, ri (ref03_node_j2_p n_)), (6, rb y884)], [], [], 119⟩))
def ref03_node_j5_q (K : Bool → β) : β := (bif (ref03_Window n_.1) then (K (ref03_node_r6_p n_)) else (K (ref03_node_r4_p n_)))
def ref03_node_j5_p : Bool := ref03_node_j5_q n_ (fun y => y)
theorem ref03_node_j5_n (K : Bool → β) : ref03_node_j5_q n_ K = K (ref03_node_j5_p n_) := (bif_k K rfl rfl)
abbrev S53_5 : St := ⟨[(1, ri many), (2, rC tsNode n_), (5, ri (ref03_node_j2_p n_)), (6, rb (ref03_node_j5_p n_))], [], [], 119⟩
theorem ref03_node_j5 : R53 C53.r.r.r.r.l (S53_3 n_ many) (Q53 C53.r.r.r.r.r q) = R53 C53.r.r.r.r.r (S53_5 n_ many) q := by
  refine Eq.trans ?_ (ref03_node_j5_n n_ (fun y885 : Bool => R53 C53.r.r.r.r.r ⟨[(1, ri many), (2, rC tsNode n_), (5, ri (ref03_node_j2_p n_)), (6, rb y885)], [], [], 119⟩ q))
  unfold ref03_node_j5_q
  refine (pre1 (ref03_node_f1000006 n_ many _)).trans ?_
  refine (cond_e (b := (ref03_Window n_.1)) (st' := (S53_3 n_ many)) ).trans (bif_g ?_ ?_)
  · refine (ref03_node_r6 n_ many _).trans ?_
    refine (seqC_normal (st' := (S53_4 n_ many))).trans ?_
    kernel_rfl
  · refine (skip_eq).trans ?_
    refine (seqC_normal (st' := (S53_3 n_ many))).trans ?_
    kernel_rfl
abbrev S53_6 : St := ⟨[(1, ri many), (2, rC tsNode n_), (5, ri (ref03_node_j2_p n_)), (6, rb (ref03_node_j5_p n_)), (7, rb (n_.2.2.2.2.1 == 0))], [], [], 119⟩
theorem ref03_node_f8 : P53 1 C53.r.r.r.r.r (S53_5 n_ many) k = k (S53_6 n_ many) := by kernel_rfl
def ref03_node_r8_q (K : Bool → β) : β := (bif (n_.1 == 1) then (K true) else (K (n_.1 == 2)))
def ref03_node_r8_p : Bool := ref03_node_r8_q n_ (fun y => y)
theorem ref03_node_r8_n (K : Bool → β) : ref03_node_r8_q n_ K = K (ref03_node_r8_p n_) := (bif_k K rfl rfl)
theorem ref03_node_r8 : P53 1 C53.r.r.r.r.r.r.l (S53_6 n_ many) k = k ⟨[(1, ri many), (2, rC tsNode n_), (5, ri (ref03_node_j2_p n_)), (6, rb (ref03_node_j5_p n_)), (7, rb (n_.2.2.2.2.1 == 0)), (43, rb (ref03_node_r8_p n_))], [], [], 119⟩ := Eq.trans (by kernel_rfl) (ref03_node_r8_n n_ (fun y886 : Bool => k ⟨[(1, ri many), (2, rC tsNode n_), (5, ri (ref03_node_j2_p n_)), (6, rb (ref03_node_j5_p n_)), (7, rb (n_.2.2.2.2.1 == 0)), (43, rb y886)], [], [], 119⟩))
def ref03_node_r9_q (K : Bool → β) : β := (bif (ref03_in n_.2.2.2.2.1 (0 : Int) (1 : Int)) then (K (decide (n_.2.2.2.2.1 < n_.2.2.1))) else (K false))
def ref03_node_r9_p : Bool := ref03_node_r9_q n_ (fun y => y)
theorem ref03_node_r9_n (K : Bool → β) : ref03_node_r9_q n_ K = K (ref03_node_r9_p n_) := (bif_k K rfl rfl)
abbrev S53_7 : St := ⟨[(1, ri many), (2, rC tsNode n_), (5, ri (ref03_node_j2_p n_)), (6, rb (ref03_node_j5_p n_)), (7, rb (ref03_node_r9_p n_))], [], [], 119⟩
theorem ref03_node_r9 : R53 C53.r.r.r.r.r.r.l.r.t (S53_6 n_ many) q = q .normal (S53_7 n_ many) := Eq.trans (by kernel_rfl) (ref03_node_r9_n n_ (fun y887 : Bool => q .normal ⟨[(1, ri many), (2, rC tsNode n_), (5, ri (ref03_node_j2_p n_)), (6, rb (ref03_node_j5_p n_)), (7, rb y887)], [], [], 119⟩))
def ref03_node_j8_q (K : Bool → β) : β := (bif (ref03_node_r8_p n_) then (K (ref03_node_r9_p n_)) else (K (n_.2.2.2.2.1 == 0)))
def ref03_node_j8_p : Bool := ref03_node_j8_q n_ (fun y => y)
theorem ref03_node_j8_n (K : Bool → β) : ref03_node_j8_q n_ K = K (ref03_node_j8_p n_) := (bif_k K rfl rfl)
abbrev S53_8 : St := ⟨[(1, ri many), (2, rC tsNode n_), (5, ri (ref03_node_j2_p n_)), (6, rb (ref03_node_j5_p n_)), (7, rb (ref03_node_j8_p n_))], [], [], 119⟩
theorem ref03_node_j8 : R53 C53.r.r.r.r.r.r.l (S53_6 n_ many) (Q53 C53.r.r.r.r.r.r.r q) = R53 C53.r.r.r.r.r.r.r (S53_8 n_ many) q := by
  refine Eq.trans ?_ (ref03_node_j8_n n_ (fun y888 : Bool => R53 C53.r.r.r.r.r.r.r ⟨[(1, ri many), (2, rC tsNode n_), (5, ri (ref03_node_j2_p n_)), (6, rb (ref03_node_j5_p n_)), (7, rb y888)], [], [], 119⟩ q))
  unfold ref03_node_j8_q
  refine (pre1 (ref03_node_r8 n_ many _)).trans ?_
  refine (cond_e (b := (ref03_node_r8_p n_)) (st' := (S53_6 n_ many)) ).trans (bif_g ?_ ?_)
  · refine (ref03_node_r9 n_ many _).trans ?_
    refine (seqC_normal (st' := (S53_7 n_ many))).trans ?_
    kernel_rfl
  · refine (skip_eq).trans ?_
    refine (seqC_normal (st' := (S53_6 n_ many))).trans ?_
    kernel_rfl
theorem ref03_node_f1000011 : P53 1 C53.r.r.r.r.r.r.r.l (S53_8 n_ many) k = k ⟨[(1, ri many), (2, rC tsNode n_), (5, ri (ref03_node_j2_p n_)), (6, rb (ref03_node_j5_p n_)), (7, rb (ref03_node_j8_p n_)), (56, rb (n_.1 == 9))], [], [], 119⟩ := by kernel_rfl
abbrev S53_9 : St := ⟨[(1, ri many), (2, rC tsNode n_), (5, ri (ref03_node_j2_p n_)), (6, rb (ref03_node_j5_p n_)), (7, rb (n_.2.2.2.2.1 == 1))], [], [], 119⟩
theorem ref03_node_r11 : R53 C53.r.r.r.r.r.r.r.l.r.t (S53_8 n_ many) q = q .normal (S53_9 n_ many) := by kernel_rfl
def ref03_node_j10_q (K : Bool → β) : β := (bif (n_.1 == 9) then (K (n_.2.2.2.2.1 == 1)) else (K (ref03_node_j8_p n_)))
def ref03_node_j10_p : Bool := ref03_node_j10_q n_ (fun y => y)
theorem ref03_node_j10_n (K : Bool → β) : ref03_node_j10_q n_ K = K (ref03_node_j10_p n_) := (bif_k K rfl rfl)
abbrev S53_10 : St := ⟨[(1, ri many), (2, rC tsNode n_), (5, ri (ref03_node_j2_p n_)), (6, rb (ref03_node_j5_p n_)), (7, rb (ref03_node_j10_p n_))], [], [], 119⟩
theorem ref03_node_j10 : R53 C53.r.r.r.r.r.r.r.l (S53_8 n_ many) (Q53 C53.r.r.r.r.r.r.r.r q) = R53 C53.r.r.r.r.r.r.r.r (S53_10 n_ many) q := by
  refine Eq.trans ?_ (ref03_node_j10_n n_ (fun y889 : Bool => R53 C53.r.r.r.r.r.r.r.r ⟨[(1, ri many), (2, rC tsNode n_), (5, ri (ref03_node_j2_p n_)), (6, rb (ref03_node_j5_p n_)), (7, rb y889)], [], [], 119⟩ q))
  unfold ref03_node_j10_q
  refine (pre1 (ref03_node_f1000011 n_ many _)).trans ?_
  refine (cond_e (b := (n_.1 == 9)) (st' := (S53_8 n_ many)) ).trans (bif_g ?_ ?_)
  · refine (ref03_node_r11 n_ many _).trans ?_
    refine (seqC_normal (st' := (S53_9 n_ many))).trans ?_
    kernel_rfl
  · refine (skip_eq).trans ?_
    refine (seqC_normal (st' := (S53_8 n_ many))).trans ?_
    kernel_rfl
abbrev S53_11 : St := ⟨[(1, ri many), (2, rC tsNode n_), (5, ri (ref03_node_j2_p n_)), (6, rb (ref03_node_j5_p n_)), (7, rb (ref03_node_j10_p n_)), (8, rb (n_.2.2.2.2.2.1 == 0))], [], [], 119⟩
theorem ref03_node_f13 : P53 1 C53.r.r.r.r.r.r.r.r (S53_10 n_ many) k = k (S53_11 n_ many) := by kernel_rfl
def ref03_node_r13_q (K : Bool → β) : β := (bif (n_.1 == 1) then (K true) else (K (n_.1 == 3)))
def ref03_node_r13_p : Bool := ref03_node_r13_q n_ (fun y => y)
theorem ref03_node_r13_n (K : Bool → β) : ref03_node_r13_q n_ K = K (ref03_node_r13_p n_) := (bif_k K rfl rfl)
theorem ref03_node_r13 : P53 1 C53.r.r.r.r.r.r.r.r.r.l (S53_11 n_ many) k = k ⟨[(1, ri many), (2, rC tsNode n_), (5, ri (ref03_node_j2_p n_)), (6, rb (ref03_node_j5_p n_)), (7, rb (ref03_node_j10_p n_)), (8, rb (n_.2.2.2.2.2.1 == 0)), (70, rb (ref03_node_r13_p n_))], [], [], 119⟩ := Eq.trans (by kernel_rfl) (ref03_node_r13_n n_ (fun y890 : Bool => k ⟨[(1, ri many), (2, rC tsNode n_), (5, ri (ref03_node_j2_p n_)), (6, rb (ref03_node_j5_p n_)), (7, rb (ref03_node_j10_p n_)), (8, rb (n_.2.2.2.2.2.1 == 0)), (70, rb y890)], [], [], 119⟩))
abbrev S53_12 : St := ⟨[(1, ri many), (2, rC tsNode n_), (5, ri (ref03_node_j2_p n_)), (6, rb (ref03_node_j5_p n_)), (7, rb (ref03_node_j10_p n_)), (8, rb (ref03_in n_.2.2.2.2.2.1 (1 : Int) (8 : Int)))], [], [], 119⟩
theorem ref03_node_r14 : R53 C53.r.r.r.r.r.r.r.r.r.l.r.t (S53_11 n_ many) q = q .normal (S53_12 n_ many) := by kernel_rfl
def ref03_node_j13_q (K : Bool → β) : β := (bif (ref03_node_r13_p n_) then (K (ref03_in n_.2.2.2.2.2.1 (1 : Int) (8 : Int))) else (K (n_.2.2.2.2.2.1 == 0)))
def ref03_node_j13_p : Bool := ref03_node_j13_q n_ (fun y => y)
theorem ref03_node_j13_n (K : Bool → β) : ref03_node_j13_q n_ K = K (ref03_node_j13_p n_) := (bif_k K rfl rfl)
abbrev S53_13 : St := ⟨[(1, ri many), (2, rC tsNode n_), (5, ri (ref03_node_j2_p n_)), (6, rb (ref03_node_j5_p n_)), (7, rb (ref03_node_j10_p n_)), (8, rb (ref03_node_j13_p n_))], [], [], 119⟩
theorem ref03_node_j13 : R53 C53.r.r.r.r.r.r.r.r.r.l (S53_11 n_ many) (Q53 C53.r.r.r.r.r.r.r.r.r.r q) = R53 C53.r.r.r.r.r.r.r.r.r.r (S53_13 n_ many) q := by
  refine Eq.trans ?_ (ref03_node_j13_n n_ (fun y891 : Bool => R53 C53.r.r.r.r.r.r.r.r.r.r ⟨[(1, ri many), (2, rC tsNode n_), (5, ri (ref03_node_j2_p n_)), (6, rb (ref03_node_j5_p n_)), (7, rb (ref03_node_j10_p n_)), (8, rb y891)], [], [], 119⟩ q))
  unfold ref03_node_j13_q
  refine (pre1 (ref03_node_r13 n_ many _)).trans ?_
  refine (cond_e (b := (ref03_node_r13_p n_)) (st' := (S53_11 n_ many)) ).trans (bif_g ?_ ?_)
  · refine (ref03_node_r14 n_ many _).trans ?_
    refine (seqC_normal (st' := (S53_12 n_ many))).trans ?_
    kernel_rfl
  · refine (skip_eq).trans ?_
    refine (seqC_normal (st' := (S53_11 n_ many))).trans ?_
    kernel_rfl
def ref03_node_r15_q (K : Bool → β) : β := (bif ((n_.2.2.2.2.2.2.2.2.2.1 == 0) && ((n_.2.2.2.2.2.2.2.2.2.2.1 == 0) && ((n_.2.2.2.2.2.2.2.2.2.2.2.1 == 0) && true))) then (K true) else (K (n_.1 == 11)))
def ref03_node_r15_p : Bool := ref03_node_r15_q n_ (fun y => y)
theorem ref03_node_r15_n (K : Bool → β) : ref03_node_r15_q n_ K = K (ref03_node_r15_p n_) := (bif_k K rfl rfl)
abbrev S53_14 : St := ⟨[(1, ri many), (2, rC tsNode n_), (5, ri (ref03_node_j2_p n_)), (6, rb (ref03_node_j5_p n_)), (7, rb (ref03_node_j10_p n_)), (8, rb (ref03_node_j13_p n_)), (9, rb (ref03_node_r15_p n_))], [], [], 119⟩
theorem ref03_node_r15 : P53 1 C53.r.r.r.r.r.r.r.r.r.r (S53_13 n_ many) k = k (S53_14 n_ many) := Eq.trans (by kernel_rfl) (ref03_node_r15_n n_ (fun y892 : Bool => k ⟨[(1, ri many), (2, rC tsNode n_), (5, ri (ref03_node_j2_p n_)), (6, rb (ref03_node_j5_p n_)), (7, rb (ref03_node_j10_p n_)), (8, rb (ref03_node_j13_p n_)), (9, rb y892)], [], [], 119⟩))
def ref03_node_r16_q (K : Bool → β) : β := (bif (ref03_in n_.2.2.2.2.2.2.1 (1 : Int) (32767 : Int)) then (bif (ref03_in n_.2.2.2.2.2.2.2.1 (0 : Int) (31 : Int)) then (K (ref03_in n_.2.2.2.2.2.2.2.2.1 (-128 : Int) (127 : Int))) else (K false)) else (K false))
def ref03_node_r16_p : Bool := ref03_node_r16_q n_ (fun y => y)
theorem ref03_node_r16_n (K : Bool → β) : ref03_node_r16_q n_ K = K (ref03_node_r16_p n_) := (bif_k K (bif_k K rfl rfl) rfl)
abbrev S53_15 : St := ⟨[(1, ri many), (2, rC tsNode n_), (5, ri (ref03_node_j2_p n_)), (6, rb (ref03_node_j5_p n_)), (7, rb (ref03_node_j10_p n_)), (8, rb (ref03_node_j13_p n_)), (9, rb (ref03_node_r15_p n_)), (10, rb (ref03_node_r16_p n_))], [], [], 119⟩
theorem ref03_node_r16 : P53 1 C53.r.r.r.r.r.r.r.r.r.r.r (S53_14 n_ many) k = k (S53_15 n_ many) := Eq.trans (by kernel_rfl) (ref03_node_r16_n n_ (fun y893 : Bool => k ⟨[(1, ri many), (2, rC tsNode n_), (5, ri (ref03_node_j2_p n_)), (6, rb (ref03_node_j5_p n_)), (7, rb (ref03_node_j10_p n_)), (8, rb (ref03_node_j13_p n_)), (9, rb (ref03_node_r15_p n_)), (10, rb y893)], [], [], 119⟩))
def ref03_node_r17_q (K : Bool → β) : β := (bif (ref03_in n_.1 (1 : Int) (12 : Int)) then (bif (many == (ref03_node_j2_p n_)) then (bif (ref03_node_j5_p n_) then (bif (ref03_node_j10_p n_) then (bif (ref03_node_j13_p n_) then (bif (ref03_node_r15_p n_) then (K (ref03_node_r16_p n_)) else (K false)) else (K false)) else (K false)) else (K false)) else (K false)) else (K false))
def ref03_node_r17_p : Bool := ref03_node_r17_q n_ many (fun y => y)
theorem ref03_node_r17_n (K : Bool → β) : ref03_node_r17_q n_ many K = K (ref03_node_r17_p n_ many) := (bif_k K (bif_k K (bif_k K (bif_k K (bif_k K (bif_k K rfl rfl) rfl) rfl) rfl) rfl) rfl)
theorem ref03_node_r17 : P53 1 C53.r.r.r.r.r.r.r.r.r.r.r.r (S53_15 n_ many) k = k ⟨[(4, rb (ref03_node_r17_p n_ many))], [], [], 119⟩ := Eq.trans (by kernel_rfl) (ref03_node_r17_n n_ many (fun y894 : Bool => k ⟨[(4, rb y894)], [], [], 119⟩))
/-- quilt/quiltref03.node -/
def ref03_node_q (K : Bool → β) : β := (K (ref03_node_r17_p n_ many))
def ref03_node : Bool := ref03_node_q n_ many (fun y => y)
theorem ref03_node_n (K : Bool → β) : ref03_node_q n_ many K = K (ref03_node n_ many) := rfl
theorem ref03_node_is : stepS E cp50 ce3 35 [rA tsNode n_, ri many] = (fun y : Bool => some (rb y : R)) (ref03_node n_ many) := by
  refine Eq.trans ?_ (ref03_node_n n_ many (fun y : Bool => some (rb y : R)))
  refine (stepG_is (nt := 119) (regs := [(0, rA tsNode n_), (1, ri many)])).trans ?_
  unfold ref03_node_q
  refine (pre2 (ref03_node_f2 n_ many _)).trans ?_
  refine .trans seq_push ?_
  refine (ref03_node_j2 n_ many _).trans ?_
  refine (pre1 (ref03_node_r4 n_ many _)).trans ?_
  refine .trans seq_push ?_
  refine (ref03_node_j5 n_ many _).trans ?_
  refine (pre1 (ref03_node_f8 n_ many _)).trans ?_
  refine .trans seq_push ?_
  refine (ref03_node_j8 n_ many _).trans ?_
  refine .trans seq_push ?_
  refine (ref03_node_j10 n_ many _).trans ?_
  refine (pre1 (ref03_node_f13 n_ many _)).trans ?_
  refine .trans seq_push ?_
  refine (ref03_node_j13 n_ many _).trans ?_
  refine (pre1 (ref03_node_r15 n_ many _)).trans ?_
  refine (pre1 (ref03_node_r16 n_ many _)).trans ?_
  refine (pre1 (ref03_node_r17 n_ many _)).trans ?_
  refine (ret_eq).trans ?_
  kernel_rfl
noncomputable def cp51 : CallP := withC cp50 35 [(.agg tsNode), pI] (.one pB) (fun y : Bool => y) (fun x => some (ref03_node x.1 x.2.1))
theorem cp51_ok : PureOK E cp51 := conS eok cp50_ok ce3_ok fun x => Eq.mp (by kernel_rfl) (ref03_node_is x.1 x.2.1)
end
noncomputable abbrev C54 := codeOf E.P 36
noncomputable abbrev P54 {α : Type} := @preK α E 36 cp51 ce3
def ref03_keeps_r1_q {β : Type} (op : Int) (K : Bool → β) : β := (bif (op == 4) then (K true) else (bif (op == 5) then (K true) else (bif (op == 8) then (K true) else (bif (op == 9) then (K true) else (bif (op == 10) then (K true) else (K (op == 11)))))))
def ref03_keeps_r1_p (op : Int) : Bool := ref03_keeps_r1_q op (fun y => y)
theorem ref03_keeps_r1_n {β : Type} (op : Int) (K : Bool → β) : ref03_keeps_r1_q op K = K (ref03_keeps_r1_p op) := (bif_k K rfl (bif_k K rfl (bif_k K rfl (bif_k K rfl (bif_k K rfl rfl)))))
theorem ref03_keeps_r1 {α : Type} (op : Int) (k : St → Option α) : P54 2 C54 ⟨[(0, ri op)], [], [], 25⟩ k = k ⟨[(2, rb (ref03_keeps_r1_p op))], [], [], 25⟩ := Eq.trans (by kernel_rfl) (ref03_keeps_r1_n op (fun y896 : Bool => k ⟨[(2, rb y896)], [], [], 25⟩))
/-- quilt/quiltref03.keeps -/
def ref03_keeps_q {β : Type} (op : Int) (K : Bool → β) : β := (K (ref03_keeps_r1_p op))
def ref03_keeps (op : Int) : Bool := ref03_keeps_q op (fun y => y)
theorem ref03_keeps_n {β : Type} (op : Int) (K : Bool → β) : ref03_keeps_q op K = K (ref03_keeps op) := rfl
theorem ref03_keeps_is (op : Int) : stepS E cp51 ce3 36 [ri op] = (fun y : Bool => some (rb y : R)) (ref03_keeps op) := by
  refine Eq.trans ?_ (ref03_keeps_n op (fun y : Bool => some (rb y : R)))
  refine (stepG_is (nt := 25) (regs := [(0, ri op)])).trans ?_
  unfold ref03_keeps_q
  refine (pre2 (ref03_keeps_r1 op _)).trans ?_
  refine (ret_eq).trans ?_
  kernel_rfl
noncomputable def cp52 : CallP := withC cp51 36 [pI] (.one pB) (fun y : Bool => y) (fun x => some (ref03_keeps x.1))
theorem cp52_ok : PureOK E cp52 := conS eok cp51_ok ce3_ok fun x => Eq.mp (by kernel_rfl) (ref03_keeps_is x.1)
section
variable {α β : Type} (size : Int) (k_ : Int) (stride : Int) (pad : Int) (s941 : (Int × Int)) (y942 : (Int × Int)) (k : St → Option α) (q : Kont α)
noncomputable abbrev C55 := codeOf E.P 45
noncomputable abbrev P55 := @preK α E 45 cp52 ce3
noncomputable abbrev R55 := @runCode α E 45 cp52 ce3
abbrev S55_0 : St := ⟨[(0, ri size), (1, ri k_), (2, ri stride), (3, ri pad)], [], [], 56⟩
theorem ref02_Out_f1 : P55 1 C55 (S55_0 size k_ stride pad) k = k (S55_0 size k_ stride pad) := by kernel_rfl
def ref02_Out_r1_q (K : Bool → β) : β := (bif (decide (size < 1)) then (K true) else (bif (decide (size > 64)) then (K true) else (bif (decide (k_ < 1)) then (K true) else (bif (decide (k_ > 16)) then (K true) else (bif (decide (stride < 1)) then (K true) else (bif (decide (stride > 16)) then (K true) else (bif (decide (pad < 0)) then (K true) else (K (decide (pad > 16))))))))))
def ref02_Out_r1_p : Bool := ref02_Out_r1_q size k_ stride pad (fun y => y)
theorem ref02_Out_r1_n (K : Bool → β) : ref02_Out_r1_q size k_ stride pad K = K (ref02_Out_r1_p size k_ stride pad) := (bif_k K rfl (bif_k K rfl (bif_k K rfl (bif_k K rfl (bif_k K rfl (bif_k K rfl (bif_k K rfl rfl)))))))
theorem ref02_Out_r1 : P55 1 C55.r.l (S55_0 size k_ stride pad) k = k ⟨[(0, ri size), (1, ri k_), (2, ri stride), (3, ri pad), (40, rb (ref02_Out_r1_p size k_ stride pad))], [], [], 56⟩ := Eq.trans (by kernel_rfl) (ref02_Out_r1_n size k_ stride pad (fun y932 : Bool => k ⟨[(0, ri size), (1, ri k_), (2, ri stride), (3, ri pad), (40, rb y932)], [], [], 56⟩))
theorem ref02_Out_fz : P55 1 C55.r.l.r.t (S55_0 size k_ stride pad) k = k ⟨[(8, ri 0)], [], [], 56⟩ := by kernel_rfl
theorem ref02_Out_f4 : P55 1 C55.r.r (S55_0 size k_ stride pad) k = k ⟨[(0, ri size), (1, ri k_), (2, ri stride), (3, ri pad), (9, ri 0)], [], [], 56⟩ := by kernel_rfl
abbrev S55_1 : St := ⟨[(0, ri size), (1, ri k_), (2, ri stride), (3, ri pad), (9, ri 0), (10, ri (IntKind.wrap .i64 (0 - pad)))], [], [], 56⟩
theorem ref02_Out_f5 : P55 1 C55.r.r.r.l ⟨[(0, ri size), (1, ri k_), (2, ri stride), (3, ri pad), (9, ri 0)], [], [], 56⟩ k = k (S55_1 size k_ stride pad) := by kernel_rfl
abbrev S55_2 : St := ⟨[(0, ri size), (1, ri k_), (2, ri stride), (3, ri pad), (9, ri s941.1), (10, ri s941.2)], [], [], 56⟩
theorem ref02_Out_fzx1 : P55 1 C55.r.r.r.l.r.b.b.l (S55_2 size k_ stride pad s941) k = k ⟨[(0, ri size), (1, ri k_), (2, ri stride), (3, ri pad), (9, ri s941.1), (10, ri s941.2), (49, rb (decide ((IntKind.wrap .i64 (s941.2 + k_)) ≤ (IntKind.wrap .i64 (size + pad)))))], [], [], 56⟩ := by kernel_rfl
abbrev S55_3 : St := ⟨[(0, ri size), (1, ri k_), (2, ri stride), (3, ri pad), (9, ri (IntKind.wrap .i64 (s941.1 + 1))), (10, ri s941.2)], [], [], 56⟩
theorem ref02_Out_r7 : R55 C55.r.r.r.l.r.b.b.r.l.b (S55_2 size k_ stride pad s941) q = q .normal (S55_3 size k_ stride pad s941) := by kernel_rfl
theorem ref02_Out_r6 : R55 C55.r.r.r.l.r.b.b.r.r (S55_3 size k_ stride pad s941) q = q .normal ⟨[(0, ri size), (1, ri k_), (2, ri stride), (3, ri pad), (9, ri (IntKind.wrap .i64 (s941.1 + 1))), (10, ri (IntKind.wrap .i64 (s941.2 + stride)))], [], [], 56⟩ := by kernel_rfl
def ref02_Out_l5_p : Option ((Int × Int) ⊕ (Int × Int)) := (bif (decide ((IntKind.wrap .i64 (s941.2 + k_)) ≤ (IntKind.wrap .i64 (size + pad)))) then (some (Sum.inl ((IntKind.wrap .i64 (s941.1 + 1)), (IntKind.wrap .i64 (s941.2 + stride))))) else (some (Sum.inr s941)))
abbrev S55_4 : St := ⟨[(0, ri size), (1, ri k_), (2, ri stride), (3, ri pad), (9, ri y942.1), (10, ri y942.2)], [], [], 56⟩
theorem ref02_Out_l5_b : R55 C55.r.r.r.l.r.b.b (S55_2 size k_ stride pad s941) (loopKont 0 q) = Option.bind (ref02_Out_l5_p size k_ stride pad s941) (either (fun y : (Int × Int) => q .normal ⟨[(0, ri size), (1, ri k_), (2, ri stride), (3, ri pad), (9, ri y.1), (10, ri y.2)], [], [], 56⟩) (fun y942 : (Int × Int) => q (.exit 0) (S55_4 size k_ stride pad y942))) := by
  refine .trans ?_ (bif_b e2_0 e2_1)
  refine .trans seq_push ?_
  refine (pre1 (ref02_Out_fzx1 size k_ stride pad s941 _)).trans ?_
  refine (cond_e (b := (decide ((IntKind.wrap .i64 (s941.2 + k_)) ≤ (IntKind.wrap .i64 (size + pad))))) (st' := (S55_2 size k_ stride pad s941)) ).trans (bif_g ?_ ?_)
  · refine (skip_eq).trans ?_
    refine (seqC_normal (st' := (S55_2 size k_ stride pad s941))).trans ?_
    refine .trans seq_push ?_
    refine (block_push (id := 1)).trans ?_
    refine (ref02_Out_r7 size k_ stride pad s941 _).trans ?_
    refine block_normal.trans ?_
    refine (seqC_normal (st' := (S55_3 size k_ stride pad s941))).trans ?_
    refine (ref02_Out_r6 size k_ stride pad s941 _).trans ?_
    kernel_rfl
  · refine ((exit_eq (j := 0))).trans ?_
    refine seqC_exit.trans ?_
    kernel_rfl
theorem ref02_Out_l5 : R55 C55.r.r.r.l.r.b (S55_1 size k_ stride pad) q = Option.bind (iterN (ref02_Out_l5_p size k_ stride pad) LL ((0 : Int), (IntKind.wrap .i64 (0 - pad)))) (fun y942 : (Int × Int) => q (.exit 0) (S55_4 size k_ stride pad y942)) :=
  Eq.trans (by kernel_rfl) (loop_iter1 (S := fun s941 : (Int × Int) => (S55_2 size k_ stride pad s941)) (Y1 := fun y942 : (Int × Int) => ((.exit 0), (S55_4 size k_ stride pad y942))) (fun s q => ref02_Out_l5_b size k_ stride pad s q) (fun z => rfl) LL ((0 : Int), (IntKind.wrap .i64 (0 - pad))))
theorem ref02_Out_fzx2 : P55 1 C55.r.r.r.r ⟨[(9, ri y942.1)], [], [], 56⟩ k = k ⟨[(8, ri y942.1)], [], [], 56⟩ := by kernel_rfl
/-- quilt/quiltref02.Out -/
def ref02_Out : Option Int := (bif (ref02_Out_r1_p size k_ stride pad) then (some (0 : Int)) else (Option.bind (iterN (ref02_Out_l5_p size k_ stride pad) LL ((0 : Int), (IntKind.wrap .i64 (0 - pad)))) (fun y942 : (Int × Int) => (some y942.1))))
theorem ref02_Out_is : stepS E cp52 ce3 45 [ri size, ri k_, ri stride, ri pad] = Option.bind (ref02_Out size k_ stride pad) (fun y : Int => some (ri y : R)) := by
  refine .trans ?_ (bif_b some_b (bind_b fun y942 => some_b))
  refine (stepG_is (nt := 56) (regs := [(0, ri size), (1, ri k_), (2, ri stride), (3, ri pad)])).trans ?_
  refine (pre1 (ref02_Out_f1 size k_ stride pad _)).trans ?_
  refine .trans seq_push ?_
  refine (pre1 (ref02_Out_r1 size k_ stride pad _)).trans ?_
  refine (cond_e (b := (ref02_Out_r1_p size k_ stride pad)) (st' := (S55_0 size k_ stride pad)) ).trans (bif_g ?_ ?_)
  · refine (pre1 (ref02_Out_fz size k_ stride pad _)).trans ?_
    refine (ret_eq).trans ?_
    refine seqC_ret.trans ?_
    kernel_rfl
  · refine (skip_eq).trans ?_
    refine (seqC_normal (st' := (S55_0 size k_ stride pad))).trans ?_
    refine (pre1 (ref02_Out_f4 size k_ stride pad _)).trans ?_
    refine .trans seq_push ?_
    refine (pre1 (ref02_Out_f5 size k_ stride pad _)).trans ?_
    refine (block_push (id := 0)).trans ?_
    refine (ref02_Out_l5 size k_ stride pad _).trans (bind_g fun y942 => ?_)
    refine block_same.trans ?_
    refine (seqC_normal (st' := ⟨[(9, ri y942.1)], [], [], 56⟩)).trans ?_
    refine (pre1 (ref02_Out_fzx2 y942 _)).trans ?_
    refine (ret_eq).trans ?_
    kernel_rfl
noncomputable def cp53 : CallP := withC cp52 45 [pI, pI, pI, pI] (.one pI) (fun y : Int => y) (fun x => ref02_Out x.1 x.2.1 x.2.2.1 x.2.2.2.1)
theorem cp53_ok : PureOK E cp53 := conS eok cp52_ok ce3_ok fun x => Eq.mp (by kernel_rfl) (ref02_Out_is x.1 x.2.1 x.2.2.1 x.2.2.2.1)
end
noncomputable abbrev C56 := codeOf E.P 19
noncomputable abbrev P56 {α : Type} := @preK α E 19 cp53 ce3
abbrev S56_0 (s_ : I3) : St := ⟨[(1, rC tsI3 s_)], [], [], 14⟩
theorem ref02_Size_f1 {α : Type} (s_ : I3) (k : St → Option α) : P56 1 C56 ⟨[(0, rA tsI3 s_)], [], [], 14⟩ k = k (S56_0 s_) := by kernel_rfl
theorem ref02_Size_f1000002 {α : Type} (s_ : I3) (k : St → Option α) : P56 1 C56.r.l (S56_0 s_) k = k ⟨[(1, rC tsI3 s_), (5, rb ((ref02_May s_) != 0))], [], [], 14⟩ := by kernel_rfl
theorem ref02_Size_fz {α : Type} (s_ : I3) (k : St → Option α) : P56 1 C56.r.l.r.t (S56_0 s_) k = k ⟨[(2, ri 0)], [], [], 14⟩ := by kernel_rfl
theorem ref02_Size_fzx1 {α : Type} (s_ : I3) (k : St → Option α) : P56 1 C56.r.r (S56_0 s_) k = k ⟨[(2, ri (IntKind.wrap .i64 ((IntKind.wrap .i64 (s_.1 * s_.2.1)) * s_.2.2)))], [], [], 14⟩ := by kernel_rfl
/-- quilt/quiltref02.Size -/
def ref02_Size_q {β : Type} (s_ : I3) (K : Int → β) : β := (bif ((ref02_May s_) != 0) then (K (0 : Int)) else (K (IntKind.wrap .i64 ((IntKind.wrap .i64 (s_.1 * s_.2.1)) * s_.2.2))))
def ref02_Size (s_ : I3) : Int := ref02_Size_q s_ (fun y => y)
theorem ref02_Size_n {β : Type} (s_ : I3) (K : Int → β) : ref02_Size_q s_ K = K (ref02_Size s_) := (bif_k K rfl rfl)
theorem ref02_Size_is (s_ : I3) : stepS E cp53 ce3 19 [rA tsI3 s_] = (fun y : Int => some (ri y : R)) (ref02_Size s_) := by
  refine Eq.trans ?_ (ref02_Size_n s_ (fun y : Int => some (ri y : R)))
  refine (stepG_is (nt := 14) (regs := [(0, rA tsI3 s_)])).trans ?_
  unfold ref02_Size_q
  refine (pre1 (ref02_Size_f1 s_ _)).trans ?_
  refine .trans seq_push ?_
  refine (pre1 (ref02_Size_f1000002 s_ _)).trans ?_
  refine (cond_e (b := ((ref02_May s_) != 0)) (st' := (S56_0 s_)) ).trans (bif_g ?_ ?_)
  · refine (pre1 (ref02_Size_fz s_ _)).trans ?_
    refine (ret_eq).trans ?_
    refine seqC_ret.trans ?_
    kernel_rfl
  · refine (skip_eq).trans ?_
    refine (seqC_normal (st' := (S56_0 s_))).trans ?_
    refine (pre1 (ref02_Size_fzx1 s_ _)).trans ?_
    refine (ret_eq).trans ?_
    kernel_rfl
noncomputable def cp54 : CallP := withC cp53 19 [(.agg tsI3)] (.one pI) (fun y : Int => y) (fun x => some (ref02_Size x.1))
theorem cp54_ok : PureOK E cp54 := conS eok cp53_ok ce3_ok fun x => Eq.mp (by kernel_rfl) (ref02_Size_is x.1)
end Go.V.P
