/- What functions compute. -/
import Derived.Test.YtcmckbcpeocokaaGb2
namespace Go.V.P
open Go.RowKit Go.V Go.Proofs
set_option linter.unusedVariables false
set_option maxRecDepth 100000
section
variable {α β : Type} (ins : Int) (nodes : Int) (outs : Int) (y249 : Bool) (s259 : (Int × (List I4))) (y262 : (Int × (List I4))) (s273 : (Int × (List Node))) (y275 : (List Node)) (y276 : (Int × (List Node))) (s283 : (Int × (List Int))) (y286 : (Int × (List Int))) (y405 : ((List I4) × Int)) (k : St → Option α) (q : Kont α)
noncomputable abbrev C39 := codeOf E.P 7
noncomputable abbrev P39 := @preK α E 7 cp39 noE
noncomputable abbrev R39 := @runCode α E 7 cp39 noE
noncomputable abbrev Q39 := @seqC α E 7 cp39 noE
theorem law03_GraphBounds_r1 : P39 2 C39 ⟨[(0, rk .u8 ins), (1, rk .u8 nodes), (2, rk .u8 outs)], [], [], 111⟩ k = Option.bind law03_shown fun y249 : Bool => k ⟨[(0, rk .u8 ins), (1, rk .u8 nodes), (2, rk .u8 outs), (7, rb y249)], [], [], 111⟩ := by kernel_rfl
def law03_GraphBounds_r2_q (K : Int → β) : β := (K (IntKind.wrap .i64 (IntKind.wrap .u8 ((BitVec.ofInt (IntKind.bits .u8) ins &&& BitVec.ofInt (IntKind.bits .u8) (7 : Int)).toNat : Int))))
def law03_GraphBounds_r2_p : Int := law03_GraphBounds_r2_q ins (fun y => y)
theorem law03_GraphBounds_r2_n (K : Int → β) : law03_GraphBounds_r2_q ins K = K (law03_GraphBounds_r2_p ins) := rfl
abbrev S39_0 : St := ⟨[(1, rk .u8 nodes), (2, rk .u8 outs), (7, rb y249), (8, ri (law03_GraphBounds_r2_p ins))], [], [], 111⟩
theorem law03_GraphBounds_r2 : P39 1 C39.r.r ⟨[(0, rk .u8 ins), (1, rk .u8 nodes), (2, rk .u8 outs), (7, rb y249)], [], [], 111⟩ k = k (S39_0 ins nodes outs y249) := Eq.trans (by kernel_rfl) (law03_GraphBounds_r2_n ins (fun y250 : Int => k ⟨[(1, rk .u8 nodes), (2, rk .u8 outs), (7, rb y249), (8, ri y250)], [], [], 111⟩))
def law03_GraphBounds_r3_q (K : Int → β) : β := (K (IntKind.wrap .i64 (IntKind.wrap .u8 ((BitVec.ofInt (IntKind.bits .u8) nodes &&& BitVec.ofInt (IntKind.bits .u8) (15 : Int)).toNat : Int))))
def law03_GraphBounds_r3_p : Int := law03_GraphBounds_r3_q nodes (fun y => y)
theorem law03_GraphBounds_r3_n (K : Int → β) : law03_GraphBounds_r3_q nodes K = K (law03_GraphBounds_r3_p nodes) := rfl
abbrev S39_1 : St := ⟨[(2, rk .u8 outs), (7, rb y249), (8, ri (law03_GraphBounds_r2_p ins)), (9, ri (law03_GraphBounds_r3_p nodes))], [], [], 111⟩
theorem law03_GraphBounds_r3 : P39 1 C39.r.r.r (S39_0 ins nodes outs y249) k = k (S39_1 ins nodes outs y249) := Eq.trans (by kernel_rfl) (law03_GraphBounds_r3_n nodes (fun y251 : Int => k ⟨[(2, rk .u8 outs), (7, rb y249), (8, ri (law03_GraphBounds_r2_p ins)), (9, ri y251)], [], [], 111⟩))
def law03_GraphBounds_r4_q (K : Int → β) : β := (K (IntKind.wrap .i64 (IntKind.wrap .u8 ((BitVec.ofInt (IntKind.bits .u8) outs &&& BitVec.ofInt (IntKind.bits .u8) (7 : Int)).toNat : Int))))
def law03_GraphBounds_r4_p : Int := law03_GraphBounds_r4_q outs (fun y => y)
theorem law03_GraphBounds_r4_n (K : Int → β) : law03_GraphBounds_r4_q outs K = K (law03_GraphBounds_r4_p outs) := rfl
abbrev S39_2 : St := ⟨[(7, rb y249), (8, ri (law03_GraphBounds_r2_p ins)), (9, ri (law03_GraphBounds_r3_p nodes)), (10, ri (law03_GraphBounds_r4_p outs))], [], [], 111⟩
theorem law03_GraphBounds_r4 : P39 1 C39.r.r.r.r (S39_1 ins nodes outs y249) k = k (S39_2 ins nodes outs y249) := Eq.trans (by kernel_rfl) (law03_GraphBounds_r4_n outs (fun y252 : Int => k ⟨[(7, rb y249), (8, ri (law03_GraphBounds_r2_p ins)), (9, ri (law03_GraphBounds_r3_p nodes)), (10, ri y252)], [], [], 111⟩))
abbrev S39_3 : St := ⟨[(7, rb y249), (8, ri (law03_GraphBounds_r2_p ins)), (9, ri (law03_GraphBounds_r3_p nodes)), (10, ri (law03_GraphBounds_r4_p outs)), (11, rF 0)], [[.ow tsI4 [] (.h 0 0), .ow tsNode [] (.h 0 1), .ow (.one (.int .i64)) [] (.h 0 2)]], [], 111⟩
theorem law03_GraphBounds_f6 : P39 1 C39.r.r.r.r.r (S39_2 ins nodes outs y249) k = k (S39_3 ins nodes outs y249) := by kernel_rfl
abbrev S39_4 : St := ⟨[(7, rb y249), (8, ri (law03_GraphBounds_r2_p ins)), (9, ri (law03_GraphBounds_r3_p nodes)), (10, ri (law03_GraphBounds_r4_p outs)), (11, rF 0), (12, ri 0)], [[.ow tsI4 [] (.h 0 0), .ow tsNode [] (.h 0 1), .ow (.one (.int .i64)) [] (.h 0 2)]], [], 111⟩
theorem law03_GraphBounds_f7 : P39 1 C39.r.r.r.r.r.r.l (S39_3 ins nodes outs y249) k = k (S39_4 ins nodes outs y249) := by kernel_rfl
abbrev S39_5 : St := ⟨[(7, rb y249), (8, ri (law03_GraphBounds_r2_p ins)), (9, ri (law03_GraphBounds_r3_p nodes)), (10, ri (law03_GraphBounds_r4_p outs)), (11, rF 0), (12, ri s259.1)], [[.ow tsI4 s259.2 (.h 0 0), .ow tsNode [] (.h 0 1), .ow (.one (.int .i64)) [] (.h 0 2)]], [], 111⟩
theorem law03_GraphBounds_fz : P39 1 C39.r.r.r.r.r.r.l.r.b.b.l (S39_5 ins nodes outs y249 s259) k = k ⟨[(7, rb y249), (8, ri (law03_GraphBounds_r2_p ins)), (9, ri (law03_GraphBounds_r3_p nodes)), (10, ri (law03_GraphBounds_r4_p outs)), (11, rF 0), (12, ri s259.1), (31, rb (decide (s259.1 < (law03_GraphBounds_r2_p ins))))], [[.ow tsI4 s259.2 (.h 0 0), .ow tsNode [] (.h 0 1), .ow (.one (.int .i64)) [] (.h 0 2)]], [], 111⟩ := by kernel_rfl
def law03_GraphBounds_r9_p : Option Unit := (bif (decide (s259.2.length + ([((1 : Int), (1 : Int), (1 : Int), (0 : Int))] : List I4).length ≤ maxL)) then (some ()) else none)
abbrev S39_6 : St := ⟨[(7, rb y249), (8, ri (law03_GraphBounds_r2_p ins)), (9, ri (law03_GraphBounds_r3_p nodes)), (10, ri (law03_GraphBounds_r4_p outs)), (11, rF 0), (12, ri s259.1)], [[.ow tsI4 (s259.2 ++ [((1 : Int), (1 : Int), (1 : Int), (0 : Int))]) (.h 0 0), .ow tsNode [] (.h 0 1), .ow (.one (.int .i64)) [] (.h 0 2)]], [], 111⟩
theorem law03_GraphBounds_r9 : R39 C39.r.r.r.r.r.r.l.r.b.b.r.l.b (S39_5 ins nodes outs y249 s259) q = Option.bind (law03_GraphBounds_r9_p s259) (fun y261 : Unit => q .normal (S39_6 ins nodes outs y249 s259)) := .trans (by kernel_rfl) (bif_b some_b none_b)
theorem law03_GraphBounds_r8 : R39 C39.r.r.r.r.r.r.l.r.b.b.r.r (S39_6 ins nodes outs y249 s259) q = q .normal ⟨[(7, rb y249), (8, ri (law03_GraphBounds_r2_p ins)), (9, ri (law03_GraphBounds_r3_p nodes)), (10, ri (law03_GraphBounds_r4_p outs)), (11, rF 0), (12, ri (IntKind.wrap .i64 (s259.1 + 1)))], [[.ow tsI4 (s259.2 ++ [((1 : Int), (1 : Int), (1 : Int), (0 : Int))]) (.h 0 0), .ow tsNode [] (.h 0 1), .ow (.one (.int .i64)) [] (.h 0 2)]], [], 111⟩ := by kernel_rfl
def law03_GraphBounds_l7_p : Option ((Int × (List I4)) ⊕ (Int × (List I4))) := (bif (decide (s259.1 < (law03_GraphBounds_r2_p ins))) then (Option.bind (law03_GraphBounds_r9_p s259) (fun y261 : Unit => (some (Sum.inl ((IntKind.wrap .i64 (s259.1 + 1)), (s259.2 ++ [((1 : Int), (1 : Int), (1 : Int), (0 : Int))])))))) else (some (Sum.inr s259)))
abbrev S39_7 : St := ⟨[(7, rb y249), (8, ri (law03_GraphBounds_r2_p ins)), (9, ri (law03_GraphBounds_r3_p nodes)), (10, ri (law03_GraphBounds_r4_p outs)), (11, rF 0), (12, ri y262.1)], [[.ow tsI4 y262.2 (.h 0 0), .ow tsNode [] (.h 0 1), .ow (.one (.int .i64)) [] (.h 0 2)]], [], 111⟩
theorem law03_GraphBounds_l7_b : R39 C39.r.r.r.r.r.r.l.r.b.b (S39_5 ins nodes outs y249 s259) (loopKont 1 q) = Option.bind (law03_GraphBounds_l7_p ins s259) (either (fun y : (Int × (List I4)) => q .normal ⟨[(7, rb y249), (8, ri (law03_GraphBounds_r2_p ins)), (9, ri (law03_GraphBounds_r3_p nodes)), (10, ri (law03_GraphBounds_r4_p outs)), (11, rF 0), (12, ri y.1)], [[.ow tsI4 y.2 (.h 0 0), .ow tsNode [] (.h 0 1), .ow (.one (.int .i64)) [] (.h 0 2)]], [], 111⟩) (fun y262 : (Int × (List I4)) => q (.exit 0) (S39_7 ins nodes outs y249 y262))) := by
  refine .trans ?_ (bif_b (bind_b fun y261 => e2_0) e2_1)
  refine .trans seq_push ?_
  refine (pre1 (law03_GraphBounds_fz ins nodes outs y249 s259 _)).trans ?_
  refine (cond_e (b := (decide (s259.1 < (law03_GraphBounds_r2_p ins)))) (st' := (S39_5 ins nodes outs y249 s259)) ).trans (bif_g ?_ ?_)
  · refine (skip_eq).trans ?_
    refine (seqC_normal (st' := (S39_5 ins nodes outs y249 s259))).trans ?_
    refine .trans seq_push ?_
    refine (block_push (id := 1)).trans ?_
    refine (law03_GraphBounds_r9 ins nodes outs y249 s259 _).trans (bind_g fun y261 => ?_)
    refine block_normal.trans ?_
    refine (seqC_normal (st' := (S39_6 ins nodes outs y249 s259))).trans ?_
    refine (law03_GraphBounds_r8 ins nodes outs y249 s259 _).trans ?_
    kernel_rfl
  · refine ((exit_eq (j := 0))).trans ?_
    refine seqC_exit.trans ?_
    kernel_rfl
theorem law03_GraphBounds_l7 : R39 C39.r.r.r.r.r.r.l.r.b (S39_4 ins nodes outs y249) q = Option.bind (iterN (law03_GraphBounds_l7_p ins) LL ((0 : Int), [])) (fun y262 : (Int × (List I4)) => q (.exit 0) (S39_7 ins nodes outs y249 y262)) :=
  Eq.trans (by kernel_rfl) (loop_iter1 (S := fun s259 : (Int × (List I4)) => (S39_5 ins nodes outs y249 s259)) (Y1 := fun y262 : (Int × (List I4)) => ((.exit 0), (S39_7 ins nodes outs y249 y262))) (fun s q => law03_GraphBounds_l7_b ins nodes outs y249 s q) (fun z => rfl) LL ((0 : Int), []))
abbrev S39_8 : St := ⟨[(7, rb y249), (8, ri (law03_GraphBounds_r2_p ins)), (9, ri (law03_GraphBounds_r3_p nodes)), (10, ri (law03_GraphBounds_r4_p outs)), (11, rF 0)], [[.ow tsI4 y262.2 (.h 0 0), .ow tsNode [] (.h 0 1), .ow (.one (.int .i64)) [] (.h 0 2)]], [], 111⟩
abbrev S39_9 : St := ⟨[(7, rb y249), (8, ri (law03_GraphBounds_r2_p ins)), (9, ri (law03_GraphBounds_r3_p nodes)), (10, ri (law03_GraphBounds_r4_p outs)), (11, rF 0), (13, ri 0)], [[.ow tsI4 y262.2 (.h 0 0), .ow tsNode [] (.h 0 1), .ow (.one (.int .i64)) [] (.h 0 2)]], [], 111⟩
theorem law03_GraphBounds_f11 : P39 1 C39.r.r.r.r.r.r.r.l (S39_8 ins nodes outs y249 y262) k = k (S39_9 ins nodes outs y249 y262) := by kernel_rfl
abbrev S39_10 : St := ⟨[(7, rb y249), (8, ri (law03_GraphBounds_r2_p ins)), (9, ri (law03_GraphBounds_r3_p nodes)), (10, ri (law03_GraphBounds_r4_p outs)), (11, rF 0), (13, ri s273.1)], [[.ow tsI4 y262.2 (.h 0 0), .ow tsNode s273.2 (.h 0 1), .ow (.one (.int .i64)) [] (.h 0 2)]], [], 111⟩
theorem law03_GraphBounds_fzx1 : P39 1 C39.r.r.r.r.r.r.r.l.r.b.b.l (S39_10 ins nodes outs y249 y262 s273) k = k ⟨[(7, rb y249), (8, ri (law03_GraphBounds_r2_p ins)), (9, ri (law03_GraphBounds_r3_p nodes)), (10, ri (law03_GraphBounds_r4_p outs)), (11, rF 0), (13, ri s273.1), (43, rb (decide (s273.1 < (law03_GraphBounds_r3_p nodes))))], [[.ow tsI4 y262.2 (.h 0 0), .ow tsNode s273.2 (.h 0 1), .ow (.one (.int .i64)) [] (.h 0 2)]], [], 111⟩ := by kernel_rfl
def law03_GraphBounds_r13_p : Option (List Node) := (bif (decide (s273.2.length + ([((8 : Int), [(0 : Int)], (0 : Int), (0 : Int), (0 : Int), (0 : Int), (1 : Int), (0 : Int), (0 : Int), (0 : Int), (0 : Int), (0 : Int), [], [])] : List Node).length ≤ maxL)) then (some (s273.2 ++ [((8 : Int), [(0 : Int)], (0 : Int), (0 : Int), (0 : Int), (0 : Int), (1 : Int), (0 : Int), (0 : Int), (0 : Int), (0 : Int), (0 : Int), [], [])])) else none)
abbrev S39_11 : St := ⟨[(7, rb y249), (8, ri (law03_GraphBounds_r2_p ins)), (9, ri (law03_GraphBounds_r3_p nodes)), (10, ri (law03_GraphBounds_r4_p outs)), (11, rF 0), (13, ri s273.1)], [[.ow tsI4 y262.2 (.h 0 0), .ow tsNode y275 (.h 0 1), .ow (.one (.int .i64)) [] (.h 0 2)]], [], 111⟩
theorem law03_GraphBounds_r13 : R39 C39.r.r.r.r.r.r.r.l.r.b.b.r.l.b (S39_10 ins nodes outs y249 y262 s273) q = Option.bind (law03_GraphBounds_r13_p s273) (fun y275 : (List Node) => q .normal (S39_11 ins nodes outs y249 y262 s273 y275)) := .trans (by kernel_rfl) (bif_b some_b none_b)
theorem law03_GraphBounds_r12 : R39 C39.r.r.r.r.r.r.r.l.r.b.b.r.r (S39_11 ins nodes outs y249 y262 s273 y275) q = q .normal ⟨[(7, rb y249), (8, ri (law03_GraphBounds_r2_p ins)), (9, ri (law03_GraphBounds_r3_p nodes)), (10, ri (law03_GraphBounds_r4_p outs)), (11, rF 0), (13, ri (IntKind.wrap .i64 (s273.1 + 1)))], [[.ow tsI4 y262.2 (.h 0 0), .ow tsNode y275 (.h 0 1), .ow (.one (.int .i64)) [] (.h 0 2)]], [], 111⟩ := by kernel_rfl
def law03_GraphBounds_l11_p : Option ((Int × (List Node)) ⊕ (Int × (List Node))) := (bif (decide (s273.1 < (law03_GraphBounds_r3_p nodes))) then (Option.bind (law03_GraphBounds_r13_p s273) (fun y275 : (List Node) => (some (Sum.inl ((IntKind.wrap .i64 (s273.1 + 1)), y275))))) else (some (Sum.inr s273)))
abbrev S39_12 : St := ⟨[(7, rb y249), (8, ri (law03_GraphBounds_r2_p ins)), (9, ri (law03_GraphBounds_r3_p nodes)), (10, ri (law03_GraphBounds_r4_p outs)), (11, rF 0), (13, ri y276.1)], [[.ow tsI4 y262.2 (.h 0 0), .ow tsNode y276.2 (.h 0 1), .ow (.one (.int .i64)) [] (.h 0 2)]], [], 111⟩
theorem law03_GraphBounds_l11_b : R39 C39.r.r.r.r.r.r.r.l.r.b.b (S39_10 ins nodes outs y249 y262 s273) (loopKont 1 q) = Option.bind (law03_GraphBounds_l11_p nodes s273) (either (fun y : (Int × (List Node)) => q .normal ⟨[(7, rb y249), (8, ri (law03_GraphBounds_r2_p ins)), (9, ri (law03_GraphBounds_r3_p nodes)), (10, ri (law03_GraphBounds_r4_p outs)), (11, rF 0), (13, ri y.1)], [[.ow tsI4 y262.2 (.h 0 0), .ow tsNode y.2 (.h 0 1), .ow (.one (.int .i64)) [] (.h 0 2)]], [], 111⟩) (fun y276 : (Int × (List Node)) => q (.exit 2) (S39_12 ins nodes outs y249 y262 y276))) := by
  refine .trans ?_ (bif_b (bind_b fun y275 => e2_0) e2_1)
  refine .trans seq_push ?_
  refine (pre1 (law03_GraphBounds_fzx1 ins nodes outs y249 y262 s273 _)).trans ?_
  refine (cond_e (b := (decide (s273.1 < (law03_GraphBounds_r3_p nodes)))) (st' := (S39_10 ins nodes outs y249 y262 s273)) ).trans (bif_g ?_ ?_)
  · refine (skip_eq).trans ?_
    refine (seqC_normal (st' := (S39_10 ins nodes outs y249 y262 s273))).trans ?_
    refine .trans seq_push ?_
    refine (block_push (id := 3)).trans ?_
    refine (law03_GraphBounds_r13 ins nodes outs y249 y262 s273 _).trans (bind_g fun y275 => ?_)
    refine block_normal.trans ?_
    refine (seqC_normal (st' := (S39_11 ins nodes outs y249 y262 s273 y275))).trans ?_
    refine (law03_GraphBounds_r12 ins nodes outs y249 y262 s273 y275 _).trans ?_
    kernel_rfl
  · refine ((exit_eq (j := 2))).trans ?_
    refine seqC_exit.trans ?_
    kernel_rfl
theorem law03_GraphBounds_l11 : R39 C39.r.r.r.r.r.r.r.l.r.b (S39_9 ins nodes outs y249 y262) q = Option.bind (iterN (law03_GraphBounds_l11_p nodes) LL ((0 : Int), [])) (fun y276 : (Int × (List Node)) => q (.exit 2) (S39_12 ins nodes outs y249 y262 y276)) :=
  Eq.trans (by kernel_rfl) (loop_iter1 (S := fun s273 : (Int × (List Node)) => (S39_10 ins nodes outs y249 y262 s273)) (Y1 := fun y276 : (Int × (List Node)) => ((.exit 2), (S39_12 ins nodes outs y249 y262 y276))) (fun s q => law03_GraphBounds_l11_b ins nodes outs y249 y262 s q) (fun z => rfl) LL ((0 : Int), []))
abbrev S39_13 : St := ⟨[(7, rb y249), (8, ri (law03_GraphBounds_r2_p ins)), (9, ri (law03_GraphBounds_r3_p nodes)), (10, ri (law03_GraphBounds_r4_p outs)), (11, rF 0)], [[.ow tsI4 y262.2 (.h 0 0), .ow tsNode y276.2 (.h 0 1), .ow (.one (.int .i64)) [] (.h 0 2)]], [], 111⟩
abbrev S39_14 : St := ⟨[(7, rb y249), (8, ri (law03_GraphBounds_r2_p ins)), (9, ri (law03_GraphBounds_r3_p nodes)), (10, ri (law03_GraphBounds_r4_p outs)), (11, rF 0), (14, ri 0)], [[.ow tsI4 y262.2 (.h 0 0), .ow tsNode y276.2 (.h 0 1), .ow (.one (.int .i64)) [] (.h 0 2)]], [], 111⟩
theorem law03_GraphBounds_f15 : P39 1 C39.r.r.r.r.r.r.r.r.l (S39_13 ins nodes outs y249 y262 y276) k = k (S39_14 ins nodes outs y249 y262 y276) := by kernel_rfl
abbrev S39_15 : St := ⟨[(7, rb y249), (8, ri (law03_GraphBounds_r2_p ins)), (9, ri (law03_GraphBounds_r3_p nodes)), (10, ri (law03_GraphBounds_r4_p outs)), (11, rF 0), (14, ri s283.1)], [[.ow tsI4 y262.2 (.h 0 0), .ow tsNode y276.2 (.h 0 1), .ow (.one (.int .i64)) s283.2 (.h 0 2)]], [], 111⟩
theorem law03_GraphBounds_fzx2 : P39 1 C39.r.r.r.r.r.r.r.r.l.r.b.b.l (S39_15 ins nodes outs y249 y262 y276 s283) k = k ⟨[(7, rb y249), (8, ri (law03_GraphBounds_r2_p ins)), (9, ri (law03_GraphBounds_r3_p nodes)), (10, ri (law03_GraphBounds_r4_p outs)), (11, rF 0), (14, ri s283.1), (55, rb (decide (s283.1 < (law03_GraphBounds_r4_p outs))))], [[.ow tsI4 y262.2 (.h 0 0), .ow tsNode y276.2 (.h 0 1), .ow (.one (.int .i64)) s283.2 (.h 0 2)]], [], 111⟩ := by kernel_rfl
def law03_GraphBounds_r17_p : Option Unit := (bif (decide (s283.2.length + ([(0 : Int)] : List Int).length ≤ maxL)) then (some ()) else none)
abbrev S39_16 : St := ⟨[(7, rb y249), (8, ri (law03_GraphBounds_r2_p ins)), (9, ri (law03_GraphBounds_r3_p nodes)), (10, ri (law03_GraphBounds_r4_p outs)), (11, rF 0), (14, ri s283.1)], [[.ow tsI4 y262.2 (.h 0 0), .ow tsNode y276.2 (.h 0 1), .ow (.one (.int .i64)) (s283.2 ++ [(0 : Int)]) (.h 0 2)]], [], 111⟩
theorem law03_GraphBounds_r17 : R39 C39.r.r.r.r.r.r.r.r.l.r.b.b.r.l.b (S39_15 ins nodes outs y249 y262 y276 s283) q = Option.bind (law03_GraphBounds_r17_p s283) (fun y285 : Unit => q .normal (S39_16 ins nodes outs y249 y262 y276 s283)) := .trans (by kernel_rfl) (bif_b some_b none_b)
theorem law03_GraphBounds_r16 : R39 C39.r.r.r.r.r.r.r.r.l.r.b.b.r.r (S39_16 ins nodes outs y249 y262 y276 s283) q = q .normal ⟨[(7, rb y249), (8, ri (law03_GraphBounds_r2_p ins)), (9, ri (law03_GraphBounds_r3_p nodes)), (10, ri (law03_GraphBounds_r4_p outs)), (11, rF 0), (14, ri (IntKind.wrap .i64 (s283.1 + 1)))], [[.ow tsI4 y262.2 (.h 0 0), .ow tsNode y276.2 (.h 0 1), .ow (.one (.int .i64)) (s283.2 ++ [(0 : Int)]) (.h 0 2)]], [], 111⟩ := by kernel_rfl
def law03_GraphBounds_l15_p : Option ((Int × (List Int)) ⊕ (Int × (List Int))) := (bif (decide (s283.1 < (law03_GraphBounds_r4_p outs))) then (Option.bind (law03_GraphBounds_r17_p s283) (fun y285 : Unit => (some (Sum.inl ((IntKind.wrap .i64 (s283.1 + 1)), (s283.2 ++ [(0 : Int)])))))) else (some (Sum.inr s283)))
abbrev S39_17 : St := ⟨[(7, rb y249), (8, ri (law03_GraphBounds_r2_p ins)), (9, ri (law03_GraphBounds_r3_p nodes)), (10, ri (law03_GraphBounds_r4_p outs)), (11, rF 0), (14, ri y286.1)], [[.ow tsI4 y262.2 (.h 0 0), .ow tsNode y276.2 (.h 0 1), .ow (.one (.int .i64)) y286.2 (.h 0 2)]], [], 111⟩
theorem law03_GraphBounds_l15_b : R39 C39.r.r.r.r.r.r.r.r.l.r.b.b (S39_15 ins nodes outs y249 y262 y276 s283) (loopKont 1 q) = Option.bind (law03_GraphBounds_l15_p outs s283) (either (fun y : (Int × (List Int)) => q .normal ⟨[(7, rb y249), (8, ri (law03_GraphBounds_r2_p ins)), (9, ri (law03_GraphBounds_r3_p nodes)), (10, ri (law03_GraphBounds_r4_p outs)), (11, rF 0), (14, ri y.1)], [[.ow tsI4 y262.2 (.h 0 0), .ow tsNode y276.2 (.h 0 1), .ow (.one (.int .i64)) y.2 (.h 0 2)]], [], 111⟩) (fun y286 : (Int × (List Int)) => q (.exit 4) (S39_17 ins nodes outs y249 y262 y276 y286))) := by
  refine .trans ?_ (bif_b (bind_b fun y285 => e2_0) e2_1)
  refine .trans seq_push ?_
  refine (pre1 (law03_GraphBounds_fzx2 ins nodes outs y249 y262 y276 s283 _)).trans ?_
  refine (cond_e (b := (decide (s283.1 < (law03_GraphBounds_r4_p outs)))) (st' := (S39_15 ins nodes outs y249 y262 y276 s283)) ).trans (bif_g ?_ ?_)
  · refine (skip_eq).trans ?_
    refine (seqC_normal (st' := (S39_15 ins nodes outs y249 y262 y276 s283))).trans ?_
    refine .trans seq_push ?_
    refine (block_push (id := 5)).trans ?_
    refine (law03_GraphBounds_r17 ins nodes outs y249 y262 y276 s283 _).trans (bind_g fun y285 => ?_)
    refine block_normal.trans ?_
    refine (seqC_normal (st' := (S39_16 ins nodes outs y249 y262 y276 s283))).trans ?_
    refine (law03_GraphBounds_r16 ins nodes outs y249 y262 y276 s283 _).trans ?_
    kernel_rfl
  · refine ((exit_eq (j := 4))).trans ?_
    refine seqC_exit.trans ?_
    kernel_rfl
theorem law03_GraphBounds_l15 : R39 C39.r.r.r.r.r.r.r.r.l.r.b (S39_14 ins nodes outs y249 y262 y276) q = Option.bind (iterN (law03_GraphBounds_l15_p outs) LL ((0 : Int), [])) (fun y286 : (Int × (List Int)) => q (.exit 4) (S39_17 ins nodes outs y249 y262 y276 y286)) :=
  Eq.trans (by kernel_rfl) (loop_iter1 (S := fun s283 : (Int × (List Int)) => (S39_15 ins nodes outs y249 y262 y276 s283)) (Y1 := fun y286 : (Int × (List Int)) => ((.exit 4), (S39_17 ins nodes outs y249 y262 y276 y286))) (fun s q => law03_GraphBounds_l15_b ins nodes outs y249 y262 y276 s q) (fun z => rfl) LL ((0 : Int), []))
abbrev S39_18 : St := ⟨[(7, rb y249), (8, ri (law03_GraphBounds_r2_p ins)), (9, ri (law03_GraphBounds_r3_p nodes)), (10, ri (law03_GraphBounds_r4_p outs)), (11, rF 0)], [[.ow tsI4 y262.2 (.h 0 0), .ow tsNode y276.2 (.h 0 1), .ow (.one (.int .i64)) y286.2 (.h 0 2)]], [], 111⟩
abbrev S39_19 : St := ⟨[(7, rb y249), (8, ri (law03_GraphBounds_r2_p ins)), (9, ri (law03_GraphBounds_r3_p nodes)), (10, ri (law03_GraphBounds_r4_p outs)), (11, rF 0), (15, ri 0)], [[.ow tsI4 y262.2 (.h 0 0), .ow tsNode y276.2 (.h 0 1), .ow (.one (.int .i64)) y286.2 (.h 0 2)]], [], 111⟩
theorem law03_GraphBounds_f19 : P39 1 C39.r.r.r.r.r.r.r.r.r (S39_18 ins nodes outs y249 y262 y276 y286) k = k (S39_19 ins nodes outs y249 y262 y276 y286) := by kernel_rfl
def law03_GraphBounds_r19_q (K : Bool → β) : β := (bif ((law03_GraphBounds_r2_p ins) == 0) then (K true) else (K ((law03_GraphBounds_r4_p outs) == 0)))
def law03_GraphBounds_r19_p : Bool := law03_GraphBounds_r19_q ins outs (fun y => y)
theorem law03_GraphBounds_r19_n (K : Bool → β) : law03_GraphBounds_r19_q ins outs K = K (law03_GraphBounds_r19_p ins outs) := (bif_k K rfl rfl)
theorem law03_GraphBounds_r19 : P39 1 C39.r.r.r.r.r.r.r.r.r.r.l (S39_19 ins nodes outs y249 y262 y276 y286) k = k ⟨[(7, rb y249), (8, ri (law03_GraphBounds_r2_p ins)), (9, ri (law03_GraphBounds_r3_p nodes)), (10, ri (law03_GraphBounds_r4_p outs)), (11, rF 0), (15, ri 0), (68, rb (law03_GraphBounds_r19_p ins outs))], [[.ow tsI4 y262.2 (.h 0 0), .ow tsNode y276.2 (.h 0 1), .ow (.one (.int .i64)) y286.2 (.h 0 2)]], [], 111⟩ := Eq.trans (by kernel_rfl) (law03_GraphBounds_r19_n ins outs (fun y287 : Bool => k ⟨[(7, rb y249), (8, ri (law03_GraphBounds_r2_p ins)), (9, ri (law03_GraphBounds_r3_p nodes)), (10, ri (law03_GraphBounds_r4_p outs)), (11, rF 0), (15, ri 0), (68, rb y287)], [[.ow tsI4 y262.2 (.h 0 0), .ow tsNode y276.2 (.h 0 1), .ow (.one (.int .i64)) y286.2 (.h 0 2)]], [], 111⟩))
abbrev S39_20 : St := ⟨[(7, rb y249), (8, ri (law03_GraphBounds_r2_p ins)), (9, ri (law03_GraphBounds_r3_p nodes)), (10, ri (law03_GraphBounds_r4_p outs)), (11, rF 0), (15, ri 13)], [[.ow tsI4 y262.2 (.h 0 0), .ow tsNode y276.2 (.h 0 1), .ow (.one (.int .i64)) y286.2 (.h 0 2)]], [], 111⟩
theorem law03_GraphBounds_r20 : R39 C39.r.r.r.r.r.r.r.r.r.r.l.r.t (S39_19 ins nodes outs y249 y262 y276 y286) q = q .normal (S39_20 ins nodes outs y249 y262 y276 y286) := by kernel_rfl
def law03_GraphBounds_j19_q (K : Int → β) : β := (bif (law03_GraphBounds_r19_p ins outs) then (K (13 : Int)) else (K (0 : Int)))
def law03_GraphBounds_j19_p : Int := law03_GraphBounds_j19_q ins outs (fun y => y)
theorem law03_GraphBounds_j19_n (K : Int → β) : law03_GraphBounds_j19_q ins outs K = K (law03_GraphBounds_j19_p ins outs) := (bif_k K rfl rfl)
abbrev S39_21 : St := ⟨[(7, rb y249), (8, ri (law03_GraphBounds_r2_p ins)), (9, ri (law03_GraphBounds_r3_p nodes)), (10, ri (law03_GraphBounds_r4_p outs)), (11, rF 0), (15, ri (law03_GraphBounds_j19_p ins outs))], [[.ow tsI4 y262.2 (.h 0 0), .ow tsNode y276.2 (.h 0 1), .ow (.one (.int .i64)) y286.2 (.h 0 2)]], [], 111⟩
theorem law03_GraphBounds_j19 : R39 C39.r.r.r.r.r.r.r.r.r.r.l (S39_19 ins nodes outs y249 y262 y276 y286) (Q39 C39.r.r.r.r.r.r.r.r.r.r.r q) = R39 C39.r.r.r.r.r.r.r.r.r.r.r (S39_21 ins nodes outs y249 y262 y276 y286) q := by
  refine Eq.trans ?_ (law03_GraphBounds_j19_n ins outs (fun y288 : Int => R39 C39.r.r.r.r.r.r.r.r.r.r.r ⟨[(7, rb y249), (8, ri (law03_GraphBounds_r2_p ins)), (9, ri (law03_GraphBounds_r3_p nodes)), (10, ri (law03_GraphBounds_r4_p outs)), (11, rF 0), (15, ri y288)], [[.ow tsI4 y262.2 (.h 0 0), .ow tsNode y276.2 (.h 0 1), .ow (.one (.int .i64)) y286.2 (.h 0 2)]], [], 111⟩ q))
  unfold law03_GraphBounds_j19_q
  refine (pre1 (law03_GraphBounds_r19 ins nodes outs y249 y262 y276 y286 _)).trans ?_
  refine (cond_e (b := (law03_GraphBounds_r19_p ins outs)) (st' := (S39_19 ins nodes outs y249 y262 y276 y286)) ).trans (bif_g ?_ ?_)
  · refine (law03_GraphBounds_r20 ins nodes outs y249 y262 y276 y286 _).trans ?_
    refine (seqC_normal (st' := (S39_20 ins nodes outs y249 y262 y276 y286))).trans ?_
    kernel_rfl
  · refine (skip_eq).trans ?_
    refine (seqC_normal (st' := (S39_19 ins nodes outs y249 y262 y276 y286))).trans ?_
    kernel_rfl
def law03_GraphBounds_r21_q (K : Bool → β) : β := (bif (decide ((law03_GraphBounds_r2_p ins) > 4)) then (K true) else (bif (decide ((law03_GraphBounds_r3_p nodes) > 12)) then (K true) else (K (decide ((law03_GraphBounds_r4_p outs) > 4)))))
def law03_GraphBounds_r21_p : Bool := law03_GraphBounds_r21_q ins nodes outs (fun y => y)
theorem law03_GraphBounds_r21_n (K : Bool → β) : law03_GraphBounds_r21_q ins nodes outs K = K (law03_GraphBounds_r21_p ins nodes outs) := (bif_k K rfl (bif_k K rfl rfl))
theorem law03_GraphBounds_r21 : P39 1 C39.r.r.r.r.r.r.r.r.r.r.r.l (S39_21 ins nodes outs y249 y262 y276 y286) k = k ⟨[(7, rb y249), (8, ri (law03_GraphBounds_r2_p ins)), (9, ri (law03_GraphBounds_r3_p nodes)), (11, rF 0), (15, ri (law03_GraphBounds_j19_p ins outs)), (78, rb (law03_GraphBounds_r21_p ins nodes outs))], [[.ow tsI4 y262.2 (.h 0 0), .ow tsNode y276.2 (.h 0 1), .ow (.one (.int .i64)) y286.2 (.h 0 2)]], [], 111⟩ := Eq.trans (by kernel_rfl) (law03_GraphBounds_r21_n ins nodes outs (fun y289 : Bool => k ⟨[(7, rb y249), (8, ri (law03_GraphBounds_r2_p ins)), (9, ri (law03_GraphBounds_r3_p nodes)), (11, rF 0), (15, ri (law03_GraphBounds_j19_p ins outs)), (78, rb y289)], [[.ow tsI4 y262.2 (.h 0 0), .ow tsNode y276.2 (.h 0 1), .ow (.one (.int .i64)) y286.2 (.h 0 2)]], [], 111⟩))
abbrev S39_22 : St := ⟨[(7, rb y249), (8, ri (law03_GraphBounds_r2_p ins)), (9, ri (law03_GraphBounds_r3_p nodes)), (11, rF 0), (15, ri (law03_GraphBounds_j19_p ins outs))], [[.ow tsI4 y262.2 (.h 0 0), .ow tsNode y276.2 (.h 0 1), .ow (.one (.int .i64)) y286.2 (.h 0 2)]], [], 111⟩
abbrev S39_23 : St := ⟨[(7, rb y249), (8, ri (law03_GraphBounds_r2_p ins)), (9, ri (law03_GraphBounds_r3_p nodes)), (11, rF 0), (15, ri 3)], [[.ow tsI4 y262.2 (.h 0 0), .ow tsNode y276.2 (.h 0 1), .ow (.one (.int .i64)) y286.2 (.h 0 2)]], [], 111⟩
theorem law03_GraphBounds_r22 : R39 C39.r.r.r.r.r.r.r.r.r.r.r.l.r.t (S39_22 ins nodes outs y249 y262 y276 y286) q = q .normal (S39_23 ins nodes y249 y262 y276 y286) := by kernel_rfl
def law03_GraphBounds_j21_q (K : Int → β) : β := (bif (law03_GraphBounds_r21_p ins nodes outs) then (K (3 : Int)) else (K (law03_GraphBounds_j19_p ins outs)))
def law03_GraphBounds_j21_p : Int := law03_GraphBounds_j21_q ins nodes outs (fun y => y)
theorem law03_GraphBounds_j21_n (K : Int → β) : law03_GraphBounds_j21_q ins nodes outs K = K (law03_GraphBounds_j21_p ins nodes outs) := (bif_k K rfl rfl)
abbrev S39_24 : St := ⟨[(7, rb y249), (8, ri (law03_GraphBounds_r2_p ins)), (9, ri (law03_GraphBounds_r3_p nodes)), (11, rF 0), (15, ri (law03_GraphBounds_j21_p ins nodes outs))], [[.ow tsI4 y262.2 (.h 0 0), .ow tsNode y276.2 (.h 0 1), .ow (.one (.int .i64)) y286.2 (.h 0 2)]], [], 111⟩
theorem law03_GraphBounds_j21 : R39 C39.r.r.r.r.r.r.r.r.r.r.r.l (S39_21 ins nodes outs y249 y262 y276 y286) (Q39 C39.r.r.r.r.r.r.r.r.r.r.r.r q) = R39 C39.r.r.r.r.r.r.r.r.r.r.r.r (S39_24 ins nodes outs y249 y262 y276 y286) q := by
  refine Eq.trans ?_ (law03_GraphBounds_j21_n ins nodes outs (fun y290 : Int => R39 C39.r.r.r.r.r.r.r.r.r.r.r.r ⟨[(7, rb y249), (8, ri (law03_GraphBounds_r2_p ins)), (9, ri (law03_GraphBounds_r3_p nodes)), (11, rF 0), (15, ri y290)], [[.ow tsI4 y262.2 (.h 0 0), .ow tsNode y276.2 (.h 0 1), .ow (.one (.int .i64)) y286.2 (.h 0 2)]], [], 111⟩ q))
  unfold law03_GraphBounds_j21_q
  refine (pre1 (law03_GraphBounds_r21 ins nodes outs y249 y262 y276 y286 _)).trans ?_
  refine (cond_e (b := (law03_GraphBounds_r21_p ins nodes outs)) (st' := (S39_22 ins nodes outs y249 y262 y276 y286)) ).trans (bif_g ?_ ?_)
  · refine (law03_GraphBounds_r22 ins nodes outs y249 y262 y276 y286 _).trans ?_
    refine (seqC_normal (st' := (S39_23 ins nodes y249 y262 y276 y286))).trans ?_
    kernel_rfl
  · refine (skip_eq).trans ?_
    refine (seqC_normal (st' := (S39_22 ins nodes outs y249 y262 y276 y286))).trans ?_
    kernel_rfl
abbrev S39_25 : St := ⟨[(7, rb y249), (8, ri (law03_GraphBounds_r2_p ins)), (9, ri (law03_GraphBounds_r3_p nodes)), (15, ri (law03_GraphBounds_j21_p ins nodes outs)), (16, rO tsI4 y405.1 16), (17, ri y405.2)], [[]], [], 111⟩
theorem law03_GraphBounds_r23 : P39 1 C39.r.r.r.r.r.r.r.r.r.r.r.r (S39_24 ins nodes outs y249 y262 y276 y286) k = Option.bind (graph_Values (y262.2, y276.2, y286.2)) fun y405 : ((List I4) × Int) => k (S39_25 ins nodes outs y249 y405) := by kernel_rfl
def law03_GraphBounds_r24_q (K : Bool → β) : β := (bif y249 then (bif (y405.2 == (law03_GraphBounds_j21_p ins nodes outs)) then (bif (y405.2 != 0) then (bif (y405.2 == 0) then (K true) else (K ((y405.1.length : Int) == 0))) else (bif ((y405.1.length : Int) == (IntKind.wrap .i64 ((law03_GraphBounds_r2_p ins) + (law03_GraphBounds_r3_p nodes)))) then (bif (y405.2 == 0) then (K true) else (K ((y405.1.length : Int) == 0))) else (K false))) else (K false)) else (K false))
def law03_GraphBounds_r24_p : Bool := law03_GraphBounds_r24_q ins nodes outs y249 y405 (fun y => y)
theorem law03_GraphBounds_r24_n (K : Bool → β) : law03_GraphBounds_r24_q ins nodes outs y249 y405 K = K (law03_GraphBounds_r24_p ins nodes outs y249 y405) := (bif_k K (bif_k K (bif_k K (bif_k K rfl rfl) (bif_k K (bif_k K rfl rfl) rfl)) rfl) rfl)
theorem law03_GraphBounds_r24 : P39 1 C39.r.r.r.r.r.r.r.r.r.r.r.r.r (S39_25 ins nodes outs y249 y405) k = k ⟨[(6, rb (law03_GraphBounds_r24_p ins nodes outs y249 y405))], [[]], [], 111⟩ := Eq.trans (by kernel_rfl) (law03_GraphBounds_r24_n ins nodes outs y249 y405 (fun y406 : Bool => k ⟨[(6, rb y406)], [[]], [], 111⟩))
/-- quilt/quiltlaw03.GraphBounds -/
def law03_GraphBounds : Option Bool := (Option.bind law03_shown (fun y249 : Bool => (Option.bind (iterN (law03_GraphBounds_l7_p ins) LL ((0 : Int), [])) (fun y262 : (Int × (List I4)) => (Option.bind (iterN (law03_GraphBounds_l11_p nodes) LL ((0 : Int), [])) (fun y276 : (Int × (List Node)) => (Option.bind (iterN (law03_GraphBounds_l15_p outs) LL ((0 : Int), [])) (fun y286 : (Int × (List Int)) => (Option.bind (graph_Values (y262.2, y276.2, y286.2)) (fun y405 : ((List I4) × Int) => (some (law03_GraphBounds_r24_p ins nodes outs y249 y405))))))))))))
theorem law03_GraphBounds_is : stepS E cp39 noE 7 [rk .u8 ins, rk .u8 nodes, rk .u8 outs] = Option.bind (law03_GraphBounds ins nodes outs) (fun y : Bool => some (rb y : R)) := by
  refine .trans ?_ (bind_b fun y249 => (bind_b fun y262 => (bind_b fun y276 => (bind_b fun y286 => (bind_b fun y405 => some_b)))))
  refine (stepG_is (nt := 111) (regs := [(0, rk .u8 ins), (1, rk .u8 nodes), (2, rk .u8 outs)])).trans ?_
  refine (pre2 (law03_GraphBounds_r1 ins nodes outs _)).trans (bind_g fun y249 => ?_)
  refine (pre1 (law03_GraphBounds_r2 ins nodes outs y249 _)).trans ?_
  refine (pre1 (law03_GraphBounds_r3 ins nodes outs y249 _)).trans ?_
  refine (pre1 (law03_GraphBounds_r4 ins nodes outs y249 _)).trans ?_
  refine (pre1 (law03_GraphBounds_f6 ins nodes outs y249 _)).trans ?_
  refine .trans seq_push ?_
  refine (pre1 (law03_GraphBounds_f7 ins nodes outs y249 _)).trans ?_
  refine (block_push (id := 0)).trans ?_
  refine (law03_GraphBounds_l7 ins nodes outs y249 _).trans (bind_g fun y262 => ?_)
  refine block_same.trans ?_
  refine (seqC_normal (st' := (S39_8 ins nodes outs y249 y262))).trans ?_
  refine .trans seq_push ?_
  refine (pre1 (law03_GraphBounds_f11 ins nodes outs y249 y262 _)).trans ?_
  refine (block_push (id := 2)).trans ?_
  refine (law03_GraphBounds_l11 ins nodes outs y249 y262 _).trans (bind_g fun y276 => ?_)
  refine block_same.trans ?_
  refine (seqC_normal (st' := (S39_13 ins nodes outs y249 y262 y276))).trans ?_
  refine .trans seq_push ?_
  refine (pre1 (law03_GraphBounds_f15 ins nodes outs y249 y262 y276 _)).trans ?_
  refine (block_push (id := 4)).trans ?_
  refine (law03_GraphBounds_l15 ins nodes outs y249 y262 y276 _).trans (bind_g fun y286 => ?_)
  refine block_same.trans ?_
  refine (seqC_normal (st' := (S39_18 ins nodes outs y249 y262 y276 y286))).trans ?_
  refine (pre1 (law03_GraphBounds_f19 ins nodes outs y249 y262 y276 y286 _)).trans ?_
  refine .trans seq_push ?_
  refine (law03_GraphBounds_j19 ins nodes outs y249 y262 y276 y286 _).trans ?_
  refine .trans seq_push ?_
  refine (law03_GraphBounds_j21 ins nodes outs y249 y262 y276 y286 _).trans ?_
  refine (pre1 (law03_GraphBounds_r23 ins nodes outs y249 y262 y276 y286 _)).trans (bind_g fun y405 => ?_)
  refine (pre1 (law03_GraphBounds_r24 ins nodes outs y249 y405 _)).trans ?_
  refine (ret_eq).trans ?_
  kernel_rfl
noncomputable def cp40 : CallP := withC cp39 7 [(.one (.g (.int .u8))), (.one (.g (.int .u8))), (.one (.g (.int .u8)))] (.one pB) (fun y : Bool => y) (fun x => law03_GraphBounds x.1 x.2.1 x.2.2.1)
theorem cp40_ok : PureOK E cp40 := conS eok cp39_ok noE_ok fun x => Eq.mp (by kernel_rfl) (law03_GraphBounds_is x.1 x.2.1 x.2.2.1)
theorem law03_GraphBounds_walk (ht : law03_GraphBounds ins nodes outs = some true) (w : World) (vs : List Value) (hrd : ∀ γ : Gh, Free γ → rdRs w γ [argR false (.one (.int .u8)) ins, argR false (.one (.int .u8)) nodes, argR false (.one (.int .u8)) outs] vs) : Calls E.P 7 vs.toArray w fun e w' => e = .returned (.bool true) ∧ Below w.heap.size w w' :=
  walk_true (E := E) (stepS_ok eok cp39_ok noE_ok) (show stepS E cp39 noE 7 [rk .u8 ins, rk .u8 nodes, rk .u8 outs] = some (.one (.g .bool true)) from by rw [law03_GraphBounds_is, ht]; rfl) w fun γ hγ => Eq.mp (by kernel_rfl) (hrd γ hγ)
end
end Go.V.P
