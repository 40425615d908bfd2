/- What functions compute. -/
import Derived.Test.YtdgdgoekapekpaaErEnv
namespace Go.V.P
open Go.RowKit Go.V Go.Proofs
set_option linter.unusedVariables false
set_option maxRecDepth 100000
section
variable {β : Type} (low : Int) (high : Int)
/-- quilt/shape.within -/
def shape_within_q (K : ((Int × Unit) × (Int × Unit) × Unit) → β) : β := (K ((low, ()), (high, ()), ()))
def shape_within : ((Int × Unit) × (Int × Unit) × Unit) := shape_within_q low high (fun y => y)
noncomputable def cp1 : CallP := withP cpA 81 [pI, pI] false [(.one (.fn 92 (.cons (.cell (.cons (.g (.int .i64)) .nil)) (.cons (.cell (.cons (.g (.int .i64)) .nil)) .nil))))] (fun x => shape_within x.1 x.2.1)
theorem cp1_ok : PureOK E cp1 := conP (hn := .e) false eok cpA_ok noE_ok (fun x => by kernel_rfl) fun x => by kernel_rfl
end
section
variable {β : Type} (l_ : (List Int)) (c1_ : Int) (c2_ : Int) (s14 : Int)
def shape_within_1_r3_p : Option Unit := (bif (decide ((0 : Int) ≤ s14)) then (bif (decide (s14 < (l_.length : Int))) then (some ()) else none) else none)
def shape_within_1_r4_q (K : Bool → β) : β := (bif (decide ((gt l_ s14 (0 : Int)) < c1_)) then (K true) else (K (decide ((gt l_ s14 (0 : Int)) > c2_))))
def shape_within_1_r4_p : Bool := shape_within_1_r4_q l_ c1_ c2_ s14 (fun y => y)
def shape_within_1_l2_p : Option (Int ⊕ (Int ⊕ Unit)) := (bif (decide (s14 < (l_.length : Int))) then (Option.bind (shape_within_1_r3_p l_ s14) (fun y16 : Unit => (bif (shape_within_1_r4_p l_ c1_ c2_ s14) then (some (Sum.inr (Sum.inr ()))) else (some (Sum.inl (IntKind.wrap .i64 (s14 + 1))))))) else (some (Sum.inr (Sum.inl s14))))
/-- quilt/shape.within$1 -/
def shape_within_1 : Option Bool := (Option.bind (iterN (shape_within_1_l2_p l_ c1_ c2_) LL (0 : Int)) (either (fun y17 : Int => (some true)) (fun y18 : Unit => (some false))))
noncomputable def cp2 : CallP := withC cp1 92 [(.one (.g (.sl (.one (.int .i64))))), (.one (.cell (.cons (.g (.int .i64)) .nil))), (.one (.cell (.cons (.g (.int .i64)) .nil)))] false [pB] (fun x => shape_within_1 x.1 x.2.1.1 x.2.2.1.1)
theorem cp2_ok : PureOK E cp2 := conC (hn := (.w (.c (.l (.j .e false (.k [] (.j (.x (.c .e .e)) true (.k [.r 20] (.c .e .e) .e)) .e))) .e) [.r 9] (.k [.r 9] .e (.k [] .e .e)))) false eok cp1_ok noE_ok (fun x => by kernel_rfl) fun x => by kernel_rfl
end
def shape_may_r1_p (s_ : I3) : Option Bool := (Option.bind (shape_within_1 [s_.1, s_.2.1] (((shape_within (1 : Int) (16 : Int)).1).1) (((shape_within (1 : Int) (16 : Int)).2.1).1)) (fun y19 : Bool => (bif y19 then (Option.bind (shape_within_1 [s_.2.2] (((shape_within (1 : Int) (8 : Int)).1).1) (((shape_within (1 : Int) (8 : Int)).2.1).1)) (fun y20 : Bool => (some y20))) else (some false))))
/-- quilt/shape.may -/
def shape_may (s_ : I3) : Option Bool := (Option.bind (shape_may_r1_p s_) (fun y21 : Bool => (some y21)))
noncomputable def cp3 : CallP := withC cp2 52 [(.agg tsI3)] false [pB] (fun x => shape_may x.1)
theorem cp3_ok : PureOK E cp3 := conC (hn := (.l (.j (.x (.c .e .e)) false (.k [.r 2] .e .e)))) false eok cp2_ok noE_ok (fun x => by kernel_rfl) fun x => by kernel_rfl
/-- quilt/shape.May -/
def shape_May (s_ : I3) : Option Int := (Option.bind (shape_may s_) (fun y23 : Bool => (bif (!y23) then (some (10 : Int)) else (some (0 : Int)))))
noncomputable def cp4 : CallP := withC cp3 38 [(.agg tsI3)] false [pI] (fun x => shape_May x.1)
theorem cp4_ok : PureOK E cp4 := conC (hn := (.c .e .e)) false eok cp3_ok noE_ok (fun x => by kernel_rfl) fun x => by kernel_rfl
section
variable {β : Type} (x_ : Int) (low : Int) (high : Int)
def graph_within_r1_q (K : Bool → β) : β := (bif (decide (x_ ≥ low)) then (K (decide (x_ ≤ high))) else (K false))
def graph_within_r1_p : Bool := graph_within_r1_q x_ low high (fun y => y)
/-- quilt/graph.within -/
def graph_within_q (K : Bool → β) : β := (K (graph_within_r1_p x_ low high))
def graph_within : Bool := graph_within_q x_ low high (fun y => y)
noncomputable def cp5 : CallP := withP cp4 39 [pI, pI, pI] false [pB] (fun x => graph_within x.1 x.2.1 x.2.2.1)
theorem cp5_ok : PureOK E cp5 := conP (hn := (.l (.j (.x (.c .e .e)) true (.k [.r 6] .e .e)))) false eok cp4_ok noE_ok (fun x => by kernel_rfl) fun x => by kernel_rfl
end
/-- slices.Clone -/
def slices_Cloneapi_Value_api_Value (s_ : (List I4)) : Option (List I4) := bif s_.isEmpty then some [] else bif decide (([] : (List I4)).length + s_.length ≤ maxL) then some ([] ++ s_) else none
noncomputable def cp6 : CallP := withC cp5 40 [(.one (.g (.sl tsI4)))] false [.one (.ow tsI4)] (fun x => slices_Cloneapi_Value_api_Value x.1)
theorem cp6_ok : PureOK E cp6 := conClone (e := tsI4) true eok cp5_ok noE_ok (by kernel_rfl) (by kernel_rfl) (by kernel_rfl) (by kernel_rfl) (fun x l => by kernel_rfl) fun x l => by kernel_rfl
section
variable {β : Type} (g_ : Graph) (s39 : Int)
def graph_goesIn_r1_q (K : Bool → β) : β := (bif (decide ((g_.1.length : Int) > 4)) then (K true) else (bif (decide ((g_.2.1.length : Int) > 12)) then (K true) else (K (decide ((g_.2.2.length : Int) > 4)))))
def graph_goesIn_r1_p : Bool := graph_goesIn_r1_q g_ (fun y => y)
def graph_goesIn_r3_q (K : Bool → β) : β := (bif ((g_.1.length : Int) == 0) then (K true) else (K ((g_.2.2.length : Int) == 0)))
def graph_goesIn_r3_p : Bool := graph_goesIn_r3_q g_ (fun y => y)
def graph_goesIn_r7_p : Option Unit := (bif (decide ((0 : Int) ≤ s39)) then (bif (decide (s39 < (g_.1.length : Int))) then (some ()) else none) else none)
def graph_goesIn_l6_p : Option (Int ⊕ (Int ⊕ Int)) := (bif (decide (s39 < (g_.1.length : Int))) then (Option.bind (graph_goesIn_r7_p g_ s39) (fun y42 : Unit => (Option.bind (shape_May ((gt g_.1 s39 dI4).1, (gt g_.1 s39 dI4).2.1, (gt g_.1 s39 dI4).2.2.1)) (fun y43 : Int => (bif (y43 != 0) then (some (Sum.inr (Sum.inr (10 : Int)))) else (bif (!(graph_within ((gt g_.1 s39 dI4).2.2.2) (-128 : Int) (127 : Int))) then (some (Sum.inr (Sum.inr (11 : Int)))) else (some (Sum.inl (IntKind.wrap .i64 (s39 + 1)))))))))) else (some (Sum.inr (Sum.inl s39))))
/-- quilt/graph.goesIn -/
def graph_goesIn : Option ((List I4) × Int) := (bif (graph_goesIn_r1_p g_) then (some ([], (3 : Int))) else (bif (graph_goesIn_r3_p g_) then (some ([], (13 : Int))) else (Option.bind (iterN (graph_goesIn_l6_p g_) LL (0 : Int)) (either (fun y44 : Int => (Option.bind (slices_Cloneapi_Value_api_Value g_.1) (fun y46 : (List I4) => (some (y46, (0 : Int)))))) (fun y45 : Int => (some ([], y45)))))))
noncomputable def cp7 : CallP := withC cp6 27 [(.agg tsGraph)] true [(.one (.ow tsI4)), pI] (fun x => graph_goesIn x.1)
theorem cp7_ok : PureOK E cp7 := conC (hn := (.l (.l (.j (.x (.c .e (.l (.l (.l (.c .e .e)))))) true (.k [.r 6] (.c .e (.j (.x (.c .e .e)) true (.k [.r 23] (.c .e (.w (.c (.l (.j .e false (.k [] (.c .e (.c .e .e)) .e))) .e) [.r 37] (.k [.r 37] .e (.k [.r 3] .e .e)))) .e))) .e))))) true eok cp6_ok noE_ok (fun x => by kernel_rfl) fun x => by kernel_rfl
end
section
variable {β : Type} (vals : (List I4)) (l_ : (List Int)) (s67 : ((List I4) × Int))
def graph_picked_r3_p : Option Unit := (bif (decide ((0 : Int) ≤ s67.2)) then (bif (decide (s67.2 < (l_.length : Int))) then (some ()) else none) else none)
def graph_picked_r4_q (K : Bool → β) : β := (K (!(graph_within (gt l_ s67.2 (0 : Int)) (0 : Int) (IntKind.wrap .i64 ((vals.length : Int) - 1)))))
def graph_picked_r4_p : Bool := graph_picked_r4_q vals l_ s67 (fun y => y)
def graph_picked_r6_p : Option Unit := (bif (decide ((0 : Int) ≤ (gt l_ s67.2 (0 : Int)))) then (bif (decide ((gt l_ s67.2 (0 : Int)) < (vals.length : Int))) then (bif (decide (s67.1.length + ([(gt vals (gt l_ s67.2 (0 : Int)) dI4)] : List I4).length ≤ maxL)) then (some ()) else none) else none) else none)
def graph_picked_l2_p : Option (((List I4) × Int) ⊕ (((List I4) × Int) ⊕ Unit)) := (bif (decide (s67.2 < (l_.length : Int))) then (Option.bind (graph_picked_r3_p l_ s67) (fun y70 : Unit => (bif (graph_picked_r4_p vals l_ s67) then (some (Sum.inr (Sum.inr ()))) else (Option.bind (graph_picked_r6_p vals l_ s67) (fun y71 : Unit => (some (Sum.inl ((s67.1 ++ [(gt vals (gt l_ s67.2 (0 : Int)) dI4)]), (IntKind.wrap .i64 (s67.2 + 1)))))))))) else (some (Sum.inr (Sum.inl s67))))
/-- quilt/graph.picked -/
def graph_picked : Option ((List I4) × Bool) := (Option.bind (iterN (graph_picked_l2_p vals l_) LL ([], (0 : Int))) (either (fun y72 : ((List I4) × Int) => (some (y72.1, true))) (fun y73 : Unit => (some ([], false)))))
noncomputable def cp8 : CallP := withC cp7 28 [(pL tsI4), (.one (.g (.sl (.one (.int .i64)))))] true [(.one (.ow tsI4)), pB] (fun x => graph_picked x.1 x.2.1)
theorem cp8_ok : PureOK E cp8 := conC (hn := (.w (.c (.l (.j .e false (.k [] (.l (.j .e true (.k [.r 19] (.c .e (.j .e false (.k [] .e .e))) .e))) .e))) .e) [.r 4, .r 10] (.k [.r 4, .r 10] .e (.k [] .e .e)))) true eok cp7_ok noE_ok (fun x => by kernel_rfl) fun x => by kernel_rfl
end
def graph_of_j15_q {β : Type} (op : Int) (K : Bool → β) : β := (bif (op == 4) then (K (op == 4)) else (K (op == 5)))
def graph_of_j15_p (op : Int) : Bool := graph_of_j15_q op (fun y => y)
def graph_of_j18_q {β : Type} (op : Int) (K : Bool → β) : β := (bif (op == 6) then (K (op == 6)) else (K (op == 7)))
def graph_of_j18_p (op : Int) : Bool := graph_of_j18_q op (fun y => y)
def graph_of_j2_p (op : Int) : Option ((Int × Bool × Bool × Bool × Bool × Bool × U3 × (Unit ⊕ (Unit ⊕ (Unit ⊕ (Unit ⊕ Unit))))) ⊕ Unit) := (bif (op == 1) then (some (Sum.inl ((1 : Int), true, true, false, true, false, (Sum.inr (Sum.inl ())), (Sum.inr (Sum.inl ()))))) else (bif (op == 2) then (some (Sum.inl ((1 : Int), true, true, false, false, false, (Sum.inr (Sum.inr (Sum.inl ()))), (Sum.inr (Sum.inr (Sum.inl ())))))) else (bif (op == 3) then (some (Sum.inl ((1 : Int), false, false, false, true, false, (Sum.inr (Sum.inr (Sum.inr (Sum.inl ())))), (Sum.inr (Sum.inr (Sum.inr (Sum.inl ()))))))) else (bif (graph_of_j15_p op) then (some (Sum.inl ((1 : Int), true, false, false, false, true, (Sum.inr (Sum.inr (Sum.inl ()))), (Sum.inl ())))) else (bif (graph_of_j18_p op) then (some (Sum.inl ((2 : Int), false, false, false, false, false, (Sum.inr (Sum.inr (Sum.inr (Sum.inr (Sum.inl ()))))), (Sum.inl ())))) else (bif (op == 8) then (some (Sum.inl ((1 : Int), false, false, false, false, true, (Sum.inl ()), (Sum.inl ())))) else (bif (op == 9) then (some (Sum.inl ((1 : Int), false, false, true, false, true, (Sum.inr (Sum.inr (Sum.inr (Sum.inr (Sum.inr (Sum.inl ())))))), (Sum.inl ())))) else (bif (op == 10) then (some (Sum.inl ((2 : Int), false, false, false, false, true, (Sum.inr (Sum.inr (Sum.inr (Sum.inr (Sum.inr (Sum.inr (Sum.inl ()))))))), (Sum.inl ())))) else (bif (op == 11) then (some (Sum.inl ((1 : Int), false, false, false, false, true, (Sum.inr (Sum.inr (Sum.inr (Sum.inr (Sum.inr (Sum.inr (Sum.inr ()))))))), (Sum.inl ())))) else (bif (op == 12) then (some (Sum.inl ((1 : Int), false, false, false, false, false, (Sum.inl ()), (Sum.inr (Sum.inr (Sum.inr (Sum.inr ()))))))) else (some (Sum.inr ()))))))))))))
/-- quilt/graph.of -/
def graph_of (op : Int) : Option U10 := (Option.bind (graph_of_j2_p op) (either (fun y75 : (Int × Bool × Bool × Bool × Bool × Bool × U3 × (Unit ⊕ (Unit ⊕ (Unit ⊕ (Unit ⊕ Unit))))) => (some ((y75.1, y75.2.1, y75.2.2.1, y75.2.2.2.1, y75.2.2.2.2.1, y75.2.2.2.2.2.1, ((either (fun u77 : Unit => (Sum.inl ())) (either (fun u78 : Unit => (Sum.inr (Sum.inl ()))) (either (fun u79 : Unit => (Sum.inr (Sum.inr (Sum.inl ())))) (either (fun u80 : Unit => (Sum.inr (Sum.inr (Sum.inr (Sum.inl ()))))) (either (fun u81 : Unit => (Sum.inr (Sum.inr (Sum.inr (Sum.inr (Sum.inl ())))))) (either (fun u82 : Unit => (Sum.inr (Sum.inr (Sum.inr (Sum.inr (Sum.inr (Sum.inl ()))))))) (either (fun u83 : Unit => (Sum.inr (Sum.inr (Sum.inr (Sum.inr (Sum.inr (Sum.inr (Sum.inl ())))))))) (fun u84 : Unit => (Sum.inr (Sum.inr (Sum.inr (Sum.inr (Sum.inr (Sum.inr (Sum.inr (Sum.inl ())))))))))))))))) y75.2.2.2.2.2.2.1), ((either (fun u85 : Unit => (Sum.inl ())) (either (fun u86 : Unit => (Sum.inr (Sum.inl ()))) (either (fun u87 : Unit => (Sum.inr (Sum.inr (Sum.inl ())))) (either (fun u88 : Unit => (Sum.inr (Sum.inr (Sum.inr (Sum.inl ()))))) (fun u89 : Unit => (Sum.inr (Sum.inr (Sum.inr (Sum.inr (Sum.inl ())))))))))) y75.2.2.2.2.2.2.2), ()), true))) (fun y76 : Unit => (some (((0 : Int), false, false, false, false, false, (Sum.inr (Sum.inr (Sum.inr (Sum.inr (Sum.inr (Sum.inr (Sum.inr (Sum.inr ())))))))), (Sum.inr (Sum.inr (Sum.inr (Sum.inr (Sum.inr ()))))), ()), false)))))
noncomputable def cp9 : CallP := withC cp8 41 [pI] true [(.aggs (.cons (.g (.int .i64)) (.cons (.g .bool) (.cons (.g .bool) (.cons (.g .bool) (.cons (.g .bool) (.cons (.g .bool) (.cons (.alt (.fn 53 .nil) (.alt (.fn 55 .nil) (.alt (.fn 58 .nil) (.alt (.fn 60 .nil) (.alt (.fn 62 .nil) (.alt (.fn 63 .nil) (.alt (.fn 64 .nil) (.alt (.fn 65 .nil) .nilFn)))))))) (.cons (.alt (.fn 54 .nil) (.alt (.fn 57 .nil) (.alt (.fn 59 .nil) (.alt (.fn 61 .nil) (.alt (.fn 66 .nil) .nilFn))))) .nil))))))))), pB] (fun x => graph_of x.1)
theorem cp9_ok : PureOK E cp9 := conC (hn := (.l (.l (.j (.c .e (.c .e (.c .e (.j (.c .e .e) true (.k [.r 26] (.c .e (.j (.c .e .e) true (.k [.r 32] (.c .e (.c .e (.c .e (.c .e (.c .e (.c .e .e)))))) .e))) .e))))) false (.k [.h 1 0, .h 1 1, .h 1 2, .h 1 3, .h 1 4, .h 1 5, .q (.alt (.fn 53 .nil) (.alt (.fn 55 .nil) (.alt (.fn 58 .nil) (.alt (.fn 60 .nil) (.alt (.fn 62 .nil) (.alt (.fn 63 .nil) (.alt (.fn 64 .nil) (.fn 65 .nil)))))))) (.h 1 6), .q (.alt (.fn 54 .nil) (.alt (.fn 57 .nil) (.alt (.fn 59 .nil) (.alt (.fn 61 .nil) (.fn 66 .nil))))) (.h 1 7)] .e (.k [] .e .e)))))) false eok cp8_ok noE_ok (fun x => by kernel_rfl) fun x => by kernel_rfl
section
variable {β : Type} (k_ : Int) (k_' : Bool) (k_'' : Bool) (k_''' : Bool) (k_'''' : Bool) (k_''''' : Bool) (k_'''''' : (Unit ⊕ U3)) (k_''''''' : U0) (n_ : Node) (in_ : (List I4))
def graph_kind_may_r1_q (K : Bool → β) : β := (bif ((in_.length : Int) == k_) then (bif (graph_within n_.2.2.2.2.2.2.1 (1 : Int) (32767 : Int)) then (bif (graph_within n_.2.2.2.2.2.2.2.1 (0 : Int) (31 : Int)) then (K (graph_within n_.2.2.2.2.2.2.2.2.1 (-128 : Int) (127 : Int))) else (K false)) else (K false)) else (K false))
def graph_kind_may_r1_p : Bool := graph_kind_may_r1_q k_ n_ in_ (fun y => y)
def graph_kind_may_r2_q (K : Bool → β) : β := (bif (graph_kind_may_r1_p k_ n_ in_) then (bif (n_.1 == 11) then (K true) else (K ((n_.2.2.2.2.2.2.2.2.2.1 == 0) && ((n_.2.2.2.2.2.2.2.2.2.2.1 == 0) && ((n_.2.2.2.2.2.2.2.2.2.2.2.1 == 0) && true))))) else (K false))
def graph_kind_may_r2_p : Bool := graph_kind_may_r2_q k_ n_ in_ (fun y => y)
def graph_kind_may_r4_q (K : Bool → β) : β := (bif (graph_kind_may_r2_p k_ n_ in_) then (bif (graph_within n_.2.2.1 (1 : Int) (3 : Int)) then (K (graph_within n_.2.2.2.1 (1 : Int) (2 : Int))) else (K false)) else (K false))
def graph_kind_may_r4_p : Bool := graph_kind_may_r4_q k_ n_ in_ (fun y => y)
def graph_kind_may_r5_q (K : Bool → β) : β := (bif (graph_kind_may_r2_p k_ n_ in_) then (bif (n_.2.2.1 == 0) then (K (n_.2.2.2.1 == 0)) else (K false)) else (K false))
def graph_kind_may_r5_p : Bool := graph_kind_may_r5_q k_ n_ in_ (fun y => y)
def graph_kind_may_j3_q (K : Bool → β) : β := (bif k_' then (K (graph_kind_may_r4_p k_ n_ in_)) else (K (graph_kind_may_r5_p k_ n_ in_)))
def graph_kind_may_j3_p : Bool := graph_kind_may_j3_q k_ k_' n_ in_ (fun y => y)
def graph_kind_may_r8_q (K : Bool → β) : β := (bif (graph_kind_may_j3_p k_ k_' n_ in_) then (K (graph_within n_.2.2.2.2.1 (0 : Int) (min (1 : Int) (IntKind.wrap .i64 (n_.2.2.1 - 1))))) else (K false))
def graph_kind_may_r8_p : Bool := graph_kind_may_r8_q k_ k_' n_ in_ (fun y => y)
def graph_kind_may_r10_q (K : Bool → β) : β := (bif (graph_kind_may_j3_p k_ k_' n_ in_) then (K (n_.2.2.2.2.1 == 1)) else (K false))
def graph_kind_may_r10_p : Bool := graph_kind_may_r10_q k_ k_' n_ in_ (fun y => y)
def graph_kind_may_r6_q (K : Bool → β) : β := (bif (graph_kind_may_j3_p k_ k_' n_ in_) then (K (n_.2.2.2.2.1 == 0)) else (K false))
def graph_kind_may_r6_p : Bool := graph_kind_may_r6_q k_ k_' n_ in_ (fun y => y)
def graph_kind_may_j7_q (K : Bool → β) : β := (bif k_'' then (K (graph_kind_may_r8_p k_ k_' n_ in_)) else (bif k_''' then (K (graph_kind_may_r10_p k_ k_' n_ in_)) else (K (graph_kind_may_r6_p k_ k_' n_ in_))))
def graph_kind_may_j7_p : Bool := graph_kind_may_j7_q k_ k_' k_'' k_''' n_ in_ (fun y => y)
def graph_kind_may_r12_q (K : Bool → β) : β := (bif (graph_kind_may_j7_p k_ k_' k_'' k_''' n_ in_) then (K (graph_within n_.2.2.2.2.2.1 (1 : Int) (8 : Int))) else (K false))
def graph_kind_may_r12_p : Bool := graph_kind_may_r12_q k_ k_' k_'' k_''' n_ in_ (fun y => y)
def graph_kind_may_r13_q (K : Bool → β) : β := (bif (graph_kind_may_j7_p k_ k_' k_'' k_''' n_ in_) then (K (n_.2.2.2.2.2.1 == 0)) else (K false))
def graph_kind_may_r13_p : Bool := graph_kind_may_r13_q k_ k_' k_'' k_''' n_ in_ (fun y => y)
/-- (quilt/graph.kind).may -/
def graph_kind_may_q {β : Type} (k_ : Int) (k_' : Bool) (k_'' : Bool) (k_''' : Bool) (k_'''' : Bool) (k_''''' : Bool) (k_'''''' : (Unit ⊕ U3)) (k_''''''' : U0) (n_ : Node) (in_ : (List I4)) (K : Bool → β) : β := (bif k_'''' then (K (graph_kind_may_r12_p k_ k_' k_'' k_''' n_ in_)) else (K (graph_kind_may_r13_p k_ k_' k_'' k_''' n_ in_)))
def graph_kind_may : Bool := graph_kind_may_q k_ k_' k_'' k_''' k_'''' k_''''' k_'''''' k_''''''' n_ in_ (fun y => y)
noncomputable def cp10 : CallP := withP cp9 42 [(.aggs (.cons (.g (.int .i64)) (.cons (.g .bool) (.cons (.g .bool) (.cons (.g .bool) (.cons (.g .bool) (.cons (.g .bool) (.cons (.alt (.fn 53 .nil) (.alt (.fn 55 .nil) (.alt (.fn 58 .nil) (.alt (.fn 60 .nil) (.alt (.fn 62 .nil) (.alt (.fn 63 .nil) (.alt (.fn 64 .nil) (.alt (.fn 65 .nil) .nilFn)))))))) (.cons (.alt (.fn 54 .nil) (.alt (.fn 57 .nil) (.alt (.fn 59 .nil) (.alt (.fn 61 .nil) (.alt (.fn 66 .nil) .nilFn))))) .nil))))))))), (.agg tsNode), (pL tsI4)] false [pB] (fun x => graph_kind_may x.1.1 x.1.2.1 x.1.2.2.1 x.1.2.2.2.1 x.1.2.2.2.2.1 x.1.2.2.2.2.2.1 x.1.2.2.2.2.2.2.1 x.1.2.2.2.2.2.2.2.1 x.2.1 x.2.2.1)
theorem cp10_ok : PureOK E cp10 := conP (hn := (.l (.j (.x (.c (.l (.l (.c (.l (.l (.c .e .e))) .e))) .e)) true (.k [.r 7] (.j (.x (.c (.l (.l (.l (.c .e .e)))) .e)) true (.k [.r 7] (.j (.c (.j (.x (.c (.l (.l (.c .e .e))) .e)) true (.k [.r 7] .e .e)) (.j (.x (.c (.l (.l (.c .e .e))) .e)) true (.k [.r 7] .e .e))) true (.k [.r 7] (.j (.c (.j (.x (.c .e .e)) true (.k [.r 7] .e .e)) (.c (.j (.x (.c .e .e)) true (.k [.r 7] .e .e)) (.j (.x (.c .e .e)) true (.k [.r 7] .e .e)))) true (.k [.r 7] (.c (.j (.x (.c .e .e)) true (.k [.r 6] .e .e)) (.j (.x (.c .e .e)) true (.k [.r 6] .e .e))) .e)) .e)) .e)) .e)))) false eok cp9_ok noE_ok (fun x => by kernel_rfl) fun x => by kernel_rfl
end
section
variable {β : Type} (v_ : I4) (c1_ : Node)
/-- quilt/graph.Value$1 -/
def graph_Value_1_q (K : Bool → β) : β := (K (v_.2.2.2 != c1_.2.2.2.2.2.2.2.2.1))
def graph_Value_1 : Bool := graph_Value_1_q v_ c1_ (fun y => y)
noncomputable def cp11 : CallP := withP cp10 44 [(.agg tsI4), (.one Z2)] false [pB] (fun x => graph_Value_1 x.1 (x.2.1.1, x.2.1.2.1, x.2.1.2.2.1, x.2.1.2.2.2.1, x.2.1.2.2.2.2.1, x.2.1.2.2.2.2.2.1, x.2.1.2.2.2.2.2.2.1, x.2.1.2.2.2.2.2.2.2.1, x.2.1.2.2.2.2.2.2.2.2.1, x.2.1.2.2.2.2.2.2.2.2.2.1, x.2.1.2.2.2.2.2.2.2.2.2.2.1, x.2.1.2.2.2.2.2.2.2.2.2.2.2.1, x.2.1.2.2.2.2.2.2.2.2.2.2.2.2.1, x.2.1.2.2.2.2.2.2.2.2.2.2.2.2.2.1))
theorem cp11_ok : PureOK E cp11 := conP (hn := .e) false eok cp10_ok noE_ok (fun x => by kernel_rfl) fun x => by kernel_rfl
end
section
variable (s_ : (List I4)) (f_ : Node) (s102 : Int)
def slices_IndexFuncapi_Value_api_Value_r4_p : Option Unit := (bif (decide ((0 : Int) ≤ s102)) then (bif (decide (s102 < (s_.length : Int))) then (some ()) else none) else none)
def slices_IndexFuncapi_Value_api_Value_l2_p : Option (Int ⊕ (Int ⊕ Int)) := (bif (decide (s102 < (s_.length : Int))) then (Option.bind (slices_IndexFuncapi_Value_api_Value_r4_p s_ s102) (fun y104 : Unit => (bif (graph_Value_1 (gt s_ s102 dI4) f_) then (some (Sum.inr (Sum.inr s102))) else (some (Sum.inl (IntKind.wrap .i64 (s102 + 1))))))) else (some (Sum.inr (Sum.inl s102))))
/-- slices.IndexFunc[[]quilt/api.Value,quilt/api.Value] -/
def slices_IndexFuncapi_Value_api_Value : Option Int := (Option.bind (iterN (slices_IndexFuncapi_Value_api_Value_l2_p s_ f_) LL (0 : Int)) (either (fun y105 : Int => (some (-1 : Int))) (fun y106 : Int => (some y106))))
noncomputable def cp12 : CallP := withC cp11 67 [(pL tsI4), (.one (.fn 44 Z3))] false [pI] (fun x => slices_IndexFuncapi_Value_api_Value x.1 (x.2.1.1.1, x.2.1.1.2.1, x.2.1.1.2.2.1, x.2.1.1.2.2.2.1, x.2.1.1.2.2.2.2.1, x.2.1.1.2.2.2.2.2.1, x.2.1.1.2.2.2.2.2.2.1, x.2.1.1.2.2.2.2.2.2.2.1, x.2.1.1.2.2.2.2.2.2.2.2.1, x.2.1.1.2.2.2.2.2.2.2.2.2.1, x.2.1.1.2.2.2.2.2.2.2.2.2.2.1, x.2.1.1.2.2.2.2.2.2.2.2.2.2.2.1, x.2.1.1.2.2.2.2.2.2.2.2.2.2.2.2.1, x.2.1.1.2.2.2.2.2.2.2.2.2.2.2.2.2.1))
theorem cp12_ok : PureOK E cp12 := conC (hn := (.w (.c (.l (.l (.j .e false (.k [] (.c .e .e) .e)))) .e) [.r 8] (.k [.r 8] .e (.k [.r 4] .e .e)))) false eok cp11_ok noE_ok (fun x => by kernel_rfl) fun x => by kernel_rfl
end
/-- slices.ContainsFunc[[]quilt/api.Value,quilt/api.Value] -/
def slices_ContainsFuncapi_Value_api_Value (s_ : (List I4)) (f_ : Node) : Option Bool := (Option.bind (slices_IndexFuncapi_Value_api_Value s_ f_) (fun y107 : Int => (some (decide (y107 ≥ 0)))))
noncomputable def cp13 : CallP := withC cp12 43 [(pL tsI4), (.one (.fn 44 Z3))] false [pB] (fun x => slices_ContainsFuncapi_Value_api_Value x.1 (x.2.1.1.1, x.2.1.1.2.1, x.2.1.1.2.2.1, x.2.1.1.2.2.2.1, x.2.1.1.2.2.2.2.1, x.2.1.1.2.2.2.2.2.1, x.2.1.1.2.2.2.2.2.2.1, x.2.1.1.2.2.2.2.2.2.2.1, x.2.1.1.2.2.2.2.2.2.2.2.1, x.2.1.1.2.2.2.2.2.2.2.2.2.1, x.2.1.1.2.2.2.2.2.2.2.2.2.2.1, x.2.1.1.2.2.2.2.2.2.2.2.2.2.2.1, x.2.1.1.2.2.2.2.2.2.2.2.2.2.2.2.1, x.2.1.1.2.2.2.2.2.2.2.2.2.2.2.2.2.1))
theorem cp13_ok : PureOK E cp13 := conC (hn := .e) false eok cp12_ok noE_ok (fun x => by kernel_rfl) fun x => by kernel_rfl
/-- quilt/graph.Value$2 -/
def graph_Value_2 (v_ : I4) : Option Bool := (Option.bind (shape_May (v_.1, v_.2.1, v_.2.2.1)) (fun y113 : Int => (some (y113 != 0))))
noncomputable def cp14 : CallP := withC cp13 45 [(.agg tsI4)] false [pB] (fun x => graph_Value_2 x.1)
theorem cp14_ok : PureOK E cp14 := conC (hn := .e) false eok cp13_ok noE_ok (fun x => by kernel_rfl) fun x => by kernel_rfl
section
variable (s_ : (List I4)) (s130 : Int)
def slices_IndexFuncapi_Value_api_Value_s2_r4_p : Option Bool := (bif (decide ((0 : Int) ≤ s130)) then (bif (decide (s130 < (s_.length : Int))) then (Option.bind (graph_Value_2 (gt s_ s130 dI4)) (fun y133 : Bool => (some y133))) else none) else none)
def slices_IndexFuncapi_Value_api_Value_s2_l2_p : Option (Int ⊕ (Int ⊕ Int)) := (bif (decide (s130 < (s_.length : Int))) then (Option.bind (slices_IndexFuncapi_Value_api_Value_s2_r4_p s_ s130) (fun y134 : Bool => (bif y134 then (some (Sum.inr (Sum.inr s130))) else (some (Sum.inl (IntKind.wrap .i64 (s130 + 1))))))) else (some (Sum.inr (Sum.inl s130))))
/-- slices.IndexFunc[[]quilt/api.Value,quilt/api.Value] -/
def slices_IndexFuncapi_Value_api_Value_s2 : Option Int := (Option.bind (iterN (slices_IndexFuncapi_Value_api_Value_s2_l2_p s_) LL (0 : Int)) (either (fun y135 : Int => (some (-1 : Int))) (fun y136 : Int => (some y136))))
noncomputable def cp15 : CallP := withC cp14 67 [(pL tsI4), (.one (.fn 45 .nil))] false [pI] (fun x => slices_IndexFuncapi_Value_api_Value_s2 x.1)
theorem cp15_ok : PureOK E cp15 := conC (hn := (.w (.c (.l (.l (.j .e false (.k [.r 16] (.c .e .e) .e)))) .e) [.r 8] (.k [.r 8] .e (.k [.r 4] .e .e)))) false eok cp14_ok noE_ok (fun x => by kernel_rfl) fun x => by kernel_rfl
end
/-- slices.ContainsFunc[[]quilt/api.Value,quilt/api.Value] -/
def slices_ContainsFuncapi_Value_api_Value_s2 (s_ : (List I4)) : Option Bool := (Option.bind (slices_IndexFuncapi_Value_api_Value_s2 s_) (fun y137 : Int => (some (decide (y137 ≥ 0)))))
noncomputable def cp16 : CallP := withC cp15 43 [(pL tsI4), (.one (.fn 45 .nil))] false [pB] (fun x => slices_ContainsFuncapi_Value_api_Value_s2 x.1)
theorem cp16_ok : PureOK E cp16 := conC (hn := .e) false eok cp15_ok noE_ok (fun x => by kernel_rfl) fun x => by kernel_rfl
section
variable {β : Type} (a0 : Node) (a_ : I3) (a2 : I3)
/-- quilt/graph.first -/
def graph_first_q {β : Type} (a0 : Node) (a_ : I3) (a2 : I3) (K : I3 → β) : β := (K a_)
def graph_first : I3 := graph_first_q a0 a_ a2 (fun y => y)
noncomputable def cp17 : CallP := withP cp16 53 [(.agg tsNode), (.agg tsI3), (.agg tsI3)] false [(.agg tsI3)] (fun x => graph_first x.1 x.2.1 x.2.2.1)
theorem cp17_ok : PureOK E cp17 := conP (hn := .e) false eok cp16_ok noE_ok (fun x => by kernel_rfl) fun x => by kernel_rfl
end
section
variable (size : Int) (k_ : Int) (stride : Int) (pad : Int)
def shape_Out_r1_p : Option Bool := (Option.bind (shape_within_1 [size] (((shape_within (1 : Int) (64 : Int)).1).1) (((shape_within (1 : Int) (64 : Int)).2.1).1)) (fun y146 : Bool => (bif (!y146) then (some true) else (Option.bind (shape_within_1 [k_, stride] (((shape_within (1 : Int) (16 : Int)).1).1) (((shape_within (1 : Int) (16 : Int)).2.1).1)) (fun y147 : Bool => (bif (!y147) then (some true) else (Option.bind (shape_within_1 [pad] (((shape_within (0 : Int) (16 : Int)).1).1) (((shape_within (0 : Int) (16 : Int)).2.1).1)) (fun y148 : Bool => (bif (!y148) then (some true) else (some (decide (k_ > (IntKind.wrap .i64 (size + (IntKind.wrap .i64 ((2 : Int) * pad))))))))))))))))
def shape_Out_r3_p : Option Int := (bif (stride == 0) then none else (some (IntKind.wrap .i64 ((1 : Int) + (IntKind.wrap .i64 (Int.tdiv (IntKind.wrap .i64 ((IntKind.wrap .i64 (size + (IntKind.wrap .i64 ((2 : Int) * pad)))) - k_)) stride))))))
/-- quilt/shape.Out -/
def shape_Out : Option Int := (Option.bind (shape_Out_r1_p size k_ stride pad) (fun y149 : Bool => (bif y149 then (some (0 : Int)) else (Option.bind (shape_Out_r3_p size k_ stride pad) (fun y150 : Int => (some y150))))))
noncomputable def cp18 : CallP := withC cp17 82 [pI, pI, pI, pI] false [pI] (fun x => shape_Out x.1 x.2.1 x.2.2.1 x.2.2.2.1)
theorem cp18_ok : PureOK E cp18 := conC (hn := (.l (.l (.j (.x (.c .e (.l (.l (.l (.l (.l (.c .e (.l (.l (.l (.l (.c .e .e))))))))))))) false (.k [.r 36] (.c .e (.j (.x (.c .e .e)) false (.k [.r 8] .e .e))) .e))))) false eok cp17_ok noE_ok (fun x => by kernel_rfl) fun x => by kernel_rfl
end
section
variable (n_ : Node) (s_ : I3)
def graph_slid_r1_p : Option (Int × Int) := (Option.bind (shape_Out s_.1 n_.2.2.1 n_.2.2.2.1 n_.2.2.2.2.1) (fun y151 : Int => (Option.bind (shape_Out s_.2.1 n_.2.2.1 n_.2.2.2.1 n_.2.2.2.2.1) (fun y152 : Int => (some (y151, y152))))))
/-- quilt/graph.slid -/
def graph_slid (c_ : Int) : Option I3 := (Option.bind (graph_slid_r1_p n_ s_) (fun y153 : (Int × Int) => (some (y153.1, y153.2, c_))))
noncomputable def cp19 : CallP := withC cp18 56 [(.agg tsNode), (.agg tsI3), pI] false [(.agg tsI3)] (fun x => graph_slid x.1 x.2.1 x.2.2.1)
theorem cp19_ok : PureOK E cp19 := conC (hn := (.l (.j .e false (.k [.h 0 0, .h 0 1] .e .e)))) false eok cp18_ok noE_ok (fun x => by kernel_rfl) fun x => by kernel_rfl
end
/-- quilt/graph.of$1 -/
def graph_of_1 (n_ : Node) (a_ : I3) (a2 : I3) : Option I3 := (Option.bind (graph_slid n_ a_ n_.2.2.2.2.2.1) (fun y154 : I3 => (some y154)))
noncomputable def cp20 : CallP := withC cp19 55 [(.agg tsNode), (.agg tsI3), (.agg tsI3)] false [(.agg tsI3)] (fun x => graph_of_1 x.1 x.2.1 x.2.2.1)
theorem cp20_ok : PureOK E cp20 := conC (hn := .e) false eok cp19_ok noE_ok (fun x => by kernel_rfl) fun x => by kernel_rfl
/-- quilt/graph.pooled -/
def graph_pooled (n_ : Node) (a_ : I3) (a2 : I3) : Option I3 := (Option.bind (graph_slid n_ a_ a_.2.2) (fun y157 : I3 => (some y157)))
noncomputable def cp21 : CallP := withC cp20 58 [(.agg tsNode), (.agg tsI3), (.agg tsI3)] false [(.agg tsI3)] (fun x => graph_pooled x.1 x.2.1 x.2.2.1)
theorem cp21_ok : PureOK E cp21 := conC (hn := .e) false eok cp20_ok noE_ok (fun x => by kernel_rfl) fun x => by kernel_rfl
section
variable {β : Type} (n_ : Node) (a1 : I3) (a2 : I3)
/-- quilt/graph.of$4 -/
def graph_of_4_q {β : Type} (n_ : Node) (a1 : I3) (a2 : I3) (K : I3 → β) : β := (K ((1 : Int), (1 : Int), n_.2.2.2.2.2.1))
def graph_of_4 : I3 := graph_of_4_q n_ a1 a2 (fun y => y)
noncomputable def cp22 : CallP := withP cp21 60 [(.agg tsNode), (.agg tsI3), (.agg tsI3)] false [(.agg tsI3)] (fun x => graph_of_4 x.1 x.2.1 x.2.2.1)
theorem cp22_ok : PureOK E cp22 := conP (hn := .e) false eok cp21_ok noE_ok (fun x => by kernel_rfl) fun x => by kernel_rfl
end
section
variable {β : Type} (a0 : Node) (a_ : I3) (b_ : I3)
/-- quilt/graph.same -/
def graph_same_q {β : Type} (a0 : Node) (a_ : I3) (b_ : I3) (K : I3 → β) : β := (bif (!((a_.1 == b_.1) && ((a_.2.1 == b_.2.1) && ((a_.2.2 == b_.2.2) && true)))) then (K ((0 : Int), (0 : Int), (0 : Int))) else (K a_))
def graph_same : I3 := graph_same_q a0 a_ b_ (fun y => y)
noncomputable def cp23 : CallP := withP cp22 62 [(.agg tsNode), (.agg tsI3), (.agg tsI3)] false [(.agg tsI3)] (fun x => graph_same x.1 x.2.1 x.2.2.1)
theorem cp23_ok : PureOK E cp23 := conP (hn := (.c .e .e)) false eok cp22_ok noE_ok (fun x => by kernel_rfl) fun x => by kernel_rfl
end
section
variable {β : Type} (a0 : Node) (a_ : I3) (a2 : I3)
/-- quilt/graph.of$6 -/
def graph_of_6_q {β : Type} (a0 : Node) (a_ : I3) (a2 : I3) (K : I3 → β) : β := (K ((IntKind.wrap .i64 (a_.1 + 2)), (IntKind.wrap .i64 (a_.2.1 + 2)), a_.2.2))
def graph_of_6 : I3 := graph_of_6_q a0 a_ a2 (fun y => y)
noncomputable def cp24 : CallP := withP cp23 63 [(.agg tsNode), (.agg tsI3), (.agg tsI3)] false [(.agg tsI3)] (fun x => graph_of_6 x.1 x.2.1 x.2.2.1)
theorem cp24_ok : PureOK E cp24 := conP (hn := .e) false eok cp23_ok noE_ok (fun x => by kernel_rfl) fun x => by kernel_rfl
end
section
variable {β : Type} (a0 : Node) (a_ : I3) (b_ : I3)
def graph_beside_r1_q (K : Bool → β) : β := (bif (a_.1 != b_.1) then (K true) else (K (a_.2.1 != b_.2.1)))
def graph_beside_r1_p : Bool := graph_beside_r1_q a_ b_ (fun y => y)
/-- quilt/graph.beside -/
def graph_beside_q {β : Type} (a0 : Node) (a_ : I3) (b_ : I3) (K : I3 → β) : β := (bif (graph_beside_r1_p a_ b_) then (K ((0 : Int), (0 : Int), (0 : Int))) else (K (a_.1, a_.2.1, (IntKind.wrap .i64 (a_.2.2 + b_.2.2)))))
def graph_beside : I3 := graph_beside_q a0 a_ b_ (fun y => y)
noncomputable def cp25 : CallP := withP cp24 64 [(.agg tsNode), (.agg tsI3), (.agg tsI3)] false [(.agg tsI3)] (fun x => graph_beside x.1 x.2.1 x.2.2.1)
theorem cp25_ok : PureOK E cp25 := conP (hn := (.l (.l (.j (.x (.c .e .e)) true (.k [.r 18] (.c .e .e) .e))))) false eok cp24_ok noE_ok (fun x => by kernel_rfl) fun x => by kernel_rfl
end
/-- quilt/shape.Row -/
def shape_Row (s_ : I3) : Option Int := (Option.bind (shape_may s_) (fun y165 : Bool => (bif (!y165) then (some (0 : Int)) else (some (IntKind.wrap .i64 (s_.2.1 * s_.2.2))))))
noncomputable def cp26 : CallP := withC cp25 48 [(.agg tsI3)] false [pI] (fun x => shape_Row x.1)
theorem cp26_ok : PureOK E cp26 := conC (hn := (.c .e .e)) false eok cp25_ok noE_ok (fun x => by kernel_rfl) fun x => by kernel_rfl
/-- quilt/shape.Size -/
def shape_Size (s_ : I3) : Option Int := (Option.bind (shape_Row s_) (fun y166 : Int => (some (IntKind.wrap .i64 (y166 * s_.1)))))
noncomputable def cp27 : CallP := withC cp26 32 [(.agg tsI3)] false [pI] (fun x => shape_Size x.1)
theorem cp27_ok : PureOK E cp27 := conC (hn := .e) false eok cp26_ok noE_ok (fun x => by kernel_rfl) fun x => by kernel_rfl
section
variable (n_ : Node) (a_ : I3)
def graph_anew_r1_p : Option Bool := (Option.bind (shape_Size (n_.2.2.2.2.2.2.2.2.2.1, n_.2.2.2.2.2.2.2.2.2.2.1, n_.2.2.2.2.2.2.2.2.2.2.2.1)) (fun y170 : Int => (Option.bind (shape_Size a_) (fun y171 : Int => (some (y170 != y171))))))
/-- quilt/graph.anew -/
def graph_anew (a2 : I3) : Option I3 := (Option.bind (graph_anew_r1_p n_ a_) (fun y172 : Bool => (bif y172 then (some ((0 : Int), (0 : Int), (0 : Int))) else (some (n_.2.2.2.2.2.2.2.2.2.1, n_.2.2.2.2.2.2.2.2.2.2.1, n_.2.2.2.2.2.2.2.2.2.2.2.1)))))
noncomputable def cp28 : CallP := withC cp27 65 [(.agg tsNode), (.agg tsI3), (.agg tsI3)] false [(.agg tsI3)] (fun x => graph_anew x.1 x.2.1 x.2.2.1)
theorem cp28_ok : PureOK E cp28 := conC (hn := (.l (.l (.j .e false (.k [.r 12] (.c .e .e) .e))))) false eok cp27_ok noE_ok (fun x => by kernel_rfl) fun x => by kernel_rfl
end
section
variable {β : Type} (a0_ : Node) (a1_ : I3)
/-- quilt/graph.bare -/
def graph_bare_q {β : Type} (a0_ : Node) (a1_ : I3) (K : (Int × Int) → β) : β := (K ((0 : Int), (0 : Int)))
def graph_bare : (Int × Int) := graph_bare_q a0_ a1_ (fun y => y)
noncomputable def cp29 : CallP := withP cp28 54 [(.agg tsNode), (.agg tsI3)] true [pI, pI] (fun x => graph_bare x.1 x.2.1)
theorem cp29_ok : PureOK E cp29 := conP (hn := .e) false eok cp28_ok noE_ok (fun x => by kernel_rfl) fun x => by kernel_rfl
end
section
variable {β : Type} (n_ : Node) (s_ : I3)
def graph_of_2_r1_q (K : Int → β) : β := (K (IntKind.wrap .i64 ((IntKind.wrap .i64 ((IntKind.wrap .i64 (n_.2.2.1 * n_.2.2.1)) * s_.2.2)) * n_.2.2.2.2.2.1)))
def graph_of_2_r1_p : Int := graph_of_2_r1_q n_ s_ (fun y => y)
/-- quilt/graph.of$2 -/
def graph_of_2_q (K : (Int × Int) → β) : β := (K ((graph_of_2_r1_p n_ s_), n_.2.2.2.2.2.1))
def graph_of_2 : (Int × Int) := graph_of_2_q n_ s_ (fun y => y)
noncomputable def cp30 : CallP := withP cp29 57 [(.agg tsNode), (.agg tsI3)] true [pI, pI] (fun x => graph_of_2 x.1 x.2.1)
theorem cp30_ok : PureOK E cp30 := conP (hn := (.l (.j .e true (.k [.r 4] .e .e)))) false eok cp29_ok noE_ok (fun x => by kernel_rfl) fun x => by kernel_rfl
end
section
variable {β : Type} (n_ : Node) (s_ : I3)
/-- quilt/graph.of$3 -/
def graph_of_3_q (K : (Int × Int) → β) : β := (K ((IntKind.wrap .i64 ((IntKind.wrap .i64 (n_.2.2.1 * n_.2.2.1)) * s_.2.2)), s_.2.2))
def graph_of_3 : (Int × Int) := graph_of_3_q n_ s_ (fun y => y)
noncomputable def cp31 : CallP := withP cp30 59 [(.agg tsNode), (.agg tsI3)] true [pI, pI] (fun x => graph_of_3 x.1 x.2.1)
theorem cp31_ok : PureOK E cp31 := conP (hn := .e) false eok cp30_ok noE_ok (fun x => by kernel_rfl) fun x => by kernel_rfl
end
/-- quilt/graph.of$5 -/
def graph_of_5 (n_ : Node) (s_ : I3) : Option (Int × Int) := (Option.bind (shape_Size s_) (fun y182 : Int => (some ((IntKind.wrap .i64 (y182 * n_.2.2.2.2.2.1)), n_.2.2.2.2.2.1))))
noncomputable def cp32 : CallP := withC cp31 61 [(.agg tsNode), (.agg tsI3)] true [pI, pI] (fun x => graph_of_5 x.1 x.2.1)
theorem cp32_ok : PureOK E cp32 := conC (hn := .e) false eok cp31_ok noE_ok (fun x => by kernel_rfl) fun x => by kernel_rfl
section
variable {β : Type} (a0_ : Node) (a1_ : I3)
/-- quilt/graph.of$7 -/
def graph_of_7_q {β : Type} (a0_ : Node) (a1_ : I3) (K : (Int × Int) → β) : β := (K ((256 : Int), (0 : Int)))
def graph_of_7 : (Int × Int) := graph_of_7_q a0_ a1_ (fun y => y)
noncomputable def cp33 : CallP := withP cp32 66 [(.agg tsNode), (.agg tsI3)] true [pI, pI] (fun x => graph_of_7 x.1 x.2.1)
theorem cp33_ok : PureOK E cp33 := conP (hn := .e) false eok cp32_ok noE_ok (fun x => by kernel_rfl) fun x => by kernel_rfl
end
/-- quilt/graph.Value$3 -/
def graph_Value_3_q {β : Type} (x_ : Int) (K : Bool → β) : β := (K (!(graph_within (IntKind.wrap .i64 x_) (-16777216 : Int) (16777216 : Int))))
def graph_Value_3 (x_ : Int) : Bool := graph_Value_3_q x_ (fun y => y)
noncomputable def cp34 : CallP := withP cp33 47 [(.one (.g (.int .i32)))] false [pB] (fun x => graph_Value_3 x.1)
theorem cp34_ok : PureOK E cp34 := conP (hn := .e) false eok cp33_ok noE_ok (fun x => by kernel_rfl) fun x => by kernel_rfl
section
variable (s_ : (List Int)) (s198 : Int)
def slices_IndexFuncint32_int32_r4_p : Option Unit := (bif (decide ((0 : Int) ≤ s198)) then (bif (decide (s198 < (s_.length : Int))) then (some ()) else none) else none)
def slices_IndexFuncint32_int32_l2_p : Option (Int ⊕ (Int ⊕ Int)) := (bif (decide (s198 < (s_.length : Int))) then (Option.bind (slices_IndexFuncint32_int32_r4_p s_ s198) (fun y200 : Unit => (bif (graph_Value_3 (gt s_ s198 (0 : Int))) then (some (Sum.inr (Sum.inr s198))) else (some (Sum.inl (IntKind.wrap .i64 (s198 + 1))))))) else (some (Sum.inr (Sum.inl s198))))
/-- slices.IndexFunc[[]int32,int32] -/
def slices_IndexFuncint32_int32 : Option Int := (Option.bind (iterN (slices_IndexFuncint32_int32_l2_p s_) LL (0 : Int)) (either (fun y201 : Int => (some (-1 : Int))) (fun y202 : Int => (some y202))))
noncomputable def cp35 : CallP := withC cp34 68 [(.one (.g (.sl (.one (.int .i32))))), (.one (.fn 47 .nil))] false [pI] (fun x => slices_IndexFuncint32_int32 x.1)
theorem cp35_ok : PureOK E cp35 := conC (hn := (.w (.c (.l (.l (.j .e false (.k [] (.c .e .e) .e)))) .e) [.r 8] (.k [.r 8] .e (.k [.r 4] .e .e)))) false eok cp34_ok noE_ok (fun x => by kernel_rfl) fun x => by kernel_rfl
end
/-- slices.ContainsFunc[[]int32,int32] -/
def slices_ContainsFuncint32_int32 (s_ : (List Int)) : Option Bool := (Option.bind (slices_IndexFuncint32_int32 s_) (fun y203 : Int => (some (decide (y203 ≥ 0)))))
noncomputable def cp36 : CallP := withC cp35 46 [(.one (.g (.sl (.one (.int .i32))))), (.one (.fn 47 .nil))] false [pB] (fun x => slices_ContainsFuncint32_int32 x.1)
theorem cp36_ok : PureOK E cp36 := conC (hn := .e) false eok cp35_ok noE_ok (fun x => by kernel_rfl) fun x => by kernel_rfl
section
variable {β : Type} (n_ : Node) (in_ : (List I4)) (y90 : U10)
def graph_Value_r2_q (K : Bool → β) : β := (bif (!y90.2) then (K true) else (K (!(graph_kind_may y90.1.1 y90.1.2.1 y90.1.2.2.1 y90.1.2.2.2.1 y90.1.2.2.2.2.1 y90.1.2.2.2.2.2.1 y90.1.2.2.2.2.2.2.1 y90.1.2.2.2.2.2.2.2.1 n_ in_))))
def graph_Value_r2_p : Bool := graph_Value_r2_q n_ in_ y90 (fun y => y)
def graph_Value_r4_p : Option Bool := (bif y90.1.2.2.2.2.2.1 then (Option.bind (slices_ContainsFuncapi_Value_api_Value in_ n_) (fun y110 : Bool => (some y110))) else (some false))
def graph_Value_r8_p : Option (Int × Int × Int) := (bif (decide ((0 : Int) < (in_.length : Int))) then (bif (decide ((0 : Int) ≤ (IntKind.wrap .i64 ((in_.length : Int) - 1)))) then (bif (decide ((IntKind.wrap .i64 ((in_.length : Int) - 1)) < (in_.length : Int))) then ((either (fun u140 : Unit => (some (graph_first n_ ((gt in_ (0 : Int) dI4).1, (gt in_ (0 : Int) dI4).2.1, (gt in_ (0 : Int) dI4).2.2.1) ((gt in_ (IntKind.wrap .i64 ((in_.length : Int) - 1)) dI4).1, (gt in_ (IntKind.wrap .i64 ((in_.length : Int) - 1)) dI4).2.1, (gt in_ (IntKind.wrap .i64 ((in_.length : Int) - 1)) dI4).2.2.1)))) (either (fun u141 : Unit => (Option.bind (graph_of_1 n_ ((gt in_ (0 : Int) dI4).1, (gt in_ (0 : Int) dI4).2.1, (gt in_ (0 : Int) dI4).2.2.1) ((gt in_ (IntKind.wrap .i64 ((in_.length : Int) - 1)) dI4).1, (gt in_ (IntKind.wrap .i64 ((in_.length : Int) - 1)) dI4).2.1, (gt in_ (IntKind.wrap .i64 ((in_.length : Int) - 1)) dI4).2.2.1)) (fun y155 : I3 => (some y155)))) (either (fun u156 : Unit => (Option.bind (graph_pooled n_ ((gt in_ (0 : Int) dI4).1, (gt in_ (0 : Int) dI4).2.1, (gt in_ (0 : Int) dI4).2.2.1) ((gt in_ (IntKind.wrap .i64 ((in_.length : Int) - 1)) dI4).1, (gt in_ (IntKind.wrap .i64 ((in_.length : Int) - 1)) dI4).2.1, (gt in_ (IntKind.wrap .i64 ((in_.length : Int) - 1)) dI4).2.2.1)) (fun y158 : I3 => (some y158)))) (either (fun u159 : Unit => (some (graph_of_4 n_ ((gt in_ (0 : Int) dI4).1, (gt in_ (0 : Int) dI4).2.1, (gt in_ (0 : Int) dI4).2.2.1) ((gt in_ (IntKind.wrap .i64 ((in_.length : Int) - 1)) dI4).1, (gt in_ (IntKind.wrap .i64 ((in_.length : Int) - 1)) dI4).2.1, (gt in_ (IntKind.wrap .i64 ((in_.length : Int) - 1)) dI4).2.2.1)))) (either (fun u160 : Unit => (some (graph_same n_ ((gt in_ (0 : Int) dI4).1, (gt in_ (0 : Int) dI4).2.1, (gt in_ (0 : Int) dI4).2.2.1) ((gt in_ (IntKind.wrap .i64 ((in_.length : Int) - 1)) dI4).1, (gt in_ (IntKind.wrap .i64 ((in_.length : Int) - 1)) dI4).2.1, (gt in_ (IntKind.wrap .i64 ((in_.length : Int) - 1)) dI4).2.2.1)))) (either (fun u161 : Unit => (some (graph_of_6 n_ ((gt in_ (0 : Int) dI4).1, (gt in_ (0 : Int) dI4).2.1, (gt in_ (0 : Int) dI4).2.2.1) ((gt in_ (IntKind.wrap .i64 ((in_.length : Int) - 1)) dI4).1, (gt in_ (IntKind.wrap .i64 ((in_.length : Int) - 1)) dI4).2.1, (gt in_ (IntKind.wrap .i64 ((in_.length : Int) - 1)) dI4).2.2.1)))) (either (fun u162 : Unit => (some (graph_beside n_ ((gt in_ (0 : Int) dI4).1, (gt in_ (0 : Int) dI4).2.1, (gt in_ (0 : Int) dI4).2.2.1) ((gt in_ (IntKind.wrap .i64 ((in_.length : Int) - 1)) dI4).1, (gt in_ (IntKind.wrap .i64 ((in_.length : Int) - 1)) dI4).2.1, (gt in_ (IntKind.wrap .i64 ((in_.length : Int) - 1)) dI4).2.2.1)))) (either (fun u163 : Unit => (Option.bind (graph_anew n_ ((gt in_ (0 : Int) dI4).1, (gt in_ (0 : Int) dI4).2.1, (gt in_ (0 : Int) dI4).2.2.1) ((gt in_ (IntKind.wrap .i64 ((in_.length : Int) - 1)) dI4).1, (gt in_ (IntKind.wrap .i64 ((in_.length : Int) - 1)) dI4).2.1, (gt in_ (IntKind.wrap .i64 ((in_.length : Int) - 1)) dI4).2.2.1)) (fun y173 : I3 => (some y173)))) (fun u174 : Unit => none))))))))) y90.1.2.2.2.2.2.2.1) else none) else none) else none)
def graph_Value_r11_p : Option (Int × Int) := (bif (decide ((0 : Int) < (in_.length : Int))) then ((either (fun u178 : Unit => (some (graph_bare n_ ((gt in_ (0 : Int) dI4).1, (gt in_ (0 : Int) dI4).2.1, (gt in_ (0 : Int) dI4).2.2.1)))) (either (fun u179 : Unit => (some (graph_of_2 n_ ((gt in_ (0 : Int) dI4).1, (gt in_ (0 : Int) dI4).2.1, (gt in_ (0 : Int) dI4).2.2.1)))) (either (fun u180 : Unit => (some (graph_of_3 n_ ((gt in_ (0 : Int) dI4).1, (gt in_ (0 : Int) dI4).2.1, (gt in_ (0 : Int) dI4).2.2.1)))) (either (fun u181 : Unit => (Option.bind (graph_of_5 n_ ((gt in_ (0 : Int) dI4).1, (gt in_ (0 : Int) dI4).2.1, (gt in_ (0 : Int) dI4).2.2.1)) (fun y183 : (Int × Int) => (some y183)))) (either (fun u184 : Unit => (some (graph_of_7 n_ ((gt in_ (0 : Int) dI4).1, (gt in_ (0 : Int) dI4).2.1, (gt in_ (0 : Int) dI4).2.2.1)))) (fun u185 : Unit => none)))))) y90.1.2.2.2.2.2.2.2.1) else none)
def graph_Value_r12_p (y186 : (Int × Int)) : Option Bool := (bif ((n_.2.2.2.2.2.2.2.2.2.2.2.2.1.length : Int) != y186.1) then (some true) else (bif ((n_.2.2.2.2.2.2.2.2.2.2.2.2.2.length : Int) != y186.2) then (some true) else (Option.bind (slices_ContainsFuncint32_int32 n_.2.2.2.2.2.2.2.2.2.2.2.2.2) (fun y206 : Bool => (some y206)))))
/-- quilt/graph.Value -/
def graph_Value : Option (I4 × Int) := (Option.bind (graph_of n_.1) (fun y90 : U10 => (bif (graph_Value_r2_p n_ in_ y90) then (some (((0 : Int), (0 : Int), (0 : Int), (0 : Int)), (11 : Int))) else (Option.bind (graph_Value_r4_p n_ in_ y90) (fun y111 : Bool => (bif y111 then (some (((0 : Int), (0 : Int), (0 : Int), (0 : Int)), (11 : Int))) else (Option.bind (slices_ContainsFuncapi_Value_api_Value_s2 in_) (fun y139 : Bool => (bif y139 then (some (((0 : Int), (0 : Int), (0 : Int), (0 : Int)), (10 : Int))) else (Option.bind (graph_Value_r8_p n_ in_ y90) (fun y175 : (Int × Int × Int) => (Option.bind (shape_May y175) (fun y177 : Int => (bif (y177 != 0) then (some (((0 : Int), (0 : Int), (0 : Int), (0 : Int)), (10 : Int))) else (Option.bind (graph_Value_r11_p n_ in_ y90) (fun y186 : (Int × Int) => (Option.bind (graph_Value_r12_p n_ y186) (fun y207 : Bool => (bif y207 then (some (((0 : Int), (0 : Int), (0 : Int), (0 : Int)), (12 : Int))) else (some ((y175.1, y175.2.1, y175.2.2, n_.2.2.2.2.2.2.2.2.1), (0 : Int))))))))))))))))))))))
noncomputable def cp37 : CallP := withC cp36 29 [(.agg tsNode), (pL tsI4)] true [(.agg tsI4), pI] (fun x => graph_Value x.1 x.2.1)
theorem cp37_ok : PureOK E cp37 := conC (hn := (.l (.l (.l (.j (.x (.c .e .e)) true (.k [.r 25] (.c .e (.l (.j (.x (.c .e .e)) false (.k [.r 33] (.c .e (.c .e (.j .e false (.k [.h 2 0, .h 2 1, .h 2 2] (.c .e (.j .e false (.k [.r 9, .r 10] (.l (.j (.x (.c .e (.l (.l (.l (.l (.c .e .e))))))) false (.k [.r 84] (.c .e .e) .e))) .e))) .e)))) .e)))) .e)))))) false eok cp36_ok noE_ok (fun x => by kernel_rfl) fun x => by kernel_rfl
end
section
variable (g_ : Graph) (s235 : ((List I4) × Int × Int))
def graph_Values_r7_p : Option Unit := (bif (decide ((0 : Int) ≤ s235.2.2)) then (bif (decide (s235.2.2 < (g_.2.1.length : Int))) then (some ()) else none) else none)
def graph_Values_r14_p (y242 : (I4 × Int)) : Option Int := (bif (decide (s235.1.length + ([y242.1] : List I4).length ≤ maxL)) then (some (IntKind.wrap .i64 (s235.2.1 + (((gt g_.2.1 s235.2.2 dNode).2.2.2.2.2.2.2.2.2.2.2.2.1).length : Int)))) else none)
def graph_Values_l6_p : Option (((List I4) × Int × Int) ⊕ (((List I4) × Int × Int) ⊕ (Unit ⊕ Int))) := (bif (decide (s235.2.2 < (g_.2.1.length : Int))) then (Option.bind (graph_Values_r7_p g_ s235) (fun y240 : Unit => (Option.bind (graph_picked s235.1 ((gt g_.2.1 s235.2.2 dNode).2.1)) (fun y241 : ((List I4) × Bool) => (bif (!y241.2) then (some (Sum.inr (Sum.inr (Sum.inl ())))) else (Option.bind (graph_Value (gt g_.2.1 s235.2.2 dNode) y241.1) (fun y242 : (I4 × Int) => (bif (y242.2 != 0) then (some (Sum.inr (Sum.inr (Sum.inr y242.2)))) else (Option.bind (graph_Values_r14_p g_ s235 y242) (fun y243 : Int => (some (Sum.inl ((s235.1 ++ [y242.1]), y243, (IntKind.wrap .i64 (s235.2.2 + 1))))))))))))))) else (some (Sum.inr (Sum.inl s235))))
/-- quilt/graph.Values -/
def graph_Values : Option ((List I4) × Int) := (Option.bind (graph_goesIn g_) (fun y47 : ((List I4) × Int) => (bif (y47.2 != 0) then (some ([], y47.2)) else (Option.bind (iterN (graph_Values_l6_p g_) LL (y47.1, (0 : Int), (0 : Int))) (either (fun y244 : ((List I4) × Int × Int) => (bif (decide (y244.2.1 > 4096)) then (some ([], (3 : Int))) else (Option.bind (graph_picked y244.1 g_.2.2) (fun y248 : ((List I4) × Bool) => (bif (!y248.2) then (some ([], (13 : Int))) else (some (y244.1, (0 : Int)))))))) (either (fun y245 : Unit => (some ([], (13 : Int)))) (fun y246 : Int => (some ([], y246)))))))))
noncomputable def cp38 : CallP := withC cp37 19 [(.agg tsGraph)] true [(.one (.ow tsI4)), pI] (fun x => graph_Values x.1)
theorem cp38_ok : PureOK E cp38 := conC (hn := (.c .e (.w (.c (.l (.j .e false (.k [] (.c .e (.c .e (.j .e false (.k [.r 6] .e .e)))) .e))) .e) [.r 4, .r 6, .r 26] (.k [.r 4, .r 6, .r 26] (.c .e (.c .e .e)) (.k [] .e (.k [.r 3] .e .e)))))) true eok cp37_ok noE_ok (fun x => by kernel_rfl) fun x => by kernel_rfl
end
/-- quilt/eval.fits$1 -/
def eval_fits_1 (v_ : I4) (l_ : (List Int)) : Option Bool := (Option.bind (shape_Size (v_.1, v_.2.1, v_.2.2.1)) (fun y253 : Int => (some (y253 == (l_.length : Int)))))
noncomputable def cp39 : CallP := withC cp38 31 [(.agg tsI4), (.one (.g (.sl (.one (.int .i8)))))] false [pB] (fun x => eval_fits_1 x.1 x.2.1)
theorem cp39_ok : PureOK E cp39 := conC (hn := .e) false eok cp38_ok noE_ok (fun x => by kernel_rfl) fun x => by kernel_rfl
section
variable (s1_ : (List I4)) (s2_ : (List (List Int))) (s274 : Int)
def slices_EqualFuncapi_Value_int8_api_Value_int8_r5_p : Option Unit := (bif (decide ((0 : Int) ≤ s274)) then (bif (decide (s274 < (s1_.length : Int))) then (some ()) else none) else none)
def slices_EqualFuncapi_Value_int8_api_Value_int8_r6_p : Option Unit := (bif (decide ((0 : Int) ≤ s274)) then (bif (decide (s274 < (s2_.length : Int))) then (some ()) else none) else none)
def slices_EqualFuncapi_Value_int8_api_Value_int8_l4_p : Option (Int ⊕ (Int ⊕ Unit)) := (bif (decide (s274 < (s1_.length : Int))) then (Option.bind (slices_EqualFuncapi_Value_int8_api_Value_int8_r5_p s1_ s274) (fun y278 : Unit => (Option.bind (slices_EqualFuncapi_Value_int8_api_Value_int8_r6_p s2_ s274) (fun y279 : Unit => (Option.bind (eval_fits_1 (gt s1_ s274 dI4) (gt s2_ s274 [])) (fun y280 : Bool => (bif (!y280) then (some (Sum.inr (Sum.inr ()))) else (some (Sum.inl (IntKind.wrap .i64 (s274 + 1))))))))))) else (some (Sum.inr (Sum.inl s274))))
/-- slices.EqualFunc[[]quilt/api.Value,[][]int8,quilt/api.Value,[]int8] -/
def slices_EqualFuncapi_Value_int8_api_Value_int8 : Option Bool := (bif ((s1_.length : Int) != (s2_.length : Int)) then (some false) else (Option.bind (iterN (slices_EqualFuncapi_Value_int8_api_Value_int8_l4_p s1_ s2_) LL (0 : Int)) (either (fun y281 : Int => (some true)) (fun y282 : Unit => (some false)))))
noncomputable def cp40 : CallP := withC cp39 30 [(pL tsI4), (.one (.g (.sl (.one (.sl (.one (.int .i8))))))), (.one (.fn 31 .nil))] false [pB] (fun x => slices_EqualFuncapi_Value_int8_api_Value_int8 x.1 x.2.1)
theorem cp40_ok : PureOK E cp40 := conC (hn := (.c .e (.w (.c (.l (.j .e false (.k [] (.j .e false (.k [] (.c .e .e) .e)) .e))) .e) [.r 17] (.k [.r 17] .e (.k [] .e .e))))) false eok cp39_ok noE_ok (fun x => by kernel_rfl) fun x => by kernel_rfl
end
/-- quilt/eval.fits -/
def eval_fits (vals : (List I4)) (ins : (List (List Int))) : Option Bool := (Option.bind (slices_EqualFuncapi_Value_int8_api_Value_int8 vals ins) (fun y283 : Bool => (some y283)))
noncomputable def cp41 : CallP := withC cp40 20 [(pL tsI4), (.one (.g (.sl (.one (.sl (.one (.int .i8)))))))] false [pB] (fun x => eval_fits x.1 x.2.1)
theorem cp41_ok : PureOK E cp41 := conC (hn := .e) false eok cp40_ok noE_ok (fun x => by kernel_rfl) fun x => by kernel_rfl
/-- slices.Clone -/
def slices_Cloneint8_int8 (s_ : (List Int)) : Option (List Int) := bif s_.isEmpty then some [] else bif decide (([] : (List Int)).length + s_.length ≤ maxL) then some ([] ++ s_) else none
noncomputable def cp42 : CallP := withC cp41 33 [(.one (.g (.sl (.one (.int .i8)))))] false [.one (.ow (.one (.int .i8)))] (fun x => slices_Cloneint8_int8 x.1)
theorem cp42_ok : PureOK E cp42 := conClone (e := (.one (.int .i8))) true eok cp41_ok noE_ok (by kernel_rfl) (by kernel_rfl) (by kernel_rfl) (by kernel_rfl) (fun x l => by kernel_rfl) fun x l => by kernel_rfl
section
variable (rows : (List (List Int))) (s304 : ((List (List Int)) × Int))
def eval_copied_r4_p : Option Unit := (bif (decide ((0 : Int) ≤ s304.2)) then (bif (decide (s304.2 < (rows.length : Int))) then (some ()) else none) else none)
def eval_copied_r5_p : Option (List (List Int)) := (Option.bind (slices_Cloneint8_int8 (gt rows s304.2 [])) (fun y309 : (List Int) => (bif (decide (s304.1.length + ([y309] : List (List Int)).length ≤ maxL)) then (some (s304.1 ++ [y309])) else none)))
def eval_copied_l3_p : Option (((List (List Int)) × Int) ⊕ ((List (List Int)) × Int)) := (bif (decide (s304.2 < (rows.length : Int))) then (Option.bind (eval_copied_r4_p rows s304) (fun y308 : Unit => (Option.bind (eval_copied_r5_p rows s304) (fun y310 : (List (List Int)) => (some (Sum.inl (y310, (IntKind.wrap .i64 (s304.2 + 1))))))))) else (some (Sum.inr s304)))
/-- quilt/eval.copied[int8] -/
def eval_copied : Option (List (List Int)) := (Option.bind (iterN (eval_copied_l3_p rows) LL ([], (0 : Int))) (fun y311 : ((List (List Int)) × Int) => (some y311.1)))
noncomputable def cp43 : CallP := withC cp42 21 [(.one (.g (.sl (.one (.sl (.one (.int .i8)))))))] false [(.one (.ow (.one (.sl (.one (.int .i8))))))] (fun x => eval_copied x.1)
theorem cp43_ok : PureOK E cp43 := conC (hn := (.w (.c (.l (.j .e false (.k [] (.j .e false (.k [.r 3] .e .e)) .e))) .e) [.r 3, .r 8] (.k [.r 3, .r 8] .e .e))) true eok cp42_ok noE_ok (fun x => by kernel_rfl) fun x => by kernel_rfl
end
section
variable {β : Type} (first : Int) (rows : Int) (k_ : Int) (stride : Int) (pad : Int) (size : Int) (y372 : Int) (s377 : (Int × Int × Int))
def shape_Reach_r2_q (K : Bool → β) : β := (bif (decide (first < 0)) then (K true) else (bif (decide (rows < 1)) then (K true) else (bif (decide (first > y372)) then (K true) else (K (decide (rows > (IntKind.wrap .i64 (y372 - first))))))))
def shape_Reach_r2_p : Bool := shape_Reach_r2_q first rows y372 (fun y => y)
def shape_Reach_r8_q (K : Int → β) : β := (K (min size (IntKind.wrap .i64 ((IntKind.wrap .i64 ((IntKind.wrap .i64 (s377.2.2 * stride)) - pad)) + k_))))
def shape_Reach_r8_p : Int := shape_Reach_r8_q k_ stride pad size s377 (fun y => y)
def shape_Reach_r9_q (K : Bool → β) : β := (K (decide ((max (0 : Int) (IntKind.wrap .i64 ((IntKind.wrap .i64 (s377.2.2 * stride)) - pad))) < (shape_Reach_r8_p k_ stride pad size s377))))
def shape_Reach_r9_p : Bool := shape_Reach_r9_q k_ stride pad size s377 (fun y => y)
def shape_Reach_r10_q (K : Int → β) : β := (K (min s377.1 (max (0 : Int) (IntKind.wrap .i64 ((IntKind.wrap .i64 (s377.2.2 * stride)) - pad)))))
def shape_Reach_r10_p : Int := shape_Reach_r10_q stride pad s377 (fun y => y)
def shape_Reach_j8_q (K : (Int × Int) → β) : β := (bif (shape_Reach_r9_p k_ stride pad size s377) then (K ((shape_Reach_r10_p stride pad s377), (max s377.2.1 (shape_Reach_r8_p k_ stride pad size s377)))) else (K (s377.1, s377.2.1)))
def shape_Reach_j8_p : (Int × Int) := shape_Reach_j8_q k_ stride pad size s377 (fun y => y)
def shape_Reach_l6_p : Option ((Int × Int × Int) ⊕ (Int × Int × Int)) := (bif (decide (s377.2.2 < (IntKind.wrap .i64 (first + rows)))) then (some (Sum.inl ((shape_Reach_j8_p k_ stride pad size s377).1, (shape_Reach_j8_p k_ stride pad size s377).2, (IntKind.wrap .i64 (s377.2.2 + 1))))) else (some (Sum.inr s377)))
/-- quilt/shape.Reach -/
def shape_Reach : Option (Int × Int) := (Option.bind (shape_Out size k_ stride pad) (fun y372 : Int => (bif (shape_Reach_r2_p first rows y372) then (some ((0 : Int), (0 : Int))) else (Option.bind (iterN (shape_Reach_l6_p first rows k_ stride pad size) LL (size, (0 : Int), first)) (fun y378 : (Int × Int × Int) => (bif (y378.2.1 == 0) then (some ((0 : Int), (0 : Int))) else (some (y378.1, y378.2.1))))))))
noncomputable def cp44 : CallP := withC cp43 69 [pI, pI, pI, pI, pI, pI] true [pI, pI] (fun x => shape_Reach x.1 x.2.1 x.2.2.1 x.2.2.2.1 x.2.2.2.2.1 x.2.2.2.2.2.1)
theorem cp44_ok : PureOK E cp44 := conC (hn := (.l (.l (.l (.j (.x (.c .e (.l (.c .e (.l (.l (.c .e .e))))))) true (.k [.r 40] (.c .e (.w (.c (.j (.j .e true (.k [.r 17] (.j .e true (.k [.r 67] (.c (.j .e true (.k [.r 12] .e .e)) .e) .e)) .e)) true (.k [.r 12, .r 13] .e .e)) .e) [.r 12, .r 13, .r 15] (.k [.r 12, .r 13, .r 15] (.c .e .e) .e))) .e)))))) false eok cp43_ok noE_ok (fun x => by kernel_rfl) fun x => by kernel_rfl
end
section
variable {β : Type} (n_ : Node) (in_ : (List I4)) (first : Int) (rows : Int) (y369 : (I4 × Int)) (s415 : (Int × Int × Int × Int × Int))
def kern_Needs_r4_q (K : Bool → β) : β := (bif (decide (first < 0)) then (K true) else (bif (decide (rows < 1)) then (K true) else (bif (decide (first > y369.1.1)) then (K true) else (K (decide (rows > (IntKind.wrap .i64 (y369.1.1 - first))))))))
def kern_Needs_r4_p : Bool := kern_Needs_r4_q first rows y369 (fun y => y)
def kern_Needs_r9_p : Option Unit := (bif (decide ((0 : Int) ≤ s415.1)) then (bif (decide (s415.1 < (in_.length : Int))) then (some ()) else none) else none)
def kern_Needs_j12_q (K : Bool → β) : β := (bif (n_.1 == 1) then (K (n_.1 == 1)) else (bif (n_.1 == 2) then (K (n_.1 == 2)) else (bif (n_.1 == 4) then (K (n_.1 == 4)) else (K (n_.1 == 5)))))
def kern_Needs_j12_p : Bool := kern_Needs_j12_q n_ (fun y => y)
def kern_Needs_r16_p : Option (Int × Int × Int × Int) := (Option.bind (shape_Reach first rows n_.2.2.1 n_.2.2.2.1 n_.2.2.2.2.1 ((gt in_ s415.1 dI4).1)) (fun y417 : (Int × Int) => (bif (s415.1 == 0) then (bif (s415.1 == 0) then (some (y417.1, y417.2, s415.2.2.2.1, s415.2.2.2.2)) else (bif (s415.1 == 1) then (some (y417.1, s415.2.2.1, s415.2.2.2.1, y417.2)) else none)) else (bif (s415.1 == 1) then (bif (s415.1 == 0) then (some (s415.2.1, y417.2, y417.1, s415.2.2.2.2)) else (bif (s415.1 == 1) then (some (s415.2.1, s415.2.2.1, y417.1, y417.2)) else none)) else none))))
def kern_Needs_r18_p : Option (Int × Int × Int × Int) := (Option.bind (shape_Reach first rows (1 : Int) (1 : Int) (1 : Int) ((gt in_ s415.1 dI4).1)) (fun y419 : (Int × Int) => (bif (s415.1 == 0) then (bif (s415.1 == 0) then (some (y419.1, y419.2, s415.2.2.2.1, s415.2.2.2.2)) else (bif (s415.1 == 1) then (some (y419.1, s415.2.2.1, s415.2.2.2.1, y419.2)) else none)) else (bif (s415.1 == 1) then (bif (s415.1 == 0) then (some (s415.2.1, y419.2, y419.1, s415.2.2.2.2)) else (bif (s415.1 == 1) then (some (s415.2.1, s415.2.2.1, y419.1, y419.2)) else none)) else none))))
def kern_Needs_j19_q (K : Bool → β) : β := (bif (n_.1 == 3) then (K (n_.1 == 3)) else (K (n_.1 == 11)))
def kern_Needs_j19_p : Bool := kern_Needs_j19_q n_ (fun y => y)
def kern_Needs_r21_p : Option (Int × Int × Int × Int) := (bif (s415.1 == 0) then (some ((0 : Int), (gt in_ s415.1 dI4).1, s415.2.2.2.1, s415.2.2.2.2)) else (bif (s415.1 == 1) then (some (s415.2.1, s415.2.2.1, (0 : Int), (gt in_ s415.1 dI4).1)) else none))
def kern_Needs_r11_p : Option (Int × Int × Int × Int) := (bif (s415.1 == 0) then (some (first, (IntKind.wrap .i64 (first + rows)), s415.2.2.2.1, s415.2.2.2.2)) else (bif (s415.1 == 1) then (some (s415.2.1, s415.2.2.1, first, (IntKind.wrap .i64 (first + rows)))) else none))
def kern_Needs_j8_p : Option (Int × Int × Int × Int) := (Option.bind (kern_Needs_r9_p in_ s415) (fun y416 : Unit => (bif (kern_Needs_j12_p n_) then (Option.bind (kern_Needs_r16_p n_ in_ first rows s415) (fun y418 : (Int × Int × Int × Int) => (some y418))) else (bif (n_.1 == 9) then (Option.bind (kern_Needs_r18_p in_ first rows s415) (fun y420 : (Int × Int × Int × Int) => (some y420))) else (bif (kern_Needs_j19_p n_) then (Option.bind (kern_Needs_r21_p in_ s415) (fun y421 : (Int × Int × Int × Int) => (some y421))) else (Option.bind (kern_Needs_r11_p first rows s415) (fun y422 : (Int × Int × Int × Int) => (some y422))))))))
def kern_Needs_l7_p : Option ((Int × Int × Int × Int × Int) ⊕ (Int × Int × Int × Int × Int)) := (bif (decide (s415.1 < (in_.length : Int))) then (Option.bind (kern_Needs_j8_p n_ in_ first rows s415) (fun y423 : (Int × Int × Int × Int) => (some (Sum.inl ((IntKind.wrap .i64 (s415.1 + 1)), y423.1, y423.2.1, y423.2.2.1, y423.2.2.2))))) else (some (Sum.inr s415)))
/-- quilt/kern.Needs -/
def kern_Needs : Option (I4 × Int) := (Option.bind (graph_Value n_ in_) (fun y369 : (I4 × Int) => (bif (y369.2 != 0) then (some (((0 : Int), (0 : Int), (0 : Int), (0 : Int)), y369.2)) else (bif (kern_Needs_r4_p first rows y369) then (some (((0 : Int), (0 : Int), (0 : Int), (0 : Int)), (1 : Int))) else (Option.bind (iterN (kern_Needs_l7_p n_ in_ first rows) LL ((0 : Int), (0 : Int), (0 : Int), (0 : Int), (0 : Int))) (fun y424 : (Int × Int × Int × Int × Int) => (some (y424.2, (0 : Int)))))))))
noncomputable def cp45 : CallP := withC cp44 49 [(.agg tsNode), (pL tsI4), pI, pI] true [(.agg tsI4), pI] (fun x => kern_Needs x.1 x.2.1 x.2.2.1 x.2.2.2.1)
theorem cp45_ok : PureOK E cp45 := conC (hn := (.c .e (.j (.x (.c .e (.l (.c .e (.l (.l (.l (.l (.c .e .e))))))))) true (.k [.r 24] (.c .e (.w (.c (.j (.l (.j .e false (.k [] (.l (.j (.c .e (.c .e (.c .e .e))) true (.k [.r 68] (.c (.j (.x (.c (.l (.c .e (.c .e .e))) (.c (.l (.c .e (.c .e .e))) .e))) false (.k [.h 0 0, .h 0 1, .h 0 2, .h 0 3] .e .e)) (.c (.j (.x (.c (.l (.c .e (.c .e .e))) (.c (.l (.c .e (.c .e .e))) .e))) false (.k [.h 0 0, .h 0 1, .h 0 2, .h 0 3] .e .e)) (.j (.c .e .e) true (.k [.r 107] (.c (.j (.x (.c .e (.c .e .e))) false (.k [.h 0 0, .h 0 1, .h 0 2, .h 0 3] .e .e)) (.j (.x (.c .e (.c .e .e))) false (.k [.h 0 0, .h 0 1, .h 0 2, .h 0 3] .e .e))) .e)))) .e))) .e))) false (.k [.h 0 0, .h 0 1, .h 0 2, .h 0 3] .e .e)) .e) [.r 50, .h 0 0, .h 0 1, .h 0 2, .h 0 3] (.k [.r 50, .h 0 0, .h 0 1, .h 0 2, .h 0 3] .e .e))) .e)))) false eok cp44_ok noE_ok (fun x => by kernel_rfl) fun x => by kernel_rfl
end
section
variable {β : Type} (v_ : I4) (w_ : Window) (need : I2)
def kern_fits_r2_p : Option Bool := (bif (decide (w_.1 < 0)) then (some true) else (bif (decide (w_.2.1 < 0)) then (some true) else (bif (decide (w_.1 > v_.1)) then (some true) else (bif (decide (w_.2.1 > (IntKind.wrap .i64 (v_.1 - w_.1)))) then (some true) else (Option.bind (shape_Row (v_.1, v_.2.1, v_.2.2.1)) (fun y430 : Int => (some ((w_.2.2.length : Int) != (IntKind.wrap .i64 (w_.2.1 * y430))))))))))
def kern_fits_r4_q (K : Bool → β) : β := (bif (need.1 == need.2) then (K true) else (bif (decide (w_.1 ≤ need.1)) then (K (decide (need.2 ≤ (IntKind.wrap .i64 (w_.1 + w_.2.1))))) else (K false)))
def kern_fits_r4_p : Bool := kern_fits_r4_q w_ need (fun y => y)
/-- quilt/kern.fits -/
def kern_fits : Option Bool := (Option.bind (kern_fits_r2_p v_ w_) (fun y431 : Bool => (bif y431 then (some false) else (some (kern_fits_r4_p w_ need)))))
noncomputable def cp46 : CallP := withC cp45 50 [(.agg tsI4), (.agg tsWindow), (.agg tsI2)] false [pB] (fun x => kern_fits x.1 x.2.1 x.2.2.1)
theorem cp46_ok : PureOK E cp46 := conC (hn := (.l (.l (.l (.j (.x (.c .e (.l (.l (.c .e (.l (.l (.l (.c .e (.l (.l (.l (.l (.l (.l (.c .e .e)))))))))))))))) false (.k [.r 45] (.c .e (.j (.x (.l (.l (.l (.c .e (.l (.l (.l (.l (.l (.l (.c .e .e)))))))))))) true (.k [.r 6] .e .e))) .e)))))) false eok cp45_ok noE_ok (fun x => by kernel_rfl) fun x => by kernel_rfl
end
section
variable {β : Type} (n_ : Node) (p_ : pane)
/-- quilt/kern.conv -/
def kern_conv_q (K : U8 → β) : β := (K ((n_.1, n_.2.1, n_.2.2.1, n_.2.2.2.1, n_.2.2.2.2.1, n_.2.2.2.2.2.1, n_.2.2.2.2.2.2.1, n_.2.2.2.2.2.2.2.1, n_.2.2.2.2.2.2.2.2.1, n_.2.2.2.2.2.2.2.2.2.1, n_.2.2.2.2.2.2.2.2.2.2.1, n_.2.2.2.2.2.2.2.2.2.2.2.1, n_.2.2.2.2.2.2.2.2.2.2.2.2.1, n_.2.2.2.2.2.2.2.2.2.2.2.2.2, ()), (p_.1, p_.2.1, p_.2.2.1, p_.2.2.2.1, p_.2.2.2.2.1, p_.2.2.2.2.2.1, p_.2.2.2.2.2.2, ()), ()))
def kern_conv : U8 := kern_conv_q n_ p_ (fun y => y)
noncomputable def cp47 : CallP := withP cp46 70 [(.agg tsNode), (.agg tspane)] false [(.one (.fn 83 Z5))] (fun x => kern_conv x.1 x.2.1)
theorem cp47_ok : PureOK E cp47 := conP (hn := .e) false eok cp46_ok noE_ok (fun x => by kernel_rfl) fun x => by kernel_rfl
end
section
variable {β : Type} (n_ : Node) (p_ : pane)
/-- quilt/kern.full -/
def kern_full_q (K : U8 → β) : β := (K ((n_.1, n_.2.1, n_.2.2.1, n_.2.2.2.1, n_.2.2.2.2.1, n_.2.2.2.2.2.1, n_.2.2.2.2.2.2.1, n_.2.2.2.2.2.2.2.1, n_.2.2.2.2.2.2.2.2.1, n_.2.2.2.2.2.2.2.2.2.1, n_.2.2.2.2.2.2.2.2.2.2.1, n_.2.2.2.2.2.2.2.2.2.2.2.1, n_.2.2.2.2.2.2.2.2.2.2.2.2.1, n_.2.2.2.2.2.2.2.2.2.2.2.2.2, ()), (p_.1, p_.2.1, p_.2.2.1, p_.2.2.2.1, p_.2.2.2.2.1, p_.2.2.2.2.2.1, p_.2.2.2.2.2.2, ()), ()))
def kern_full : U8 := kern_full_q n_ p_ (fun y => y)
noncomputable def cp48 : CallP := withP cp47 71 [(.agg tsNode), (.agg tspane)] false [(.one (.fn 87 Z5))] (fun x => kern_full x.1 x.2.1)
theorem cp48_ok : PureOK E cp48 := conP (hn := .e) false eok cp47_ok noE_ok (fun x => by kernel_rfl) fun x => by kernel_rfl
end
section
variable {β : Type} (n_ : Node) (p_ : pane)
/-- quilt/kern.pool -/
def kern_pool_q (K : U8 → β) : β := (K ((n_.1, n_.2.1, n_.2.2.1, n_.2.2.2.1, n_.2.2.2.2.1, n_.2.2.2.2.2.1, n_.2.2.2.2.2.2.1, n_.2.2.2.2.2.2.2.1, n_.2.2.2.2.2.2.2.2.1, n_.2.2.2.2.2.2.2.2.2.1, n_.2.2.2.2.2.2.2.2.2.2.1, n_.2.2.2.2.2.2.2.2.2.2.2.1, n_.2.2.2.2.2.2.2.2.2.2.2.2.1, n_.2.2.2.2.2.2.2.2.2.2.2.2.2, ()), (p_.1, p_.2.1, p_.2.2.1, p_.2.2.2.1, p_.2.2.2.2.1, p_.2.2.2.2.2.1, p_.2.2.2.2.2.2, ()), ()))
def kern_pool : U8 := kern_pool_q n_ p_ (fun y => y)
noncomputable def cp49 : CallP := withP cp48 72 [(.agg tsNode), (.agg tspane)] false [(.one (.fn 88 Z5))] (fun x => kern_pool x.1 x.2.1)
theorem cp49_ok : PureOK E cp49 := conP (hn := .e) false eok cp48_ok noE_ok (fun x => by kernel_rfl) fun x => by kernel_rfl
end
section
variable {β : Type} (n_ : Node) (p_ : pane) (q_ : pane)
/-- quilt/kern.pair -/
def kern_pair_q (K : U11 → β) : β := (K ((p_.1, p_.2.1, p_.2.2.1, p_.2.2.2.1, p_.2.2.2.2.1, p_.2.2.2.2.2.1, p_.2.2.2.2.2.2, ()), (q_.1, q_.2.1, q_.2.2.1, q_.2.2.2.1, q_.2.2.2.2.1, q_.2.2.2.2.2.1, q_.2.2.2.2.2.2, ()), (n_.1, n_.2.1, n_.2.2.1, n_.2.2.2.1, n_.2.2.2.2.1, n_.2.2.2.2.2.1, n_.2.2.2.2.2.2.1, n_.2.2.2.2.2.2.2.1, n_.2.2.2.2.2.2.2.2.1, n_.2.2.2.2.2.2.2.2.2.1, n_.2.2.2.2.2.2.2.2.2.2.1, n_.2.2.2.2.2.2.2.2.2.2.2.1, n_.2.2.2.2.2.2.2.2.2.2.2.2.1, n_.2.2.2.2.2.2.2.2.2.2.2.2.2, ()), ()))
def kern_pair : U11 := kern_pair_q n_ p_ q_ (fun y => y)
noncomputable def cp50 : CallP := withP cp49 73 [(.agg tsNode), (.agg tspane), (.agg tspane)] false [(.one (.fn 91 (.cons Z0 Z4)))] (fun x => kern_pair x.1 x.2.1 x.2.2.1)
theorem cp50_ok : PureOK E cp50 := conP (hn := .e) false eok cp49_ok noE_ok (fun x => by kernel_rfl) fun x => by kernel_rfl
end
section
variable {β : Type} (n_ : Node) (v_ : I4) (panes : A8)
def kern_made_j3_q (K : Bool → β) : β := (bif (n_.1 == 1) then (K (n_.1 == 1)) else (K (n_.1 == 2)))
def kern_made_j3_p : Bool := kern_made_j3_q n_ (fun y => y)
def kern_made_r5_q (K : U8 → β) : β := (K ((((kern_conv n_ (panes.1, panes.2.1, panes.2.2.1, panes.2.2.2.1, panes.2.2.2.2.1, panes.2.2.2.2.2.1, panes.2.2.2.2.2.2.1)).1).1, ((kern_conv n_ (panes.1, panes.2.1, panes.2.2.1, panes.2.2.2.1, panes.2.2.2.2.1, panes.2.2.2.2.2.1, panes.2.2.2.2.2.2.1)).1).2.1, ((kern_conv n_ (panes.1, panes.2.1, panes.2.2.1, panes.2.2.2.1, panes.2.2.2.2.1, panes.2.2.2.2.2.1, panes.2.2.2.2.2.2.1)).1).2.2.1, ((kern_conv n_ (panes.1, panes.2.1, panes.2.2.1, panes.2.2.2.1, panes.2.2.2.2.1, panes.2.2.2.2.2.1, panes.2.2.2.2.2.2.1)).1).2.2.2.1, ((kern_conv n_ (panes.1, panes.2.1, panes.2.2.1, panes.2.2.2.1, panes.2.2.2.2.1, panes.2.2.2.2.2.1, panes.2.2.2.2.2.2.1)).1).2.2.2.2.1, ((kern_conv n_ (panes.1, panes.2.1, panes.2.2.1, panes.2.2.2.1, panes.2.2.2.2.1, panes.2.2.2.2.2.1, panes.2.2.2.2.2.2.1)).1).2.2.2.2.2.1, ((kern_conv n_ (panes.1, panes.2.1, panes.2.2.1, panes.2.2.2.1, panes.2.2.2.2.1, panes.2.2.2.2.2.1, panes.2.2.2.2.2.2.1)).1).2.2.2.2.2.2.1, ((kern_conv n_ (panes.1, panes.2.1, panes.2.2.1, panes.2.2.2.1, panes.2.2.2.2.1, panes.2.2.2.2.2.1, panes.2.2.2.2.2.2.1)).1).2.2.2.2.2.2.2.1, ((kern_conv n_ (panes.1, panes.2.1, panes.2.2.1, panes.2.2.2.1, panes.2.2.2.2.1, panes.2.2.2.2.2.1, panes.2.2.2.2.2.2.1)).1).2.2.2.2.2.2.2.2.1, ((kern_conv n_ (panes.1, panes.2.1, panes.2.2.1, panes.2.2.2.1, panes.2.2.2.2.1, panes.2.2.2.2.2.1, panes.2.2.2.2.2.2.1)).1).2.2.2.2.2.2.2.2.2.1, ((kern_conv n_ (panes.1, panes.2.1, panes.2.2.1, panes.2.2.2.1, panes.2.2.2.2.1, panes.2.2.2.2.2.1, panes.2.2.2.2.2.2.1)).1).2.2.2.2.2.2.2.2.2.2.1, ((kern_conv n_ (panes.1, panes.2.1, panes.2.2.1, panes.2.2.2.1, panes.2.2.2.2.1, panes.2.2.2.2.2.1, panes.2.2.2.2.2.2.1)).1).2.2.2.2.2.2.2.2.2.2.2.1, ((kern_conv n_ (panes.1, panes.2.1, panes.2.2.1, panes.2.2.2.1, panes.2.2.2.2.1, panes.2.2.2.2.2.1, panes.2.2.2.2.2.2.1)).1).2.2.2.2.2.2.2.2.2.2.2.2.1, ((kern_conv n_ (panes.1, panes.2.1, panes.2.2.1, panes.2.2.2.1, panes.2.2.2.2.1, panes.2.2.2.2.2.1, panes.2.2.2.2.2.2.1)).1).2.2.2.2.2.2.2.2.2.2.2.2.2.1, ()), (((kern_conv n_ (panes.1, panes.2.1, panes.2.2.1, panes.2.2.2.1, panes.2.2.2.2.1, panes.2.2.2.2.2.1, panes.2.2.2.2.2.2.1)).2.1).1, ((kern_conv n_ (panes.1, panes.2.1, panes.2.2.1, panes.2.2.2.1, panes.2.2.2.2.1, panes.2.2.2.2.2.1, panes.2.2.2.2.2.2.1)).2.1).2.1, ((kern_conv n_ (panes.1, panes.2.1, panes.2.2.1, panes.2.2.2.1, panes.2.2.2.2.1, panes.2.2.2.2.2.1, panes.2.2.2.2.2.2.1)).2.1).2.2.1, ((kern_conv n_ (panes.1, panes.2.1, panes.2.2.1, panes.2.2.2.1, panes.2.2.2.2.1, panes.2.2.2.2.2.1, panes.2.2.2.2.2.2.1)).2.1).2.2.2.1, ((kern_conv n_ (panes.1, panes.2.1, panes.2.2.1, panes.2.2.2.1, panes.2.2.2.2.1, panes.2.2.2.2.2.1, panes.2.2.2.2.2.2.1)).2.1).2.2.2.2.1, ((kern_conv n_ (panes.1, panes.2.1, panes.2.2.1, panes.2.2.2.1, panes.2.2.2.2.1, panes.2.2.2.2.2.1, panes.2.2.2.2.2.2.1)).2.1).2.2.2.2.2.1, ((kern_conv n_ (panes.1, panes.2.1, panes.2.2.1, panes.2.2.2.1, panes.2.2.2.2.1, panes.2.2.2.2.2.1, panes.2.2.2.2.2.2.1)).2.1).2.2.2.2.2.2.1, ()), ()))
def kern_made_r5_p : U8 := kern_made_r5_q n_ panes (fun y => y)
def kern_made_r7_q (K : U8 → β) : β := (K ((((kern_full n_ (panes.1, panes.2.1, panes.2.2.1, panes.2.2.2.1, panes.2.2.2.2.1, panes.2.2.2.2.2.1, panes.2.2.2.2.2.2.1)).1).1, ((kern_full n_ (panes.1, panes.2.1, panes.2.2.1, panes.2.2.2.1, panes.2.2.2.2.1, panes.2.2.2.2.2.1, panes.2.2.2.2.2.2.1)).1).2.1, ((kern_full n_ (panes.1, panes.2.1, panes.2.2.1, panes.2.2.2.1, panes.2.2.2.2.1, panes.2.2.2.2.2.1, panes.2.2.2.2.2.2.1)).1).2.2.1, ((kern_full n_ (panes.1, panes.2.1, panes.2.2.1, panes.2.2.2.1, panes.2.2.2.2.1, panes.2.2.2.2.2.1, panes.2.2.2.2.2.2.1)).1).2.2.2.1, ((kern_full n_ (panes.1, panes.2.1, panes.2.2.1, panes.2.2.2.1, panes.2.2.2.2.1, panes.2.2.2.2.2.1, panes.2.2.2.2.2.2.1)).1).2.2.2.2.1, ((kern_full n_ (panes.1, panes.2.1, panes.2.2.1, panes.2.2.2.1, panes.2.2.2.2.1, panes.2.2.2.2.2.1, panes.2.2.2.2.2.2.1)).1).2.2.2.2.2.1, ((kern_full n_ (panes.1, panes.2.1, panes.2.2.1, panes.2.2.2.1, panes.2.2.2.2.1, panes.2.2.2.2.2.1, panes.2.2.2.2.2.2.1)).1).2.2.2.2.2.2.1, ((kern_full n_ (panes.1, panes.2.1, panes.2.2.1, panes.2.2.2.1, panes.2.2.2.2.1, panes.2.2.2.2.2.1, panes.2.2.2.2.2.2.1)).1).2.2.2.2.2.2.2.1, ((kern_full n_ (panes.1, panes.2.1, panes.2.2.1, panes.2.2.2.1, panes.2.2.2.2.1, panes.2.2.2.2.2.1, panes.2.2.2.2.2.2.1)).1).2.2.2.2.2.2.2.2.1, ((kern_full n_ (panes.1, panes.2.1, panes.2.2.1, panes.2.2.2.1, panes.2.2.2.2.1, panes.2.2.2.2.2.1, panes.2.2.2.2.2.2.1)).1).2.2.2.2.2.2.2.2.2.1, ((kern_full n_ (panes.1, panes.2.1, panes.2.2.1, panes.2.2.2.1, panes.2.2.2.2.1, panes.2.2.2.2.2.1, panes.2.2.2.2.2.2.1)).1).2.2.2.2.2.2.2.2.2.2.1, ((kern_full n_ (panes.1, panes.2.1, panes.2.2.1, panes.2.2.2.1, panes.2.2.2.2.1, panes.2.2.2.2.2.1, panes.2.2.2.2.2.2.1)).1).2.2.2.2.2.2.2.2.2.2.2.1, ((kern_full n_ (panes.1, panes.2.1, panes.2.2.1, panes.2.2.2.1, panes.2.2.2.2.1, panes.2.2.2.2.2.1, panes.2.2.2.2.2.2.1)).1).2.2.2.2.2.2.2.2.2.2.2.2.1, ((kern_full n_ (panes.1, panes.2.1, panes.2.2.1, panes.2.2.2.1, panes.2.2.2.2.1, panes.2.2.2.2.2.1, panes.2.2.2.2.2.2.1)).1).2.2.2.2.2.2.2.2.2.2.2.2.2.1, ()), (((kern_full n_ (panes.1, panes.2.1, panes.2.2.1, panes.2.2.2.1, panes.2.2.2.2.1, panes.2.2.2.2.2.1, panes.2.2.2.2.2.2.1)).2.1).1, ((kern_full n_ (panes.1, panes.2.1, panes.2.2.1, panes.2.2.2.1, panes.2.2.2.2.1, panes.2.2.2.2.2.1, panes.2.2.2.2.2.2.1)).2.1).2.1, ((kern_full n_ (panes.1, panes.2.1, panes.2.2.1, panes.2.2.2.1, panes.2.2.2.2.1, panes.2.2.2.2.2.1, panes.2.2.2.2.2.2.1)).2.1).2.2.1, ((kern_full n_ (panes.1, panes.2.1, panes.2.2.1, panes.2.2.2.1, panes.2.2.2.2.1, panes.2.2.2.2.2.1, panes.2.2.2.2.2.2.1)).2.1).2.2.2.1, ((kern_full n_ (panes.1, panes.2.1, panes.2.2.1, panes.2.2.2.1, panes.2.2.2.2.1, panes.2.2.2.2.2.1, panes.2.2.2.2.2.2.1)).2.1).2.2.2.2.1, ((kern_full n_ (panes.1, panes.2.1, panes.2.2.1, panes.2.2.2.1, panes.2.2.2.2.1, panes.2.2.2.2.2.1, panes.2.2.2.2.2.2.1)).2.1).2.2.2.2.2.1, ((kern_full n_ (panes.1, panes.2.1, panes.2.2.1, panes.2.2.2.1, panes.2.2.2.2.1, panes.2.2.2.2.2.1, panes.2.2.2.2.2.2.1)).2.1).2.2.2.2.2.2.1, ()), ()))
def kern_made_r7_p : U8 := kern_made_r7_q n_ panes (fun y => y)
def kern_made_j8_q (K : Bool → β) : β := (bif (n_.1 == 4) then (K (n_.1 == 4)) else (K (n_.1 == 5)))
def kern_made_j8_p : Bool := kern_made_j8_q n_ (fun y => y)
def kern_made_r10_q (K : U8 → β) : β := (K ((((kern_pool n_ (panes.1, panes.2.1, panes.2.2.1, panes.2.2.2.1, panes.2.2.2.2.1, panes.2.2.2.2.2.1, panes.2.2.2.2.2.2.1)).1).1, ((kern_pool n_ (panes.1, panes.2.1, panes.2.2.1, panes.2.2.2.1, panes.2.2.2.2.1, panes.2.2.2.2.2.1, panes.2.2.2.2.2.2.1)).1).2.1, ((kern_pool n_ (panes.1, panes.2.1, panes.2.2.1, panes.2.2.2.1, panes.2.2.2.2.1, panes.2.2.2.2.2.1, panes.2.2.2.2.2.2.1)).1).2.2.1, ((kern_pool n_ (panes.1, panes.2.1, panes.2.2.1, panes.2.2.2.1, panes.2.2.2.2.1, panes.2.2.2.2.2.1, panes.2.2.2.2.2.2.1)).1).2.2.2.1, ((kern_pool n_ (panes.1, panes.2.1, panes.2.2.1, panes.2.2.2.1, panes.2.2.2.2.1, panes.2.2.2.2.2.1, panes.2.2.2.2.2.2.1)).1).2.2.2.2.1, ((kern_pool n_ (panes.1, panes.2.1, panes.2.2.1, panes.2.2.2.1, panes.2.2.2.2.1, panes.2.2.2.2.2.1, panes.2.2.2.2.2.2.1)).1).2.2.2.2.2.1, ((kern_pool n_ (panes.1, panes.2.1, panes.2.2.1, panes.2.2.2.1, panes.2.2.2.2.1, panes.2.2.2.2.2.1, panes.2.2.2.2.2.2.1)).1).2.2.2.2.2.2.1, ((kern_pool n_ (panes.1, panes.2.1, panes.2.2.1, panes.2.2.2.1, panes.2.2.2.2.1, panes.2.2.2.2.2.1, panes.2.2.2.2.2.2.1)).1).2.2.2.2.2.2.2.1, ((kern_pool n_ (panes.1, panes.2.1, panes.2.2.1, panes.2.2.2.1, panes.2.2.2.2.1, panes.2.2.2.2.2.1, panes.2.2.2.2.2.2.1)).1).2.2.2.2.2.2.2.2.1, ((kern_pool n_ (panes.1, panes.2.1, panes.2.2.1, panes.2.2.2.1, panes.2.2.2.2.1, panes.2.2.2.2.2.1, panes.2.2.2.2.2.2.1)).1).2.2.2.2.2.2.2.2.2.1, ((kern_pool n_ (panes.1, panes.2.1, panes.2.2.1, panes.2.2.2.1, panes.2.2.2.2.1, panes.2.2.2.2.2.1, panes.2.2.2.2.2.2.1)).1).2.2.2.2.2.2.2.2.2.2.1, ((kern_pool n_ (panes.1, panes.2.1, panes.2.2.1, panes.2.2.2.1, panes.2.2.2.2.1, panes.2.2.2.2.2.1, panes.2.2.2.2.2.2.1)).1).2.2.2.2.2.2.2.2.2.2.2.1, ((kern_pool n_ (panes.1, panes.2.1, panes.2.2.1, panes.2.2.2.1, panes.2.2.2.2.1, panes.2.2.2.2.2.1, panes.2.2.2.2.2.2.1)).1).2.2.2.2.2.2.2.2.2.2.2.2.1, ((kern_pool n_ (panes.1, panes.2.1, panes.2.2.1, panes.2.2.2.1, panes.2.2.2.2.1, panes.2.2.2.2.2.1, panes.2.2.2.2.2.2.1)).1).2.2.2.2.2.2.2.2.2.2.2.2.2.1, ()), (((kern_pool n_ (panes.1, panes.2.1, panes.2.2.1, panes.2.2.2.1, panes.2.2.2.2.1, panes.2.2.2.2.2.1, panes.2.2.2.2.2.2.1)).2.1).1, ((kern_pool n_ (panes.1, panes.2.1, panes.2.2.1, panes.2.2.2.1, panes.2.2.2.2.1, panes.2.2.2.2.2.1, panes.2.2.2.2.2.2.1)).2.1).2.1, ((kern_pool n_ (panes.1, panes.2.1, panes.2.2.1, panes.2.2.2.1, panes.2.2.2.2.1, panes.2.2.2.2.2.1, panes.2.2.2.2.2.2.1)).2.1).2.2.1, ((kern_pool n_ (panes.1, panes.2.1, panes.2.2.1, panes.2.2.2.1, panes.2.2.2.2.1, panes.2.2.2.2.2.1, panes.2.2.2.2.2.2.1)).2.1).2.2.2.1, ((kern_pool n_ (panes.1, panes.2.1, panes.2.2.1, panes.2.2.2.1, panes.2.2.2.2.1, panes.2.2.2.2.2.1, panes.2.2.2.2.2.2.1)).2.1).2.2.2.2.1, ((kern_pool n_ (panes.1, panes.2.1, panes.2.2.1, panes.2.2.2.1, panes.2.2.2.2.1, panes.2.2.2.2.2.1, panes.2.2.2.2.2.2.1)).2.1).2.2.2.2.2.1, ((kern_pool n_ (panes.1, panes.2.1, panes.2.2.1, panes.2.2.2.1, panes.2.2.2.2.1, panes.2.2.2.2.2.1, panes.2.2.2.2.2.2.1)).2.1).2.2.2.2.2.2.1, ()), ()))
def kern_made_r10_p : U8 := kern_made_r10_q n_ panes (fun y => y)
def kern_made_j11_q (K : Bool → β) : β := (bif (n_.1 == 6) then (K (n_.1 == 6)) else (K (n_.1 == 7)))
def kern_made_j11_p : Bool := kern_made_j11_q n_ (fun y => y)
def kern_made_r13_q (K : U11 → β) : β := (K ((((kern_pair n_ (panes.1, panes.2.1, panes.2.2.1, panes.2.2.2.1, panes.2.2.2.2.1, panes.2.2.2.2.2.1, panes.2.2.2.2.2.2.1) panes.2.2.2.2.2.2.2).1).1, ((kern_pair n_ (panes.1, panes.2.1, panes.2.2.1, panes.2.2.2.1, panes.2.2.2.2.1, panes.2.2.2.2.2.1, panes.2.2.2.2.2.2.1) panes.2.2.2.2.2.2.2).1).2.1, ((kern_pair n_ (panes.1, panes.2.1, panes.2.2.1, panes.2.2.2.1, panes.2.2.2.2.1, panes.2.2.2.2.2.1, panes.2.2.2.2.2.2.1) panes.2.2.2.2.2.2.2).1).2.2.1, ((kern_pair n_ (panes.1, panes.2.1, panes.2.2.1, panes.2.2.2.1, panes.2.2.2.2.1, panes.2.2.2.2.2.1, panes.2.2.2.2.2.2.1) panes.2.2.2.2.2.2.2).1).2.2.2.1, ((kern_pair n_ (panes.1, panes.2.1, panes.2.2.1, panes.2.2.2.1, panes.2.2.2.2.1, panes.2.2.2.2.2.1, panes.2.2.2.2.2.2.1) panes.2.2.2.2.2.2.2).1).2.2.2.2.1, ((kern_pair n_ (panes.1, panes.2.1, panes.2.2.1, panes.2.2.2.1, panes.2.2.2.2.1, panes.2.2.2.2.2.1, panes.2.2.2.2.2.2.1) panes.2.2.2.2.2.2.2).1).2.2.2.2.2.1, ((kern_pair n_ (panes.1, panes.2.1, panes.2.2.1, panes.2.2.2.1, panes.2.2.2.2.1, panes.2.2.2.2.2.1, panes.2.2.2.2.2.2.1) panes.2.2.2.2.2.2.2).1).2.2.2.2.2.2.1, ()), (((kern_pair n_ (panes.1, panes.2.1, panes.2.2.1, panes.2.2.2.1, panes.2.2.2.2.1, panes.2.2.2.2.2.1, panes.2.2.2.2.2.2.1) panes.2.2.2.2.2.2.2).2.1).1, ((kern_pair n_ (panes.1, panes.2.1, panes.2.2.1, panes.2.2.2.1, panes.2.2.2.2.1, panes.2.2.2.2.2.1, panes.2.2.2.2.2.2.1) panes.2.2.2.2.2.2.2).2.1).2.1, ((kern_pair n_ (panes.1, panes.2.1, panes.2.2.1, panes.2.2.2.1, panes.2.2.2.2.1, panes.2.2.2.2.2.1, panes.2.2.2.2.2.2.1) panes.2.2.2.2.2.2.2).2.1).2.2.1, ((kern_pair n_ (panes.1, panes.2.1, panes.2.2.1, panes.2.2.2.1, panes.2.2.2.2.1, panes.2.2.2.2.2.1, panes.2.2.2.2.2.2.1) panes.2.2.2.2.2.2.2).2.1).2.2.2.1, ((kern_pair n_ (panes.1, panes.2.1, panes.2.2.1, panes.2.2.2.1, panes.2.2.2.2.1, panes.2.2.2.2.2.1, panes.2.2.2.2.2.2.1) panes.2.2.2.2.2.2.2).2.1).2.2.2.2.1, ((kern_pair n_ (panes.1, panes.2.1, panes.2.2.1, panes.2.2.2.1, panes.2.2.2.2.1, panes.2.2.2.2.2.1, panes.2.2.2.2.2.2.1) panes.2.2.2.2.2.2.2).2.1).2.2.2.2.2.1, ((kern_pair n_ (panes.1, panes.2.1, panes.2.2.1, panes.2.2.2.1, panes.2.2.2.2.1, panes.2.2.2.2.2.1, panes.2.2.2.2.2.2.1) panes.2.2.2.2.2.2.2).2.1).2.2.2.2.2.2.1, ()), (((kern_pair n_ (panes.1, panes.2.1, panes.2.2.1, panes.2.2.2.1, panes.2.2.2.2.1, panes.2.2.2.2.2.1, panes.2.2.2.2.2.2.1) panes.2.2.2.2.2.2.2).2.2.1).1, ((kern_pair n_ (panes.1, panes.2.1, panes.2.2.1, panes.2.2.2.1, panes.2.2.2.2.1, panes.2.2.2.2.2.1, panes.2.2.2.2.2.2.1) panes.2.2.2.2.2.2.2).2.2.1).2.1, ((kern_pair n_ (panes.1, panes.2.1, panes.2.2.1, panes.2.2.2.1, panes.2.2.2.2.1, panes.2.2.2.2.2.1, panes.2.2.2.2.2.2.1) panes.2.2.2.2.2.2.2).2.2.1).2.2.1, ((kern_pair n_ (panes.1, panes.2.1, panes.2.2.1, panes.2.2.2.1, panes.2.2.2.2.1, panes.2.2.2.2.2.1, panes.2.2.2.2.2.2.1) panes.2.2.2.2.2.2.2).2.2.1).2.2.2.1, ((kern_pair n_ (panes.1, panes.2.1, panes.2.2.1, panes.2.2.2.1, panes.2.2.2.2.1, panes.2.2.2.2.2.1, panes.2.2.2.2.2.2.1) panes.2.2.2.2.2.2.2).2.2.1).2.2.2.2.1, ((kern_pair n_ (panes.1, panes.2.1, panes.2.2.1, panes.2.2.2.1, panes.2.2.2.2.1, panes.2.2.2.2.2.1, panes.2.2.2.2.2.2.1) panes.2.2.2.2.2.2.2).2.2.1).2.2.2.2.2.1, ((kern_pair n_ (panes.1, panes.2.1, panes.2.2.1, panes.2.2.2.1, panes.2.2.2.2.1, panes.2.2.2.2.2.1, panes.2.2.2.2.2.2.1) panes.2.2.2.2.2.2.2).2.2.1).2.2.2.2.2.2.1, ((kern_pair n_ (panes.1, panes.2.1, panes.2.2.1, panes.2.2.2.1, panes.2.2.2.2.1, panes.2.2.2.2.2.1, panes.2.2.2.2.2.2.1) panes.2.2.2.2.2.2.2).2.2.1).2.2.2.2.2.2.2.1, ((kern_pair n_ (panes.1, panes.2.1, panes.2.2.1, panes.2.2.2.1, panes.2.2.2.2.1, panes.2.2.2.2.2.1, panes.2.2.2.2.2.2.1) panes.2.2.2.2.2.2.2).2.2.1).2.2.2.2.2.2.2.2.1, ((kern_pair n_ (panes.1, panes.2.1, panes.2.2.1, panes.2.2.2.1, panes.2.2.2.2.1, panes.2.2.2.2.2.1, panes.2.2.2.2.2.2.1) panes.2.2.2.2.2.2.2).2.2.1).2.2.2.2.2.2.2.2.2.1, ((kern_pair n_ (panes.1, panes.2.1, panes.2.2.1, panes.2.2.2.1, panes.2.2.2.2.1, panes.2.2.2.2.2.1, panes.2.2.2.2.2.2.1) panes.2.2.2.2.2.2.2).2.2.1).2.2.2.2.2.2.2.2.2.2.1, ((kern_pair n_ (panes.1, panes.2.1, panes.2.2.1, panes.2.2.2.1, panes.2.2.2.2.1, panes.2.2.2.2.2.1, panes.2.2.2.2.2.2.1) panes.2.2.2.2.2.2.2).2.2.1).2.2.2.2.2.2.2.2.2.2.2.1, ((kern_pair n_ (panes.1, panes.2.1, panes.2.2.1, panes.2.2.2.1, panes.2.2.2.2.1, panes.2.2.2.2.2.1, panes.2.2.2.2.2.2.1) panes.2.2.2.2.2.2.2).2.2.1).2.2.2.2.2.2.2.2.2.2.2.2.1, ((kern_pair n_ (panes.1, panes.2.1, panes.2.2.1, panes.2.2.2.1, panes.2.2.2.2.1, panes.2.2.2.2.2.1, panes.2.2.2.2.2.2.1) panes.2.2.2.2.2.2.2).2.2.1).2.2.2.2.2.2.2.2.2.2.2.2.2.1, ()), ()))
def kern_made_r13_p : U11 := kern_made_r13_q n_ panes (fun y => y)
/-- quilt/kern.made -/
def kern_made_q (K : (U7 ⊕ ((U1 × Unit) ⊕ (U6 ⊕ ((U1 × (Int × Int × Int × Int × Unit) × Unit) ⊕ (U8 ⊕ (U8 ⊕ (U8 ⊕ (U8 ⊕ U11)))))))) → β) : β := (bif (kern_made_j3_p n_) then (K (Sum.inr (Sum.inr (Sum.inr (Sum.inr (Sum.inr (Sum.inl ((((kern_made_r5_p n_ panes).1).1, ((kern_made_r5_p n_ panes).1).2.1, ((kern_made_r5_p n_ panes).1).2.2.1, ((kern_made_r5_p n_ panes).1).2.2.2.1, ((kern_made_r5_p n_ panes).1).2.2.2.2.1, ((kern_made_r5_p n_ panes).1).2.2.2.2.2.1, ((kern_made_r5_p n_ panes).1).2.2.2.2.2.2.1, ((kern_made_r5_p n_ panes).1).2.2.2.2.2.2.2.1, ((kern_made_r5_p n_ panes).1).2.2.2.2.2.2.2.2.1, ((kern_made_r5_p n_ panes).1).2.2.2.2.2.2.2.2.2.1, ((kern_made_r5_p n_ panes).1).2.2.2.2.2.2.2.2.2.2.1, ((kern_made_r5_p n_ panes).1).2.2.2.2.2.2.2.2.2.2.2.1, ((kern_made_r5_p n_ panes).1).2.2.2.2.2.2.2.2.2.2.2.2.1, ((kern_made_r5_p n_ panes).1).2.2.2.2.2.2.2.2.2.2.2.2.2.1, ()), (((kern_made_r5_p n_ panes).2.1).1, ((kern_made_r5_p n_ panes).2.1).2.1, ((kern_made_r5_p n_ panes).2.1).2.2.1, ((kern_made_r5_p n_ panes).2.1).2.2.2.1, ((kern_made_r5_p n_ panes).2.1).2.2.2.2.1, ((kern_made_r5_p n_ panes).2.1).2.2.2.2.2.1, ((kern_made_r5_p n_ panes).2.1).2.2.2.2.2.2.1, ()), ())))))))) else (bif (n_.1 == 3) then (K (Sum.inr (Sum.inr (Sum.inr (Sum.inr (Sum.inr (Sum.inr (Sum.inl ((((kern_made_r7_p n_ panes).1).1, ((kern_made_r7_p n_ panes).1).2.1, ((kern_made_r7_p n_ panes).1).2.2.1, ((kern_made_r7_p n_ panes).1).2.2.2.1, ((kern_made_r7_p n_ panes).1).2.2.2.2.1, ((kern_made_r7_p n_ panes).1).2.2.2.2.2.1, ((kern_made_r7_p n_ panes).1).2.2.2.2.2.2.1, ((kern_made_r7_p n_ panes).1).2.2.2.2.2.2.2.1, ((kern_made_r7_p n_ panes).1).2.2.2.2.2.2.2.2.1, ((kern_made_r7_p n_ panes).1).2.2.2.2.2.2.2.2.2.1, ((kern_made_r7_p n_ panes).1).2.2.2.2.2.2.2.2.2.2.1, ((kern_made_r7_p n_ panes).1).2.2.2.2.2.2.2.2.2.2.2.1, ((kern_made_r7_p n_ panes).1).2.2.2.2.2.2.2.2.2.2.2.2.1, ((kern_made_r7_p n_ panes).1).2.2.2.2.2.2.2.2.2.2.2.2.2.1, ()), (((kern_made_r7_p n_ panes).2.1).1, ((kern_made_r7_p n_ panes).2.1).2.1, ((kern_made_r7_p n_ panes).2.1).2.2.1, ((kern_made_r7_p n_ panes).2.1).2.2.2.1, ((kern_made_r7_p n_ panes).2.1).2.2.2.2.1, ((kern_made_r7_p n_ panes).2.1).2.2.2.2.2.1, ((kern_made_r7_p n_ panes).2.1).2.2.2.2.2.2.1, ()), ()))))))))) else (bif (kern_made_j8_p n_) then (K (Sum.inr (Sum.inr (Sum.inr (Sum.inr (Sum.inr (Sum.inr (Sum.inr (Sum.inl ((((kern_made_r10_p n_ panes).1).1, ((kern_made_r10_p n_ panes).1).2.1, ((kern_made_r10_p n_ panes).1).2.2.1, ((kern_made_r10_p n_ panes).1).2.2.2.1, ((kern_made_r10_p n_ panes).1).2.2.2.2.1, ((kern_made_r10_p n_ panes).1).2.2.2.2.2.1, ((kern_made_r10_p n_ panes).1).2.2.2.2.2.2.1, ((kern_made_r10_p n_ panes).1).2.2.2.2.2.2.2.1, ((kern_made_r10_p n_ panes).1).2.2.2.2.2.2.2.2.1, ((kern_made_r10_p n_ panes).1).2.2.2.2.2.2.2.2.2.1, ((kern_made_r10_p n_ panes).1).2.2.2.2.2.2.2.2.2.2.1, ((kern_made_r10_p n_ panes).1).2.2.2.2.2.2.2.2.2.2.2.1, ((kern_made_r10_p n_ panes).1).2.2.2.2.2.2.2.2.2.2.2.2.1, ((kern_made_r10_p n_ panes).1).2.2.2.2.2.2.2.2.2.2.2.2.2.1, ()), (((kern_made_r10_p n_ panes).2.1).1, ((kern_made_r10_p n_ panes).2.1).2.1, ((kern_made_r10_p n_ panes).2.1).2.2.1, ((kern_made_r10_p n_ panes).2.1).2.2.2.1, ((kern_made_r10_p n_ panes).2.1).2.2.2.2.1, ((kern_made_r10_p n_ panes).2.1).2.2.2.2.2.1, ((kern_made_r10_p n_ panes).2.1).2.2.2.2.2.2.1, ()), ())))))))))) else (bif (kern_made_j11_p n_) then (K (Sum.inr (Sum.inr (Sum.inr (Sum.inr (Sum.inr (Sum.inr (Sum.inr (Sum.inr ((((kern_made_r13_p n_ panes).1).1, ((kern_made_r13_p n_ panes).1).2.1, ((kern_made_r13_p n_ panes).1).2.2.1, ((kern_made_r13_p n_ panes).1).2.2.2.1, ((kern_made_r13_p n_ panes).1).2.2.2.2.1, ((kern_made_r13_p n_ panes).1).2.2.2.2.2.1, ((kern_made_r13_p n_ panes).1).2.2.2.2.2.2.1, ()), (((kern_made_r13_p n_ panes).2.1).1, ((kern_made_r13_p n_ panes).2.1).2.1, ((kern_made_r13_p n_ panes).2.1).2.2.1, ((kern_made_r13_p n_ panes).2.1).2.2.2.1, ((kern_made_r13_p n_ panes).2.1).2.2.2.2.1, ((kern_made_r13_p n_ panes).2.1).2.2.2.2.2.1, ((kern_made_r13_p n_ panes).2.1).2.2.2.2.2.2.1, ()), (((kern_made_r13_p n_ panes).2.2.1).1, ((kern_made_r13_p n_ panes).2.2.1).2.1, ((kern_made_r13_p n_ panes).2.2.1).2.2.1, ((kern_made_r13_p n_ panes).2.2.1).2.2.2.1, ((kern_made_r13_p n_ panes).2.2.1).2.2.2.2.1, ((kern_made_r13_p n_ panes).2.2.1).2.2.2.2.2.1, ((kern_made_r13_p n_ panes).2.2.1).2.2.2.2.2.2.1, ((kern_made_r13_p n_ panes).2.2.1).2.2.2.2.2.2.2.1, ((kern_made_r13_p n_ panes).2.2.1).2.2.2.2.2.2.2.2.1, ((kern_made_r13_p n_ panes).2.2.1).2.2.2.2.2.2.2.2.2.1, ((kern_made_r13_p n_ panes).2.2.1).2.2.2.2.2.2.2.2.2.2.1, ((kern_made_r13_p n_ panes).2.2.1).2.2.2.2.2.2.2.2.2.2.2.1, ((kern_made_r13_p n_ panes).2.2.1).2.2.2.2.2.2.2.2.2.2.2.2.1, ((kern_made_r13_p n_ panes).2.2.1).2.2.2.2.2.2.2.2.2.2.2.2.2.1, ()), ())))))))))) else (bif (n_.1 == 8) then (K (Sum.inl ((panes.1, panes.2.1, panes.2.2.1, panes.2.2.2.1, panes.2.2.2.2.1, panes.2.2.2.2.2.1, panes.2.2.2.2.2.2.1, ()), (n_.1, n_.2.1, n_.2.2.1, n_.2.2.2.1, n_.2.2.2.2.1, n_.2.2.2.2.2.1, n_.2.2.2.2.2.2.1, n_.2.2.2.2.2.2.2.1, n_.2.2.2.2.2.2.2.2.1, n_.2.2.2.2.2.2.2.2.2.1, n_.2.2.2.2.2.2.2.2.2.2.1, n_.2.2.2.2.2.2.2.2.2.2.2.1, n_.2.2.2.2.2.2.2.2.2.2.2.2.1, n_.2.2.2.2.2.2.2.2.2.2.2.2.2, ()), ()))) else (bif (n_.1 == 9) then (K (Sum.inr (Sum.inl ((panes.1, panes.2.1, panes.2.2.1, panes.2.2.2.1, panes.2.2.2.2.1, panes.2.2.2.2.2.1, panes.2.2.2.2.2.2.1, ()), ())))) else (bif (n_.1 == 10) then (K (Sum.inr (Sum.inr (Sum.inl ((panes.1, panes.2.1, panes.2.2.1, panes.2.2.2.1, panes.2.2.2.2.1, panes.2.2.2.2.2.1, panes.2.2.2.2.2.2.1, ()), (panes.1, panes.2.1, panes.2.2.1, panes.2.2.2.1, panes.2.2.2.2.1, panes.2.2.2.2.2.1, panes.2.2.2.2.2.2.1, panes.2.2.2.2.2.2.2.1, panes.2.2.2.2.2.2.2.2.1, panes.2.2.2.2.2.2.2.2.2.1, panes.2.2.2.2.2.2.2.2.2.2.1, panes.2.2.2.2.2.2.2.2.2.2.2.1, panes.2.2.2.2.2.2.2.2.2.2.2.2.1, panes.2.2.2.2.2.2.2.2.2.2.2.2.2, ()), ()))))) else (bif (n_.1 == 11) then (K (Sum.inr (Sum.inr (Sum.inr (Sum.inl ((panes.1, panes.2.1, panes.2.2.1, panes.2.2.2.1, panes.2.2.2.2.1, panes.2.2.2.2.2.1, panes.2.2.2.2.2.2.1, ()), (v_.1, v_.2.1, v_.2.2.1, v_.2.2.2, ()), ())))))) else (K (Sum.inr (Sum.inr (Sum.inr (Sum.inr (Sum.inl ((n_.1, n_.2.1, n_.2.2.1, n_.2.2.2.1, n_.2.2.2.2.1, n_.2.2.2.2.2.1, n_.2.2.2.2.2.2.1, n_.2.2.2.2.2.2.2.1, n_.2.2.2.2.2.2.2.2.1, n_.2.2.2.2.2.2.2.2.2.1, n_.2.2.2.2.2.2.2.2.2.2.1, n_.2.2.2.2.2.2.2.2.2.2.2.1, n_.2.2.2.2.2.2.2.2.2.2.2.2.1, n_.2.2.2.2.2.2.2.2.2.2.2.2.2, ()), (panes.1, panes.2.1, panes.2.2.1, panes.2.2.2.1, panes.2.2.2.2.1, panes.2.2.2.2.2.1, panes.2.2.2.2.2.2.1, ()), ())))))))))))))))
def kern_made : (U7 ⊕ ((U1 × Unit) ⊕ (U6 ⊕ ((U1 × (Int × Int × Int × Int × Unit) × Unit) ⊕ (U8 ⊕ (U8 ⊕ (U8 ⊕ (U8 ⊕ U11)))))))) := kern_made_q n_ v_ panes (fun y => y)
noncomputable def cp51 : CallP := withP cp50 51 [(.agg tsNode), (.agg tsI4), (.agg tsA8)] false [(.one (.alt (.fn 74 Z4) (.alt (.fn 76 Z1) (.alt (.fn 77 (.cons Z0 (.cons (.cell (.cons (.g (.int .i64)) (.cons (.g (.int .i64)) (.cons (.g (.int .i64)) (.cons (.g (.int .i64)) (.cons (.g (.int .i64)) (.cons (.g (.int .i64)) (.cons (.g (.sl (.one (.int .i8)))) (.cons (.g (.int .i64)) (.cons (.g (.int .i64)) (.cons (.g (.int .i64)) (.cons (.g (.int .i64)) (.cons (.g (.int .i64)) (.cons (.g (.int .i64)) (.cons (.g (.sl (.one (.int .i8)))) .nil))))))))))))))) .nil))) (.alt (.fn 78 (.cons Z0 (.cons (.cell (.cons (.g (.int .i64)) (.cons (.g (.int .i64)) (.cons (.g (.int .i64)) (.cons (.g (.int .i64)) .nil))))) .nil))) (.alt (.fn 80 Z5) (.alt (.fn 83 Z5) (.alt (.fn 87 Z5) (.alt (.fn 88 Z5) (.fn 91 (.cons Z0 Z4)))))))))))] (fun x => kern_made x.1 x.2.1 x.2.2.1)
theorem cp51_ok : PureOK E cp51 := conP (hn := (.l (.l (.l (.l (.j (.c .e .e) true (.k [.r 12] (.c (.j .e true (.k [.r 6] .e .e)) (.c (.j .e true (.k [.r 6] .e .e)) (.j (.c .e .e) true (.k [.r 23] (.c (.j .e true (.k [.r 6] .e .e)) (.j (.c .e .e) true (.k [.r 29] (.c (.j .e true (.k [.r 6] .e .e)) (.c .e (.c .e (.c .e (.c .e .e))))) .e))) .e)))) .e))))))) false eok cp50_ok noE_ok (fun x => by kernel_rfl) fun x => by kernel_rfl
end
section
variable {β : Type} (p_ : pane) (y_ : Int) (x_ : Int) (c_ : Int)
def kern_pane_at_r2_q (K : Bool → β) : β := (bif (decide (y_ < 0)) then (K true) else (bif (decide (y_ ≥ p_.1)) then (K true) else (bif (decide (x_ < 0)) then (K true) else (K (decide (x_ ≥ p_.2.1))))))
def kern_pane_at_r2_p : Bool := kern_pane_at_r2_q p_ y_ x_ (fun y => y)
def kern_pane_at_r4_p : Option Int := (bif (decide ((0 : Int) ≤ (IntKind.wrap .i64 ((IntKind.wrap .i64 ((IntKind.wrap .i64 ((IntKind.wrap .i64 ((IntKind.wrap .i64 (y_ - p_.2.2.2.2.1)) * p_.2.1)) + x_)) * p_.2.2.1)) + c_)))) then (bif (decide ((IntKind.wrap .i64 ((IntKind.wrap .i64 ((IntKind.wrap .i64 ((IntKind.wrap .i64 ((IntKind.wrap .i64 (y_ - p_.2.2.2.2.1)) * p_.2.1)) + x_)) * p_.2.2.1)) + c_)) < (p_.2.2.2.2.2.2.length : Int))) then (some (IntKind.wrap .i64 ((IntKind.wrap .i64 (gt p_.2.2.2.2.2.2 (IntKind.wrap .i64 ((IntKind.wrap .i64 ((IntKind.wrap .i64 ((IntKind.wrap .i64 ((IntKind.wrap .i64 (y_ - p_.2.2.2.2.1)) * p_.2.1)) + x_)) * p_.2.2.1)) + c_)) (0 : Int))) - p_.2.2.2.1))) else none) else none)
/-- (quilt/kern.pane).at -/
def kern_pane_at : Option Int := (bif (kern_pane_at_r2_p p_ y_ x_) then (some (0 : Int)) else (Option.bind (kern_pane_at_r4_p p_ y_ x_ c_) (fun y552 : Int => (some y552))))
noncomputable def cp52 : CallP := withC cp51 75 [(.agg tspane), pI, pI, pI] false [pI] (fun x => kern_pane_at x.1 x.2.1 x.2.2.1 x.2.2.2.1)
theorem cp52_ok : PureOK E cp52 := conC (hn := (.l (.l (.l (.j (.x (.c .e (.l (.l (.l (.c .e (.l (.c .e .e)))))))) true (.k [.r 30] (.c .e (.j .e false (.k [.r 8] .e .e))) .e)))))) false eok cp51_ok noE_ok (fun x => by kernel_rfl) fun x => by kernel_rfl
end
/-- quilt/kern.made$1 -/
def kern_made_1 (y_ : Int) (x_ : Int) (c_ : Int) (c3_ : pane) (c4_ : Node) : Option Int := (Option.bind (kern_pane_at c3_ y_ x_ c_) (fun y553 : Int => (some (max (IntKind.wrap .i64 (y553 + c3_.2.2.2.1)) c4_.2.2.2.2.2.2.2.2.1))))
noncomputable def cp53 : CallP := withC cp52 74 [pI, pI, pI, (.one Z0), (.one Z2)] false [pI] (fun x => kern_made_1 x.1 x.2.1 x.2.2.1 (x.2.2.2.1.1, x.2.2.2.1.2.1, x.2.2.2.1.2.2.1, x.2.2.2.1.2.2.2.1, x.2.2.2.1.2.2.2.2.1, x.2.2.2.1.2.2.2.2.2.1, x.2.2.2.1.2.2.2.2.2.2.1) (x.2.2.2.2.1.1, x.2.2.2.2.1.2.1, x.2.2.2.2.1.2.2.1, x.2.2.2.2.1.2.2.2.1, x.2.2.2.2.1.2.2.2.2.1, x.2.2.2.2.1.2.2.2.2.2.1, x.2.2.2.2.1.2.2.2.2.2.2.1, x.2.2.2.2.1.2.2.2.2.2.2.2.1, x.2.2.2.2.1.2.2.2.2.2.2.2.2.1, x.2.2.2.2.1.2.2.2.2.2.2.2.2.2.1, x.2.2.2.2.1.2.2.2.2.2.2.2.2.2.2.1, x.2.2.2.2.1.2.2.2.2.2.2.2.2.2.2.2.1, x.2.2.2.2.1.2.2.2.2.2.2.2.2.2.2.2.2.1, x.2.2.2.2.1.2.2.2.2.2.2.2.2.2.2.2.2.2.1))
theorem cp53_ok : PureOK E cp53 := conC (hn := .e) false eok cp52_ok noE_ok (fun x => by kernel_rfl) fun x => by kernel_rfl
/-- quilt/kern.made$2 -/
def kern_made_2 (y_ : Int) (x_ : Int) (c_ : Int) (c3_ : pane) : Option Int := (Option.bind (kern_pane_at c3_ (IntKind.wrap .i64 (y_ - 1)) (IntKind.wrap .i64 (x_ - 1)) c_) (fun y556 : Int => (some (IntKind.wrap .i64 (y556 + c3_.2.2.2.1)))))
noncomputable def cp54 : CallP := withC cp53 76 [pI, pI, pI, (.one Z0)] false [pI] (fun x => kern_made_2 x.1 x.2.1 x.2.2.1 (x.2.2.2.1.1, x.2.2.2.1.2.1, x.2.2.2.1.2.2.1, x.2.2.2.1.2.2.2.1, x.2.2.2.1.2.2.2.2.1, x.2.2.2.1.2.2.2.2.2.1, x.2.2.2.1.2.2.2.2.2.2.1))
theorem cp54_ok : PureOK E cp54 := conC (hn := .e) false eok cp53_ok noE_ok (fun x => by kernel_rfl) fun x => by kernel_rfl
end Go.V.P
