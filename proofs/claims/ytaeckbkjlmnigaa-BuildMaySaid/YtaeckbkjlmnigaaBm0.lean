/- What functions compute. -/
import Derived.Test.YtaeckbkjlmnigaaHPut2
namespace Go.V.P
open Go.RowKit Go.V Go.Proofs
set_option linter.unusedVariables false
set_option maxRecDepth 100000
section
variable {β : Type} (low : Int) (high : Int)
def shape_within_q (K : ((Int × Unit) × (Int × Unit) × Unit) → β) : β := (K ((low, ()), (high, ()), ()))
def shape_within : ((Int × Unit) × (Int × Unit) × Unit) := shape_within_q low high (fun y => y)
noncomputable def cp1 : CallP := withP bldP 112 [pI, pI] false [(.one (.fn 115 (.cons (.cell (.cons (.g (.int .i64)) .nil)) (.cons (.cell (.cons (.g (.int .i64)) .nil)) .nil))))] (fun x => shape_within x.1 x.2.1)
theorem cp1_ok : PureOK E cp1 := conP (hn := .e) false eok bldP_ok noE_ok (fun x => by kernel_rfl) fun x => by kernel_rfl
end
section
variable {β : Type} (l_ : (List Int)) (c1_ : Int) (c2_ : Int) (s14 : Int)
def shape_within_1_r3_p : Option Unit := (bif (decide ((0 : Int) ≤ s14)) then (bif (decide (s14 < (l_.length : Int))) then (some ()) else none) else none)
def shape_within_1_r4_q (K : Bool → β) : β := (bif (decide ((gt l_ s14 (0 : Int)) < c1_)) then (K true) else (K (decide ((gt l_ s14 (0 : Int)) > c2_))))
def shape_within_1_r4_p : Bool := shape_within_1_r4_q l_ c1_ c2_ s14 (fun y => y)
def shape_within_1_l2_p : Option (Int ⊕ (Int ⊕ Unit)) := (bif (decide (s14 < (l_.length : Int))) then (Option.bind (shape_within_1_r3_p l_ s14) (fun y16 : Unit => (bif (shape_within_1_r4_p l_ c1_ c2_ s14) then (some (Sum.inr (Sum.inr ()))) else (some (Sum.inl (IntKind.wrap .i64 (s14 + 1))))))) else (some (Sum.inr (Sum.inl s14))))
def shape_within_1 : Option Bool := (Option.bind (iterN (shape_within_1_l2_p l_ c1_ c2_) LL (0 : Int)) (either (fun y17 : Int => (some true)) (fun y18 : Unit => (some false))))
noncomputable def cp2 : CallP := withC cp1 115 [(.one (.g (.sl (.one (.int .i64))))), (.one (.cell (.cons (.g (.int .i64)) .nil))), (.one (.cell (.cons (.g (.int .i64)) .nil)))] false [pB] (fun x => shape_within_1 x.1 x.2.1.1 x.2.2.1.1)
theorem cp2_ok : PureOK E cp2 := conC (hn := (.w (.c (.l (.j .e false (.k [] (.j (.x (.c .e .e)) true (.k [.r 20] (.c .e .e) .e)) .e))) .e) [.r 9] (.k [.r 9] .e (.k [] .e .e)))) false eok cp1_ok noE_ok (fun x => by kernel_rfl) fun x => by kernel_rfl
end
def shape_may_r1_p (s_ : I3) : Option Bool := (Option.bind (shape_within_1 [s_.1, s_.2.1] (((shape_within (1 : Int) (16 : Int)).1).1) (((shape_within (1 : Int) (16 : Int)).2.1).1)) (fun y19 : Bool => (bif y19 then (Option.bind (shape_within_1 [s_.2.2] (((shape_within (1 : Int) (8 : Int)).1).1) (((shape_within (1 : Int) (8 : Int)).2.1).1)) (fun y20 : Bool => (some y20))) else (some false))))
def shape_may (s_ : I3) : Option Bool := (Option.bind (shape_may_r1_p s_) (fun y21 : Bool => (some y21)))
noncomputable def cp3 : CallP := withC cp2 92 [(.agg tsI3)] false [pB] (fun x => shape_may x.1)
theorem cp3_ok : PureOK E cp3 := conC (hn := (.l (.j (.x (.c .e .e)) false (.k [.r 2] .e .e)))) false eok cp2_ok noE_ok (fun x => by kernel_rfl) fun x => by kernel_rfl
def shape_May (s_ : I3) : Option Int := (Option.bind (shape_may s_) (fun y23 : Bool => (bif (!y23) then (some (10 : Int)) else (some (0 : Int)))))
noncomputable def cp4 : CallP := withC cp3 79 [(.agg tsI3)] false [pI] (fun x => shape_May x.1)
theorem cp4_ok : PureOK E cp4 := conC (hn := (.c .e .e)) false eok cp3_ok noE_ok (fun x => by kernel_rfl) fun x => by kernel_rfl
section
variable {β : Type} (x_ : Int) (low : Int) (high : Int)
def graph_within_r1_q (K : Bool → β) : β := (bif (decide (x_ ≥ low)) then (K (decide (x_ ≤ high))) else (K false))
def graph_within_r1_p : Bool := graph_within_r1_q x_ low high (fun y => y)
def graph_within_q (K : Bool → β) : β := (K (graph_within_r1_p x_ low high))
def graph_within : Bool := graph_within_q x_ low high (fun y => y)
noncomputable def cp5 : CallP := withP cp4 82 [pI, pI, pI] false [pB] (fun x => graph_within x.1 x.2.1 x.2.2.1)
theorem cp5_ok : PureOK E cp5 := conP (hn := (.l (.j (.x (.c .e .e)) true (.k [.r 6] .e .e)))) false eok cp4_ok noE_ok (fun x => by kernel_rfl) fun x => by kernel_rfl
end
def slices_Cloneapi_Value_api_Value (s_ : (List I4)) : Option (List I4) := bif s_.isEmpty then some [] else bif decide (([] : (List I4)).length + s_.length ≤ maxL) then some ([] ++ s_) else none
noncomputable def cp6 : CallP := withC cp5 90 [(.one (.g (.sl tsI4)))] false [.one (.ow tsI4)] (fun x => slices_Cloneapi_Value_api_Value x.1)
theorem cp6_ok : PureOK E cp6 := conClone (e := tsI4) true eok cp5_ok noE_ok (by kernel_rfl) (by kernel_rfl) (by kernel_rfl) (by kernel_rfl) (fun x l => by kernel_rfl) fun x l => by kernel_rfl
section
variable {β : Type} (g_ : Graph) (s39 : Int)
def graph_goesIn_r1_q (K : Bool → β) : β := (bif (decide ((g_.1.length : Int) > 4)) then (K true) else (bif (decide ((g_.2.1.length : Int) > 12)) then (K true) else (K (decide ((g_.2.2.length : Int) > 4)))))
def graph_goesIn_r1_p : Bool := graph_goesIn_r1_q g_ (fun y => y)
def graph_goesIn_r3_q (K : Bool → β) : β := (bif ((g_.1.length : Int) == 0) then (K true) else (K ((g_.2.2.length : Int) == 0)))
def graph_goesIn_r3_p : Bool := graph_goesIn_r3_q g_ (fun y => y)
def graph_goesIn_r7_p : Option Unit := (bif (decide ((0 : Int) ≤ s39)) then (bif (decide (s39 < (g_.1.length : Int))) then (some ()) else none) else none)
def graph_goesIn_l6_p : Option (Int ⊕ (Int ⊕ Int)) := (bif (decide (s39 < (g_.1.length : Int))) then (Option.bind (graph_goesIn_r7_p g_ s39) (fun y42 : Unit => (Option.bind (shape_May ((gt g_.1 s39 dI4).1, (gt g_.1 s39 dI4).2.1, (gt g_.1 s39 dI4).2.2.1)) (fun y43 : Int => (bif (y43 != 0) then (some (Sum.inr (Sum.inr (10 : Int)))) else (bif (!(graph_within ((gt g_.1 s39 dI4).2.2.2) (-128 : Int) (127 : Int))) then (some (Sum.inr (Sum.inr (11 : Int)))) else (some (Sum.inl (IntKind.wrap .i64 (s39 + 1)))))))))) else (some (Sum.inr (Sum.inl s39))))
def graph_goesIn : Option ((List I4) × Int) := (bif (graph_goesIn_r1_p g_) then (some ([], (3 : Int))) else (bif (graph_goesIn_r3_p g_) then (some ([], (13 : Int))) else (Option.bind (iterN (graph_goesIn_l6_p g_) LL (0 : Int)) (either (fun y44 : Int => (Option.bind (slices_Cloneapi_Value_api_Value g_.1) (fun y46 : (List I4) => (some (y46, (0 : Int)))))) (fun y45 : Int => (some ([], y45)))))))
noncomputable def cp7 : CallP := withC cp6 69 [(.agg tsGraph)] true [(.one (.ow tsI4)), pI] (fun x => graph_goesIn x.1)
theorem cp7_ok : PureOK E cp7 := conC (hn := (.l (.l (.j (.x (.c .e (.l (.l (.l (.c .e .e)))))) true (.k [.r 6] (.c .e (.j (.x (.c .e .e)) true (.k [.r 23] (.c .e (.w (.c (.l (.j .e false (.k [] (.c .e (.c .e .e)) .e))) .e) [.r 37] (.k [.r 37] .e (.k [.r 3] .e .e)))) .e))) .e))))) true eok cp6_ok noE_ok (fun x => by kernel_rfl) fun x => by kernel_rfl
end
section
variable {β : Type} (vals : (List I4)) (l_ : (List Int)) (s67 : ((List I4) × Int))
def graph_picked_r3_p : Option Unit := (bif (decide ((0 : Int) ≤ s67.2)) then (bif (decide (s67.2 < (l_.length : Int))) then (some ()) else none) else none)
def graph_picked_r4_q (K : Bool → β) : β := (K (!(graph_within (gt l_ s67.2 (0 : Int)) (0 : Int) (IntKind.wrap .i64 ((vals.length : Int) - 1)))))
def graph_picked_r4_p : Bool := graph_picked_r4_q vals l_ s67 (fun y => y)
def graph_picked_r6_p : Option Unit := (bif (decide ((0 : Int) ≤ (gt l_ s67.2 (0 : Int)))) then (bif (decide ((gt l_ s67.2 (0 : Int)) < (vals.length : Int))) then (bif (decide (s67.1.length + ([(gt vals (gt l_ s67.2 (0 : Int)) dI4)] : List I4).length ≤ maxL)) then (some ()) else none) else none) else none)
def graph_picked_l2_p : Option (((List I4) × Int) ⊕ (((List I4) × Int) ⊕ Unit)) := (bif (decide (s67.2 < (l_.length : Int))) then (Option.bind (graph_picked_r3_p l_ s67) (fun y70 : Unit => (bif (graph_picked_r4_p vals l_ s67) then (some (Sum.inr (Sum.inr ()))) else (Option.bind (graph_picked_r6_p vals l_ s67) (fun y71 : Unit => (some (Sum.inl ((s67.1 ++ [(gt vals (gt l_ s67.2 (0 : Int)) dI4)]), (IntKind.wrap .i64 (s67.2 + 1)))))))))) else (some (Sum.inr (Sum.inl s67))))
def graph_picked : Option ((List I4) × Bool) := (Option.bind (iterN (graph_picked_l2_p vals l_) LL ([], (0 : Int))) (either (fun y72 : ((List I4) × Int) => (some (y72.1, true))) (fun y73 : Unit => (some ([], false)))))
noncomputable def cp8 : CallP := withC cp7 70 [(pL tsI4), (.one (.g (.sl (.one (.int .i64)))))] true [(.one (.ow tsI4)), pB] (fun x => graph_picked x.1 x.2.1)
theorem cp8_ok : PureOK E cp8 := conC (hn := (.w (.c (.l (.j .e false (.k [] (.l (.j .e true (.k [.r 19] (.c .e (.j .e false (.k [] .e .e))) .e))) .e))) .e) [.r 4, .r 10] (.k [.r 4, .r 10] .e (.k [] .e .e)))) true eok cp7_ok noE_ok (fun x => by kernel_rfl) fun x => by kernel_rfl
end
def graph_of_j15_q {β : Type} (op : Int) (K : Bool → β) : β := (bif (op == 4) then (K (op == 4)) else (K (op == 5)))
def graph_of_j15_p (op : Int) : Bool := graph_of_j15_q op (fun y => y)
def graph_of_j18_q {β : Type} (op : Int) (K : Bool → β) : β := (bif (op == 6) then (K (op == 6)) else (K (op == 7)))
def graph_of_j18_p (op : Int) : Bool := graph_of_j18_q op (fun y => y)
def graph_of_j2_p (op : Int) : Option ((Int × Bool × Bool × Bool × Bool × Bool × U3 × (Unit ⊕ (Unit ⊕ (Unit ⊕ (Unit ⊕ Unit))))) ⊕ Unit) := (bif (op == 1) then (some (Sum.inl ((1 : Int), true, true, false, true, false, (Sum.inr (Sum.inr (Sum.inr (Sum.inr (Sum.inr (Sum.inr (Sum.inl ()))))))), (Sum.inr (Sum.inr (Sum.inr (Sum.inl ()))))))) else (bif (op == 2) then (some (Sum.inl ((1 : Int), true, true, false, false, false, (Sum.inr (Sum.inr (Sum.inr (Sum.inr (Sum.inr (Sum.inr (Sum.inr ()))))))), (Sum.inr (Sum.inr (Sum.inr (Sum.inr ()))))))) else (bif (op == 3) then (some (Sum.inl ((1 : Int), false, false, false, true, false, (Sum.inl ()), (Sum.inl ())))) else (bif (graph_of_j15_p op) then (some (Sum.inl ((1 : Int), true, false, false, false, true, (Sum.inr (Sum.inr (Sum.inr (Sum.inr (Sum.inr (Sum.inr (Sum.inr ()))))))), (Sum.inr (Sum.inr (Sum.inl ())))))) else (bif (graph_of_j18_p op) then (some (Sum.inl ((2 : Int), false, false, false, false, false, (Sum.inr (Sum.inl ())), (Sum.inr (Sum.inr (Sum.inl ())))))) else (bif (op == 8) then (some (Sum.inl ((1 : Int), false, false, false, false, true, (Sum.inr (Sum.inr (Sum.inr (Sum.inr (Sum.inr (Sum.inl ())))))), (Sum.inr (Sum.inr (Sum.inl ())))))) else (bif (op == 9) then (some (Sum.inl ((1 : Int), false, false, true, false, true, (Sum.inr (Sum.inr (Sum.inl ()))), (Sum.inr (Sum.inr (Sum.inl ())))))) else (bif (op == 10) then (some (Sum.inl ((2 : Int), false, false, false, false, true, (Sum.inr (Sum.inr (Sum.inr (Sum.inl ())))), (Sum.inr (Sum.inr (Sum.inl ())))))) else (bif (op == 11) then (some (Sum.inl ((1 : Int), false, false, false, false, true, (Sum.inr (Sum.inr (Sum.inr (Sum.inr (Sum.inl ()))))), (Sum.inr (Sum.inr (Sum.inl ())))))) else (bif (op == 12) then (some (Sum.inl ((1 : Int), false, false, false, false, false, (Sum.inr (Sum.inr (Sum.inr (Sum.inr (Sum.inr (Sum.inl ())))))), (Sum.inr (Sum.inl ()))))) else (some (Sum.inr ()))))))))))))
def graph_of (op : Int) : Option U5 := (Option.bind (graph_of_j2_p op) (either (fun y75 : (Int × Bool × Bool × Bool × Bool × Bool × U3 × (Unit ⊕ (Unit ⊕ (Unit ⊕ (Unit ⊕ Unit))))) => (some ((y75.1, y75.2.1, y75.2.2.1, y75.2.2.2.1, y75.2.2.2.2.1, y75.2.2.2.2.2.1, ((either (fun u77 : Unit => (Sum.inl ())) (either (fun u78 : Unit => (Sum.inr (Sum.inl ()))) (either (fun u79 : Unit => (Sum.inr (Sum.inr (Sum.inl ())))) (either (fun u80 : Unit => (Sum.inr (Sum.inr (Sum.inr (Sum.inl ()))))) (either (fun u81 : Unit => (Sum.inr (Sum.inr (Sum.inr (Sum.inr (Sum.inl ())))))) (either (fun u82 : Unit => (Sum.inr (Sum.inr (Sum.inr (Sum.inr (Sum.inr (Sum.inl ()))))))) (either (fun u83 : Unit => (Sum.inr (Sum.inr (Sum.inr (Sum.inr (Sum.inr (Sum.inr (Sum.inl ())))))))) (fun u84 : Unit => (Sum.inr (Sum.inr (Sum.inr (Sum.inr (Sum.inr (Sum.inr (Sum.inr (Sum.inl ())))))))))))))))) y75.2.2.2.2.2.2.1), ((either (fun u85 : Unit => (Sum.inl ())) (either (fun u86 : Unit => (Sum.inr (Sum.inl ()))) (either (fun u87 : Unit => (Sum.inr (Sum.inr (Sum.inl ())))) (either (fun u88 : Unit => (Sum.inr (Sum.inr (Sum.inr (Sum.inl ()))))) (fun u89 : Unit => (Sum.inr (Sum.inr (Sum.inr (Sum.inr (Sum.inl ())))))))))) y75.2.2.2.2.2.2.2), ()), true))) (fun y76 : Unit => (some (((0 : Int), false, false, false, false, false, (Sum.inr (Sum.inr (Sum.inr (Sum.inr (Sum.inr (Sum.inr (Sum.inr (Sum.inr ())))))))), (Sum.inr (Sum.inr (Sum.inr (Sum.inr (Sum.inr ()))))), ()), false)))))
noncomputable def cp9 : CallP := withC cp8 74 [pI] true [(.aggs (.cons (.g (.int .i64)) (.cons (.g .bool) (.cons (.g .bool) (.cons (.g .bool) (.cons (.g .bool) (.cons (.g .bool) (.cons (.alt (.fn 100 .nil) (.alt (.fn 102 .nil) (.alt (.fn 103 .nil) (.alt (.fn 104 .nil) (.alt (.fn 105 .nil) (.alt (.fn 93 .nil) (.alt (.fn 95 .nil) (.alt (.fn 98 .nil) .nilFn)))))))) (.cons (.alt (.fn 101 .nil) (.alt (.fn 106 .nil) (.alt (.fn 94 .nil) (.alt (.fn 97 .nil) (.alt (.fn 99 .nil) .nilFn))))) .nil))))))))), pB] (fun x => graph_of x.1)
theorem cp9_ok : PureOK E cp9 := conC (hn := (.l (.l (.j (.c .e (.c .e (.c .e (.j (.c .e .e) true (.k [.r 26] (.c .e (.j (.c .e .e) true (.k [.r 32] (.c .e (.c .e (.c .e (.c .e (.c .e (.c .e .e)))))) .e))) .e))))) false (.k [.h 1 0, .h 1 1, .h 1 2, .h 1 3, .h 1 4, .h 1 5, .q (.alt (.fn 100 .nil) (.alt (.fn 102 .nil) (.alt (.fn 103 .nil) (.alt (.fn 104 .nil) (.alt (.fn 105 .nil) (.alt (.fn 93 .nil) (.alt (.fn 95 .nil) (.fn 98 .nil)))))))) (.h 1 6), .q (.alt (.fn 101 .nil) (.alt (.fn 106 .nil) (.alt (.fn 94 .nil) (.alt (.fn 97 .nil) (.fn 99 .nil))))) (.h 1 7)] .e (.k [] .e .e)))))) false eok cp8_ok noE_ok (fun x => by kernel_rfl) fun x => by kernel_rfl
section
variable {β : Type} (k_ : Int) (k_' : Bool) (k_'' : Bool) (k_''' : Bool) (k_'''' : Bool) (k_''''' : Bool) (k_'''''' : (Unit ⊕ U3)) (k_''''''' : U1) (n_ : Node) (in_ : (List I4))
def graph_kind_may_r1_q (K : Bool → β) : β := (bif ((in_.length : Int) == k_) then (bif (graph_within n_.2.2.2.2.2.2.1 (1 : Int) (32767 : Int)) then (bif (graph_within n_.2.2.2.2.2.2.2.1 (0 : Int) (31 : Int)) then (K (graph_within n_.2.2.2.2.2.2.2.2.1 (-128 : Int) (127 : Int))) else (K false)) else (K false)) else (K false))
def graph_kind_may_r1_p : Bool := graph_kind_may_r1_q k_ n_ in_ (fun y => y)
def graph_kind_may_r2_q (K : Bool → β) : β := (bif (graph_kind_may_r1_p k_ n_ in_) then (bif (n_.1 == 11) then (K true) else (K ((n_.2.2.2.2.2.2.2.2.2.1 == 0) && ((n_.2.2.2.2.2.2.2.2.2.2.1 == 0) && ((n_.2.2.2.2.2.2.2.2.2.2.2.1 == 0) && true))))) else (K false))
def graph_kind_may_r2_p : Bool := graph_kind_may_r2_q k_ n_ in_ (fun y => y)
def graph_kind_may_r4_q (K : Bool → β) : β := (bif (graph_kind_may_r2_p k_ n_ in_) then (bif (graph_within n_.2.2.1 (1 : Int) (3 : Int)) then (K (graph_within n_.2.2.2.1 (1 : Int) (2 : Int))) else (K false)) else (K false))
def graph_kind_may_r4_p : Bool := graph_kind_may_r4_q k_ n_ in_ (fun y => y)
def graph_kind_may_r5_q (K : Bool → β) : β := (bif (graph_kind_may_r2_p k_ n_ in_) then (bif (n_.2.2.1 == 0) then (K (n_.2.2.2.1 == 0)) else (K false)) else (K false))
def graph_kind_may_r5_p : Bool := graph_kind_may_r5_q k_ n_ in_ (fun y => y)
def graph_kind_may_j3_q (K : Bool → β) : β := (bif k_' then (K (graph_kind_may_r4_p k_ n_ in_)) else (K (graph_kind_may_r5_p k_ n_ in_)))
def graph_kind_may_j3_p : Bool := graph_kind_may_j3_q k_ k_' n_ in_ (fun y => y)
def graph_kind_may_r8_q (K : Bool → β) : β := (bif (graph_kind_may_j3_p k_ k_' n_ in_) then (K (graph_within n_.2.2.2.2.1 (0 : Int) (min (1 : Int) (IntKind.wrap .i64 (n_.2.2.1 - 1))))) else (K false))
def graph_kind_may_r8_p : Bool := graph_kind_may_r8_q k_ k_' n_ in_ (fun y => y)
def graph_kind_may_r10_q (K : Bool → β) : β := (bif (graph_kind_may_j3_p k_ k_' n_ in_) then (K (n_.2.2.2.2.1 == 1)) else (K false))
def graph_kind_may_r10_p : Bool := graph_kind_may_r10_q k_ k_' n_ in_ (fun y => y)
def graph_kind_may_r6_q (K : Bool → β) : β := (bif (graph_kind_may_j3_p k_ k_' n_ in_) then (K (n_.2.2.2.2.1 == 0)) else (K false))
def graph_kind_may_r6_p : Bool := graph_kind_may_r6_q k_ k_' n_ in_ (fun y => y)
def graph_kind_may_j7_q (K : Bool → β) : β := (bif k_'' then (K (graph_kind_may_r8_p k_ k_' n_ in_)) else (bif k_''' then (K (graph_kind_may_r10_p k_ k_' n_ in_)) else (K (graph_kind_may_r6_p k_ k_' n_ in_))))
def graph_kind_may_j7_p : Bool := graph_kind_may_j7_q k_ k_' k_'' k_''' n_ in_ (fun y => y)
def graph_kind_may_r12_q (K : Bool → β) : β := (bif (graph_kind_may_j7_p k_ k_' k_'' k_''' n_ in_) then (K (graph_within n_.2.2.2.2.2.1 (1 : Int) (8 : Int))) else (K false))
def graph_kind_may_r12_p : Bool := graph_kind_may_r12_q k_ k_' k_'' k_''' n_ in_ (fun y => y)
def graph_kind_may_r13_q (K : Bool → β) : β := (bif (graph_kind_may_j7_p k_ k_' k_'' k_''' n_ in_) then (K (n_.2.2.2.2.2.1 == 0)) else (K false))
def graph_kind_may_r13_p : Bool := graph_kind_may_r13_q k_ k_' k_'' k_''' n_ in_ (fun y => y)
def graph_kind_may_q {β : Type} (k_ : Int) (k_' : Bool) (k_'' : Bool) (k_''' : Bool) (k_'''' : Bool) (k_''''' : Bool) (k_'''''' : (Unit ⊕ U3)) (k_''''''' : U1) (n_ : Node) (in_ : (List I4)) (K : Bool → β) : β := (bif k_'''' then (K (graph_kind_may_r12_p k_ k_' k_'' k_''' n_ in_)) else (K (graph_kind_may_r13_p k_ k_' k_'' k_''' n_ in_)))
def graph_kind_may : Bool := graph_kind_may_q k_ k_' k_'' k_''' k_'''' k_''''' k_'''''' k_''''''' n_ in_ (fun y => y)
noncomputable def cp10 : CallP := withP cp9 75 [(.aggs (.cons (.g (.int .i64)) (.cons (.g .bool) (.cons (.g .bool) (.cons (.g .bool) (.cons (.g .bool) (.cons (.g .bool) (.cons (.alt (.fn 100 .nil) (.alt (.fn 102 .nil) (.alt (.fn 103 .nil) (.alt (.fn 104 .nil) (.alt (.fn 105 .nil) (.alt (.fn 93 .nil) (.alt (.fn 95 .nil) (.alt (.fn 98 .nil) .nilFn)))))))) (.cons (.alt (.fn 101 .nil) (.alt (.fn 106 .nil) (.alt (.fn 94 .nil) (.alt (.fn 97 .nil) (.alt (.fn 99 .nil) .nilFn))))) .nil))))))))), (.agg tsNode), (pL tsI4)] false [pB] (fun x => graph_kind_may x.1.1 x.1.2.1 x.1.2.2.1 x.1.2.2.2.1 x.1.2.2.2.2.1 x.1.2.2.2.2.2.1 x.1.2.2.2.2.2.2.1 x.1.2.2.2.2.2.2.2.1 x.2.1 x.2.2.1)
theorem cp10_ok : PureOK E cp10 := conP (hn := (.l (.j (.x (.c (.l (.l (.c (.l (.l (.c .e .e))) .e))) .e)) true (.k [.r 7] (.j (.x (.c (.l (.l (.l (.c .e .e)))) .e)) true (.k [.r 7] (.j (.c (.j (.x (.c (.l (.l (.c .e .e))) .e)) true (.k [.r 7] .e .e)) (.j (.x (.c (.l (.l (.c .e .e))) .e)) true (.k [.r 7] .e .e))) true (.k [.r 7] (.j (.c (.j (.x (.c .e .e)) true (.k [.r 7] .e .e)) (.c (.j (.x (.c .e .e)) true (.k [.r 7] .e .e)) (.j (.x (.c .e .e)) true (.k [.r 7] .e .e)))) true (.k [.r 7] (.c (.j (.x (.c .e .e)) true (.k [.r 6] .e .e)) (.j (.x (.c .e .e)) true (.k [.r 6] .e .e))) .e)) .e)) .e)) .e)))) false eok cp9_ok noE_ok (fun x => by kernel_rfl) fun x => by kernel_rfl
end
section
variable {β : Type} (v_ : I4) (c1_ : Node)
def graph_Value_1_q (K : Bool → β) : β := (K (v_.2.2.2 != c1_.2.2.2.2.2.2.2.2.1))
def graph_Value_1 : Bool := graph_Value_1_q v_ c1_ (fun y => y)
noncomputable def cp11 : CallP := withP cp10 77 [(.agg tsI4), (.one Z3)] false [pB] (fun x => graph_Value_1 x.1 (x.2.1.1, x.2.1.2.1, x.2.1.2.2.1, x.2.1.2.2.2.1, x.2.1.2.2.2.2.1, x.2.1.2.2.2.2.2.1, x.2.1.2.2.2.2.2.2.1, x.2.1.2.2.2.2.2.2.2.1, x.2.1.2.2.2.2.2.2.2.2.1, x.2.1.2.2.2.2.2.2.2.2.2.1, x.2.1.2.2.2.2.2.2.2.2.2.2.1, x.2.1.2.2.2.2.2.2.2.2.2.2.2.1, x.2.1.2.2.2.2.2.2.2.2.2.2.2.2.1, x.2.1.2.2.2.2.2.2.2.2.2.2.2.2.2.1))
theorem cp11_ok : PureOK E cp11 := conP (hn := .e) false eok cp10_ok noE_ok (fun x => by kernel_rfl) fun x => by kernel_rfl
end
section
variable (s_ : (List I4)) (f_ : Node) (s102 : Int)
def slices_IndexFuncapi_Value_api_Value_r4_p : Option Unit := (bif (decide ((0 : Int) ≤ s102)) then (bif (decide (s102 < (s_.length : Int))) then (some ()) else none) else none)
def slices_IndexFuncapi_Value_api_Value_l2_p : Option (Int ⊕ (Int ⊕ Int)) := (bif (decide (s102 < (s_.length : Int))) then (Option.bind (slices_IndexFuncapi_Value_api_Value_r4_p s_ s102) (fun y104 : Unit => (bif (graph_Value_1 (gt s_ s102 dI4) f_) then (some (Sum.inr (Sum.inr s102))) else (some (Sum.inl (IntKind.wrap .i64 (s102 + 1))))))) else (some (Sum.inr (Sum.inl s102))))
def slices_IndexFuncapi_Value_api_Value : Option Int := (Option.bind (iterN (slices_IndexFuncapi_Value_api_Value_l2_p s_ f_) LL (0 : Int)) (either (fun y105 : Int => (some (-1 : Int))) (fun y106 : Int => (some y106))))
noncomputable def cp12 : CallP := withC cp11 107 [(pL tsI4), (.one (.fn 77 (.cons Z3 .nil)))] false [pI] (fun x => slices_IndexFuncapi_Value_api_Value x.1 (x.2.1.1.1, x.2.1.1.2.1, x.2.1.1.2.2.1, x.2.1.1.2.2.2.1, x.2.1.1.2.2.2.2.1, x.2.1.1.2.2.2.2.2.1, x.2.1.1.2.2.2.2.2.2.1, x.2.1.1.2.2.2.2.2.2.2.1, x.2.1.1.2.2.2.2.2.2.2.2.1, x.2.1.1.2.2.2.2.2.2.2.2.2.1, x.2.1.1.2.2.2.2.2.2.2.2.2.2.1, x.2.1.1.2.2.2.2.2.2.2.2.2.2.2.1, x.2.1.1.2.2.2.2.2.2.2.2.2.2.2.2.1, x.2.1.1.2.2.2.2.2.2.2.2.2.2.2.2.2.1))
theorem cp12_ok : PureOK E cp12 := conC (hn := (.w (.c (.l (.l (.j .e false (.k [] (.c .e .e) .e)))) .e) [.r 8] (.k [.r 8] .e (.k [.r 4] .e .e)))) false eok cp11_ok noE_ok (fun x => by kernel_rfl) fun x => by kernel_rfl
end
def slices_ContainsFuncapi_Value_api_Value (s_ : (List I4)) (f_ : Node) : Option Bool := (Option.bind (slices_IndexFuncapi_Value_api_Value s_ f_) (fun y107 : Int => (some (decide (y107 ≥ 0)))))
noncomputable def cp13 : CallP := withC cp12 76 [(pL tsI4), (.one (.fn 77 (.cons Z3 .nil)))] false [pB] (fun x => slices_ContainsFuncapi_Value_api_Value x.1 (x.2.1.1.1, x.2.1.1.2.1, x.2.1.1.2.2.1, x.2.1.1.2.2.2.1, x.2.1.1.2.2.2.2.1, x.2.1.1.2.2.2.2.2.1, x.2.1.1.2.2.2.2.2.2.1, x.2.1.1.2.2.2.2.2.2.2.1, x.2.1.1.2.2.2.2.2.2.2.2.1, x.2.1.1.2.2.2.2.2.2.2.2.2.1, x.2.1.1.2.2.2.2.2.2.2.2.2.2.1, x.2.1.1.2.2.2.2.2.2.2.2.2.2.2.1, x.2.1.1.2.2.2.2.2.2.2.2.2.2.2.2.1, x.2.1.1.2.2.2.2.2.2.2.2.2.2.2.2.2.1))
theorem cp13_ok : PureOK E cp13 := conC (hn := .e) false eok cp12_ok noE_ok (fun x => by kernel_rfl) fun x => by kernel_rfl
def graph_Value_2 (v_ : I4) : Option Bool := (Option.bind (shape_May (v_.1, v_.2.1, v_.2.2.1)) (fun y113 : Int => (some (y113 != 0))))
noncomputable def cp14 : CallP := withC cp13 78 [(.agg tsI4)] false [pB] (fun x => graph_Value_2 x.1)
theorem cp14_ok : PureOK E cp14 := conC (hn := .e) false eok cp13_ok noE_ok (fun x => by kernel_rfl) fun x => by kernel_rfl
section
variable (s_ : (List I4)) (s130 : Int)
def slices_IndexFuncapi_Value_api_Value_s2_r4_p : Option Bool := (bif (decide ((0 : Int) ≤ s130)) then (bif (decide (s130 < (s_.length : Int))) then (Option.bind (graph_Value_2 (gt s_ s130 dI4)) (fun y133 : Bool => (some y133))) else none) else none)
def slices_IndexFuncapi_Value_api_Value_s2_l2_p : Option (Int ⊕ (Int ⊕ Int)) := (bif (decide (s130 < (s_.length : Int))) then (Option.bind (slices_IndexFuncapi_Value_api_Value_s2_r4_p s_ s130) (fun y134 : Bool => (bif y134 then (some (Sum.inr (Sum.inr s130))) else (some (Sum.inl (IntKind.wrap .i64 (s130 + 1))))))) else (some (Sum.inr (Sum.inl s130))))
def slices_IndexFuncapi_Value_api_Value_s2 : Option Int := (Option.bind (iterN (slices_IndexFuncapi_Value_api_Value_s2_l2_p s_) LL (0 : Int)) (either (fun y135 : Int => (some (-1 : Int))) (fun y136 : Int => (some y136))))
noncomputable def cp15 : CallP := withC cp14 107 [(pL tsI4), (.one (.fn 78 .nil))] false [pI] (fun x => slices_IndexFuncapi_Value_api_Value_s2 x.1)
theorem cp15_ok : PureOK E cp15 := conC (hn := (.w (.c (.l (.l (.j .e false (.k [.r 16] (.c .e .e) .e)))) .e) [.r 8] (.k [.r 8] .e (.k [.r 4] .e .e)))) false eok cp14_ok noE_ok (fun x => by kernel_rfl) fun x => by kernel_rfl
end
def slices_ContainsFuncapi_Value_api_Value_s2 (s_ : (List I4)) : Option Bool := (Option.bind (slices_IndexFuncapi_Value_api_Value_s2 s_) (fun y137 : Int => (some (decide (y137 ≥ 0)))))
noncomputable def cp16 : CallP := withC cp15 76 [(pL tsI4), (.one (.fn 78 .nil))] false [pB] (fun x => slices_ContainsFuncapi_Value_api_Value_s2 x.1)
theorem cp16_ok : PureOK E cp16 := conC (hn := .e) false eok cp15_ok noE_ok (fun x => by kernel_rfl) fun x => by kernel_rfl
section
variable {β : Type} (n_ : Node) (a1 : I3) (a2 : I3)
def graph_of_4_q {β : Type} (n_ : Node) (a1 : I3) (a2 : I3) (K : I3 → β) : β := (K ((1 : Int), (1 : Int), n_.2.2.2.2.2.1))
def graph_of_4 : I3 := graph_of_4_q n_ a1 a2 (fun y => y)
noncomputable def cp17 : CallP := withP cp16 100 [(.agg tsNode), (.agg tsI3), (.agg tsI3)] false [(.agg tsI3)] (fun x => graph_of_4 x.1 x.2.1 x.2.2.1)
theorem cp17_ok : PureOK E cp17 := conP (hn := .e) false eok cp16_ok noE_ok (fun x => by kernel_rfl) fun x => by kernel_rfl
end
section
variable {β : Type} (a0 : Node) (a_ : I3) (b_ : I3)
def graph_same_q {β : Type} (a0 : Node) (a_ : I3) (b_ : I3) (K : I3 → β) : β := (bif (!((a_.1 == b_.1) && ((a_.2.1 == b_.2.1) && ((a_.2.2 == b_.2.2) && true)))) then (K ((0 : Int), (0 : Int), (0 : Int))) else (K a_))
def graph_same : I3 := graph_same_q a0 a_ b_ (fun y => y)
noncomputable def cp18 : CallP := withP cp17 102 [(.agg tsNode), (.agg tsI3), (.agg tsI3)] false [(.agg tsI3)] (fun x => graph_same x.1 x.2.1 x.2.2.1)
theorem cp18_ok : PureOK E cp18 := conP (hn := (.c .e .e)) false eok cp17_ok noE_ok (fun x => by kernel_rfl) fun x => by kernel_rfl
end
section
variable {β : Type} (a0 : Node) (a_ : I3) (a2 : I3)
def graph_of_6_q {β : Type} (a0 : Node) (a_ : I3) (a2 : I3) (K : I3 → β) : β := (K ((IntKind.wrap .i64 (a_.1 + 2)), (IntKind.wrap .i64 (a_.2.1 + 2)), a_.2.2))
def graph_of_6 : I3 := graph_of_6_q a0 a_ a2 (fun y => y)
noncomputable def cp19 : CallP := withP cp18 103 [(.agg tsNode), (.agg tsI3), (.agg tsI3)] false [(.agg tsI3)] (fun x => graph_of_6 x.1 x.2.1 x.2.2.1)
theorem cp19_ok : PureOK E cp19 := conP (hn := .e) false eok cp18_ok noE_ok (fun x => by kernel_rfl) fun x => by kernel_rfl
end
section
variable {β : Type} (a0 : Node) (a_ : I3) (b_ : I3)
def graph_beside_r1_q (K : Bool → β) : β := (bif (a_.1 != b_.1) then (K true) else (K (a_.2.1 != b_.2.1)))
def graph_beside_r1_p : Bool := graph_beside_r1_q a_ b_ (fun y => y)
def graph_beside_q {β : Type} (a0 : Node) (a_ : I3) (b_ : I3) (K : I3 → β) : β := (bif (graph_beside_r1_p a_ b_) then (K ((0 : Int), (0 : Int), (0 : Int))) else (K (a_.1, a_.2.1, (IntKind.wrap .i64 (a_.2.2 + b_.2.2)))))
def graph_beside : I3 := graph_beside_q a0 a_ b_ (fun y => y)
noncomputable def cp20 : CallP := withP cp19 104 [(.agg tsNode), (.agg tsI3), (.agg tsI3)] false [(.agg tsI3)] (fun x => graph_beside x.1 x.2.1 x.2.2.1)
theorem cp20_ok : PureOK E cp20 := conP (hn := (.l (.l (.j (.x (.c .e .e)) true (.k [.r 18] (.c .e .e) .e))))) false eok cp19_ok noE_ok (fun x => by kernel_rfl) fun x => by kernel_rfl
end
def shape_Row (s_ : I3) : Option Int := (Option.bind (shape_may s_) (fun y146 : Bool => (bif (!y146) then (some (0 : Int)) else (some (IntKind.wrap .i64 (s_.2.1 * s_.2.2))))))
noncomputable def cp21 : CallP := withC cp20 73 [(.agg tsI3)] false [pI] (fun x => shape_Row x.1)
theorem cp21_ok : PureOK E cp21 := conC (hn := (.c .e .e)) false eok cp20_ok noE_ok (fun x => by kernel_rfl) fun x => by kernel_rfl
def shape_Size (s_ : I3) : Option Int := (Option.bind (shape_Row s_) (fun y147 : Int => (some (IntKind.wrap .i64 (y147 * s_.1)))))
noncomputable def cp22 : CallP := withC cp21 55 [(.agg tsI3)] false [pI] (fun x => shape_Size x.1)
theorem cp22_ok : PureOK E cp22 := conC (hn := .e) false eok cp21_ok noE_ok (fun x => by kernel_rfl) fun x => by kernel_rfl
section
variable (n_ : Node) (a_ : I3)
def graph_anew_r1_p : Option Bool := (Option.bind (shape_Size (n_.2.2.2.2.2.2.2.2.2.1, n_.2.2.2.2.2.2.2.2.2.2.1, n_.2.2.2.2.2.2.2.2.2.2.2.1)) (fun y151 : Int => (Option.bind (shape_Size a_) (fun y152 : Int => (some (y151 != y152))))))
def graph_anew (a2 : I3) : Option I3 := (Option.bind (graph_anew_r1_p n_ a_) (fun y153 : Bool => (bif y153 then (some ((0 : Int), (0 : Int), (0 : Int))) else (some (n_.2.2.2.2.2.2.2.2.2.1, n_.2.2.2.2.2.2.2.2.2.2.1, n_.2.2.2.2.2.2.2.2.2.2.2.1)))))
noncomputable def cp23 : CallP := withC cp22 105 [(.agg tsNode), (.agg tsI3), (.agg tsI3)] false [(.agg tsI3)] (fun x => graph_anew x.1 x.2.1 x.2.2.1)
theorem cp23_ok : PureOK E cp23 := conC (hn := (.l (.l (.j .e false (.k [.r 12] (.c .e .e) .e))))) false eok cp22_ok noE_ok (fun x => by kernel_rfl) fun x => by kernel_rfl
end
section
variable {β : Type} (a0 : Node) (a_ : I3) (a2 : I3)
def graph_first_q {β : Type} (a0 : Node) (a_ : I3) (a2 : I3) (K : I3 → β) : β := (K a_)
def graph_first : I3 := graph_first_q a0 a_ a2 (fun y => y)
noncomputable def cp24 : CallP := withP cp23 93 [(.agg tsNode), (.agg tsI3), (.agg tsI3)] false [(.agg tsI3)] (fun x => graph_first x.1 x.2.1 x.2.2.1)
theorem cp24_ok : PureOK E cp24 := conP (hn := .e) false eok cp23_ok noE_ok (fun x => by kernel_rfl) fun x => by kernel_rfl
end
section
variable (size : Int) (k_ : Int) (stride : Int) (pad : Int)
def shape_Out_r1_p : Option Bool := (Option.bind (shape_within_1 [size] (((shape_within (1 : Int) (64 : Int)).1).1) (((shape_within (1 : Int) (64 : Int)).2.1).1)) (fun y161 : Bool => (bif (!y161) then (some true) else (Option.bind (shape_within_1 [k_, stride] (((shape_within (1 : Int) (16 : Int)).1).1) (((shape_within (1 : Int) (16 : Int)).2.1).1)) (fun y162 : Bool => (bif (!y162) then (some true) else (Option.bind (shape_within_1 [pad] (((shape_within (0 : Int) (16 : Int)).1).1) (((shape_within (0 : Int) (16 : Int)).2.1).1)) (fun y163 : Bool => (bif (!y163) then (some true) else (some (decide (k_ > (IntKind.wrap .i64 (size + (IntKind.wrap .i64 ((2 : Int) * pad))))))))))))))))
def shape_Out_r3_p : Option Int := (bif (stride == 0) then none else (some (IntKind.wrap .i64 ((1 : Int) + (IntKind.wrap .i64 (Int.tdiv (IntKind.wrap .i64 ((IntKind.wrap .i64 (size + (IntKind.wrap .i64 ((2 : Int) * pad)))) - k_)) stride))))))
def shape_Out : Option Int := (Option.bind (shape_Out_r1_p size k_ stride pad) (fun y164 : Bool => (bif y164 then (some (0 : Int)) else (Option.bind (shape_Out_r3_p size k_ stride pad) (fun y165 : Int => (some y165))))))
noncomputable def cp25 : CallP := withC cp24 113 [pI, pI, pI, pI] false [pI] (fun x => shape_Out x.1 x.2.1 x.2.2.1 x.2.2.2.1)
theorem cp25_ok : PureOK E cp25 := conC (hn := (.l (.l (.j (.x (.c .e (.l (.l (.l (.l (.l (.c .e (.l (.l (.l (.l (.c .e .e))))))))))))) false (.k [.r 36] (.c .e (.j (.x (.c .e .e)) false (.k [.r 8] .e .e))) .e))))) false eok cp24_ok noE_ok (fun x => by kernel_rfl) fun x => by kernel_rfl
end
section
variable (n_ : Node) (s_ : I3)
def graph_slid_r1_p : Option (Int × Int) := (Option.bind (shape_Out s_.1 n_.2.2.1 n_.2.2.2.1 n_.2.2.2.2.1) (fun y166 : Int => (Option.bind (shape_Out s_.2.1 n_.2.2.1 n_.2.2.2.1 n_.2.2.2.2.1) (fun y167 : Int => (some (y166, y167))))))
def graph_slid (c_ : Int) : Option I3 := (Option.bind (graph_slid_r1_p n_ s_) (fun y168 : (Int × Int) => (some (y168.1, y168.2, c_))))
noncomputable def cp26 : CallP := withC cp25 96 [(.agg tsNode), (.agg tsI3), pI] false [(.agg tsI3)] (fun x => graph_slid x.1 x.2.1 x.2.2.1)
theorem cp26_ok : PureOK E cp26 := conC (hn := (.l (.j .e false (.k [.h 0 0, .h 0 1] .e .e)))) false eok cp25_ok noE_ok (fun x => by kernel_rfl) fun x => by kernel_rfl
end
def graph_of_1 (n_ : Node) (a_ : I3) (a2 : I3) : Option I3 := (Option.bind (graph_slid n_ a_ n_.2.2.2.2.2.1) (fun y169 : I3 => (some y169)))
noncomputable def cp27 : CallP := withC cp26 95 [(.agg tsNode), (.agg tsI3), (.agg tsI3)] false [(.agg tsI3)] (fun x => graph_of_1 x.1 x.2.1 x.2.2.1)
theorem cp27_ok : PureOK E cp27 := conC (hn := .e) false eok cp26_ok noE_ok (fun x => by kernel_rfl) fun x => by kernel_rfl
def graph_pooled (n_ : Node) (a_ : I3) (a2 : I3) : Option I3 := (Option.bind (graph_slid n_ a_ a_.2.2) (fun y172 : I3 => (some y172)))
noncomputable def cp28 : CallP := withC cp27 98 [(.agg tsNode), (.agg tsI3), (.agg tsI3)] false [(.agg tsI3)] (fun x => graph_pooled x.1 x.2.1 x.2.2.1)
theorem cp28_ok : PureOK E cp28 := conC (hn := .e) false eok cp27_ok noE_ok (fun x => by kernel_rfl) fun x => by kernel_rfl
def graph_of_5 (n_ : Node) (s_ : I3) : Option (Int × Int) := (Option.bind (shape_Size s_) (fun y179 : Int => (some ((IntKind.wrap .i64 (y179 * n_.2.2.2.2.2.1)), n_.2.2.2.2.2.1))))
noncomputable def cp29 : CallP := withC cp28 101 [(.agg tsNode), (.agg tsI3)] true [pI, pI] (fun x => graph_of_5 x.1 x.2.1)
theorem cp29_ok : PureOK E cp29 := conC (hn := .e) false eok cp28_ok noE_ok (fun x => by kernel_rfl) fun x => by kernel_rfl
section
variable {β : Type} (a0_ : Node) (a1_ : I3)
def graph_of_7_q {β : Type} (a0_ : Node) (a1_ : I3) (K : (Int × Int) → β) : β := (K ((256 : Int), (0 : Int)))
def graph_of_7 : (Int × Int) := graph_of_7_q a0_ a1_ (fun y => y)
noncomputable def cp30 : CallP := withP cp29 106 [(.agg tsNode), (.agg tsI3)] true [pI, pI] (fun x => graph_of_7 x.1 x.2.1)
theorem cp30_ok : PureOK E cp30 := conP (hn := .e) false eok cp29_ok noE_ok (fun x => by kernel_rfl) fun x => by kernel_rfl
end
section
variable {β : Type} (a0_ : Node) (a1_ : I3)
def graph_bare_q {β : Type} (a0_ : Node) (a1_ : I3) (K : (Int × Int) → β) : β := (K ((0 : Int), (0 : Int)))
def graph_bare : (Int × Int) := graph_bare_q a0_ a1_ (fun y => y)
noncomputable def cp31 : CallP := withP cp30 94 [(.agg tsNode), (.agg tsI3)] true [pI, pI] (fun x => graph_bare x.1 x.2.1)
theorem cp31_ok : PureOK E cp31 := conP (hn := .e) false eok cp30_ok noE_ok (fun x => by kernel_rfl) fun x => by kernel_rfl
end
section
variable {β : Type} (n_ : Node) (s_ : I3)
def graph_of_2_r1_q (K : Int → β) : β := (K (IntKind.wrap .i64 ((IntKind.wrap .i64 ((IntKind.wrap .i64 (n_.2.2.1 * n_.2.2.1)) * s_.2.2)) * n_.2.2.2.2.2.1)))
def graph_of_2_r1_p : Int := graph_of_2_r1_q n_ s_ (fun y => y)
def graph_of_2_q (K : (Int × Int) → β) : β := (K ((graph_of_2_r1_p n_ s_), n_.2.2.2.2.2.1))
def graph_of_2 : (Int × Int) := graph_of_2_q n_ s_ (fun y => y)
noncomputable def cp32 : CallP := withP cp31 97 [(.agg tsNode), (.agg tsI3)] true [pI, pI] (fun x => graph_of_2 x.1 x.2.1)
theorem cp32_ok : PureOK E cp32 := conP (hn := (.l (.j .e true (.k [.r 4] .e .e)))) false eok cp31_ok noE_ok (fun x => by kernel_rfl) fun x => by kernel_rfl
end
section
variable {β : Type} (n_ : Node) (s_ : I3)
def graph_of_3_q (K : (Int × Int) → β) : β := (K ((IntKind.wrap .i64 ((IntKind.wrap .i64 (n_.2.2.1 * n_.2.2.1)) * s_.2.2)), s_.2.2))
def graph_of_3 : (Int × Int) := graph_of_3_q n_ s_ (fun y => y)
noncomputable def cp33 : CallP := withP cp32 99 [(.agg tsNode), (.agg tsI3)] true [pI, pI] (fun x => graph_of_3 x.1 x.2.1)
theorem cp33_ok : PureOK E cp33 := conP (hn := .e) false eok cp32_ok noE_ok (fun x => by kernel_rfl) fun x => by kernel_rfl
end
def graph_Value_3_q {β : Type} (x_ : Int) (K : Bool → β) : β := (K (!(graph_within (IntKind.wrap .i64 x_) (-16777216 : Int) (16777216 : Int))))
def graph_Value_3 (x_ : Int) : Bool := graph_Value_3_q x_ (fun y => y)
noncomputable def cp34 : CallP := withP cp33 81 [(.one (.g (.int .i32)))] false [pB] (fun x => graph_Value_3 x.1)
theorem cp34_ok : PureOK E cp34 := conP (hn := .e) false eok cp33_ok noE_ok (fun x => by kernel_rfl) fun x => by kernel_rfl
section
variable (s_ : (List Int)) (s198 : Int)
def slices_IndexFuncint32_int32_r4_p : Option Unit := (bif (decide ((0 : Int) ≤ s198)) then (bif (decide (s198 < (s_.length : Int))) then (some ()) else none) else none)
def slices_IndexFuncint32_int32_l2_p : Option (Int ⊕ (Int ⊕ Int)) := (bif (decide (s198 < (s_.length : Int))) then (Option.bind (slices_IndexFuncint32_int32_r4_p s_ s198) (fun y200 : Unit => (bif (graph_Value_3 (gt s_ s198 (0 : Int))) then (some (Sum.inr (Sum.inr s198))) else (some (Sum.inl (IntKind.wrap .i64 (s198 + 1))))))) else (some (Sum.inr (Sum.inl s198))))
def slices_IndexFuncint32_int32 : Option Int := (Option.bind (iterN (slices_IndexFuncint32_int32_l2_p s_) LL (0 : Int)) (either (fun y201 : Int => (some (-1 : Int))) (fun y202 : Int => (some y202))))
noncomputable def cp35 : CallP := withC cp34 108 [(.one (.g (.sl (.one (.int .i32))))), (.one (.fn 81 .nil))] false [pI] (fun x => slices_IndexFuncint32_int32 x.1)
theorem cp35_ok : PureOK E cp35 := conC (hn := (.w (.c (.l (.l (.j .e false (.k [] (.c .e .e) .e)))) .e) [.r 8] (.k [.r 8] .e (.k [.r 4] .e .e)))) false eok cp34_ok noE_ok (fun x => by kernel_rfl) fun x => by kernel_rfl
end
def slices_ContainsFuncint32_int32 (s_ : (List Int)) : Option Bool := (Option.bind (slices_IndexFuncint32_int32 s_) (fun y203 : Int => (some (decide (y203 ≥ 0)))))
noncomputable def cp36 : CallP := withC cp35 80 [(.one (.g (.sl (.one (.int .i32))))), (.one (.fn 81 .nil))] false [pB] (fun x => slices_ContainsFuncint32_int32 x.1)
theorem cp36_ok : PureOK E cp36 := conC (hn := .e) false eok cp35_ok noE_ok (fun x => by kernel_rfl) fun x => by kernel_rfl
section
variable {β : Type} (n_ : Node) (in_ : (List I4)) (y90 : U5)
def graph_Value_r2_q (K : Bool → β) : β := (bif (!y90.2) then (K true) else (K (!(graph_kind_may y90.1.1 y90.1.2.1 y90.1.2.2.1 y90.1.2.2.2.1 y90.1.2.2.2.2.1 y90.1.2.2.2.2.2.1 y90.1.2.2.2.2.2.2.1 y90.1.2.2.2.2.2.2.2.1 n_ in_))))
def graph_Value_r2_p : Bool := graph_Value_r2_q n_ in_ y90 (fun y => y)
def graph_Value_r4_p : Option Bool := (bif y90.1.2.2.2.2.2.1 then (Option.bind (slices_ContainsFuncapi_Value_api_Value in_ n_) (fun y110 : Bool => (some y110))) else (some false))
def graph_Value_r8_p : Option (Int × Int × Int) := (bif (decide ((0 : Int) < (in_.length : Int))) then (bif (decide ((0 : Int) ≤ (IntKind.wrap .i64 ((in_.length : Int) - 1)))) then (bif (decide ((IntKind.wrap .i64 ((in_.length : Int) - 1)) < (in_.length : Int))) then ((either (fun u140 : Unit => (some (graph_of_4 n_ ((gt in_ (0 : Int) dI4).1, (gt in_ (0 : Int) dI4).2.1, (gt in_ (0 : Int) dI4).2.2.1) ((gt in_ (IntKind.wrap .i64 ((in_.length : Int) - 1)) dI4).1, (gt in_ (IntKind.wrap .i64 ((in_.length : Int) - 1)) dI4).2.1, (gt in_ (IntKind.wrap .i64 ((in_.length : Int) - 1)) dI4).2.2.1)))) (either (fun u141 : Unit => (some (graph_same n_ ((gt in_ (0 : Int) dI4).1, (gt in_ (0 : Int) dI4).2.1, (gt in_ (0 : Int) dI4).2.2.1) ((gt in_ (IntKind.wrap .i64 ((in_.length : Int) - 1)) dI4).1, (gt in_ (IntKind.wrap .i64 ((in_.length : Int) - 1)) dI4).2.1, (gt in_ (IntKind.wrap .i64 ((in_.length : Int) - 1)) dI4).2.2.1)))) (either (fun u142 : Unit => (some (graph_of_6 n_ ((gt in_ (0 : Int) dI4).1, (gt in_ (0 : Int) dI4).2.1, (gt in_ (0 : Int) dI4).2.2.1) ((gt in_ (IntKind.wrap .i64 ((in_.length : Int) - 1)) dI4).1, (gt in_ (IntKind.wrap .i64 ((in_.length : Int) - 1)) dI4).2.1, (gt in_ (IntKind.wrap .i64 ((in_.length : Int) - 1)) dI4).2.2.1)))) (either (fun u143 : Unit => (some (graph_beside n_ ((gt in_ (0 : Int) dI4).1, (gt in_ (0 : Int) dI4).2.1, (gt in_ (0 : Int) dI4).2.2.1) ((gt in_ (IntKind.wrap .i64 ((in_.length : Int) - 1)) dI4).1, (gt in_ (IntKind.wrap .i64 ((in_.length : Int) - 1)) dI4).2.1, (gt in_ (IntKind.wrap .i64 ((in_.length : Int) - 1)) dI4).2.2.1)))) (either (fun u144 : Unit => (Option.bind (graph_anew n_ ((gt in_ (0 : Int) dI4).1, (gt in_ (0 : Int) dI4).2.1, (gt in_ (0 : Int) dI4).2.2.1) ((gt in_ (IntKind.wrap .i64 ((in_.length : Int) - 1)) dI4).1, (gt in_ (IntKind.wrap .i64 ((in_.length : Int) - 1)) dI4).2.1, (gt in_ (IntKind.wrap .i64 ((in_.length : Int) - 1)) dI4).2.2.1)) (fun y154 : I3 => (some y154)))) (either (fun u155 : Unit => (some (graph_first n_ ((gt in_ (0 : Int) dI4).1, (gt in_ (0 : Int) dI4).2.1, (gt in_ (0 : Int) dI4).2.2.1) ((gt in_ (IntKind.wrap .i64 ((in_.length : Int) - 1)) dI4).1, (gt in_ (IntKind.wrap .i64 ((in_.length : Int) - 1)) dI4).2.1, (gt in_ (IntKind.wrap .i64 ((in_.length : Int) - 1)) dI4).2.2.1)))) (either (fun u156 : Unit => (Option.bind (graph_of_1 n_ ((gt in_ (0 : Int) dI4).1, (gt in_ (0 : Int) dI4).2.1, (gt in_ (0 : Int) dI4).2.2.1) ((gt in_ (IntKind.wrap .i64 ((in_.length : Int) - 1)) dI4).1, (gt in_ (IntKind.wrap .i64 ((in_.length : Int) - 1)) dI4).2.1, (gt in_ (IntKind.wrap .i64 ((in_.length : Int) - 1)) dI4).2.2.1)) (fun y170 : I3 => (some y170)))) (either (fun u171 : Unit => (Option.bind (graph_pooled n_ ((gt in_ (0 : Int) dI4).1, (gt in_ (0 : Int) dI4).2.1, (gt in_ (0 : Int) dI4).2.2.1) ((gt in_ (IntKind.wrap .i64 ((in_.length : Int) - 1)) dI4).1, (gt in_ (IntKind.wrap .i64 ((in_.length : Int) - 1)) dI4).2.1, (gt in_ (IntKind.wrap .i64 ((in_.length : Int) - 1)) dI4).2.2.1)) (fun y173 : I3 => (some y173)))) (fun u174 : Unit => none))))))))) y90.1.2.2.2.2.2.2.1) else none) else none) else none)
def graph_Value_r11_p : Option (Int × Int) := (bif (decide ((0 : Int) < (in_.length : Int))) then ((either (fun u178 : Unit => (Option.bind (graph_of_5 n_ ((gt in_ (0 : Int) dI4).1, (gt in_ (0 : Int) dI4).2.1, (gt in_ (0 : Int) dI4).2.2.1)) (fun y180 : (Int × Int) => (some y180)))) (either (fun u181 : Unit => (some (graph_of_7 n_ ((gt in_ (0 : Int) dI4).1, (gt in_ (0 : Int) dI4).2.1, (gt in_ (0 : Int) dI4).2.2.1)))) (either (fun u182 : Unit => (some (graph_bare n_ ((gt in_ (0 : Int) dI4).1, (gt in_ (0 : Int) dI4).2.1, (gt in_ (0 : Int) dI4).2.2.1)))) (either (fun u183 : Unit => (some (graph_of_2 n_ ((gt in_ (0 : Int) dI4).1, (gt in_ (0 : Int) dI4).2.1, (gt in_ (0 : Int) dI4).2.2.1)))) (either (fun u184 : Unit => (some (graph_of_3 n_ ((gt in_ (0 : Int) dI4).1, (gt in_ (0 : Int) dI4).2.1, (gt in_ (0 : Int) dI4).2.2.1)))) (fun u185 : Unit => none)))))) y90.1.2.2.2.2.2.2.2.1) else none)
def graph_Value_r12_p (y186 : (Int × Int)) : Option Bool := (bif ((n_.2.2.2.2.2.2.2.2.2.2.2.2.1.length : Int) != y186.1) then (some true) else (bif ((n_.2.2.2.2.2.2.2.2.2.2.2.2.2.length : Int) != y186.2) then (some true) else (Option.bind (slices_ContainsFuncint32_int32 n_.2.2.2.2.2.2.2.2.2.2.2.2.2) (fun y206 : Bool => (some y206)))))
def graph_Value : Option (I4 × Int) := (Option.bind (graph_of n_.1) (fun y90 : U5 => (bif (graph_Value_r2_p n_ in_ y90) then (some (((0 : Int), (0 : Int), (0 : Int), (0 : Int)), (11 : Int))) else (Option.bind (graph_Value_r4_p n_ in_ y90) (fun y111 : Bool => (bif y111 then (some (((0 : Int), (0 : Int), (0 : Int), (0 : Int)), (11 : Int))) else (Option.bind (slices_ContainsFuncapi_Value_api_Value_s2 in_) (fun y139 : Bool => (bif y139 then (some (((0 : Int), (0 : Int), (0 : Int), (0 : Int)), (10 : Int))) else (Option.bind (graph_Value_r8_p n_ in_ y90) (fun y175 : (Int × Int × Int) => (Option.bind (shape_May y175) (fun y177 : Int => (bif (y177 != 0) then (some (((0 : Int), (0 : Int), (0 : Int), (0 : Int)), (10 : Int))) else (Option.bind (graph_Value_r11_p n_ in_ y90) (fun y186 : (Int × Int) => (Option.bind (graph_Value_r12_p n_ y186) (fun y207 : Bool => (bif y207 then (some (((0 : Int), (0 : Int), (0 : Int), (0 : Int)), (12 : Int))) else (some ((y175.1, y175.2.1, y175.2.2, n_.2.2.2.2.2.2.2.2.1), (0 : Int))))))))))))))))))))))
noncomputable def cp37 : CallP := withC cp36 58 [(.agg tsNode), (pL tsI4)] true [(.agg tsI4), pI] (fun x => graph_Value x.1 x.2.1)
theorem cp37_ok : PureOK E cp37 := conC (hn := (.l (.l (.l (.j (.x (.c .e .e)) true (.k [.r 25] (.c .e (.l (.j (.x (.c .e .e)) false (.k [.r 33] (.c .e (.c .e (.j .e false (.k [.h 2 0, .h 2 1, .h 2 2] (.c .e (.j .e false (.k [.r 9, .r 10] (.l (.j (.x (.c .e (.l (.l (.l (.l (.c .e .e))))))) false (.k [.r 84] (.c .e .e) .e))) .e))) .e)))) .e)))) .e)))))) false eok cp36_ok noE_ok (fun x => by kernel_rfl) fun x => by kernel_rfl
end
section
variable (g_ : Graph) (s235 : ((List I4) × Int × Int))
def graph_Values_r7_p : Option Unit := (bif (decide ((0 : Int) ≤ s235.2.2)) then (bif (decide (s235.2.2 < (g_.2.1.length : Int))) then (some ()) else none) else none)
def graph_Values_r14_p (y242 : (I4 × Int)) : Option Int := (bif (decide (s235.1.length + ([y242.1] : List I4).length ≤ maxL)) then (some (IntKind.wrap .i64 (s235.2.1 + (((gt g_.2.1 s235.2.2 dNode).2.2.2.2.2.2.2.2.2.2.2.2.1).length : Int)))) else none)
def graph_Values_l6_p : Option (((List I4) × Int × Int) ⊕ (((List I4) × Int × Int) ⊕ (Unit ⊕ Int))) := (bif (decide (s235.2.2 < (g_.2.1.length : Int))) then (Option.bind (graph_Values_r7_p g_ s235) (fun y240 : Unit => (Option.bind (graph_picked s235.1 ((gt g_.2.1 s235.2.2 dNode).2.1)) (fun y241 : ((List I4) × Bool) => (bif (!y241.2) then (some (Sum.inr (Sum.inr (Sum.inl ())))) else (Option.bind (graph_Value (gt g_.2.1 s235.2.2 dNode) y241.1) (fun y242 : (I4 × Int) => (bif (y242.2 != 0) then (some (Sum.inr (Sum.inr (Sum.inr y242.2)))) else (Option.bind (graph_Values_r14_p g_ s235 y242) (fun y243 : Int => (some (Sum.inl ((s235.1 ++ [y242.1]), y243, (IntKind.wrap .i64 (s235.2.2 + 1))))))))))))))) else (some (Sum.inr (Sum.inl s235))))
def graph_Values : Option ((List I4) × Int) := (Option.bind (graph_goesIn g_) (fun y47 : ((List I4) × Int) => (bif (y47.2 != 0) then (some ([], y47.2)) else (Option.bind (iterN (graph_Values_l6_p g_) LL (y47.1, (0 : Int), (0 : Int))) (either (fun y244 : ((List I4) × Int × Int) => (bif (decide (y244.2.1 > 4096)) then (some ([], (3 : Int))) else (Option.bind (graph_picked y244.1 g_.2.2) (fun y248 : ((List I4) × Bool) => (bif (!y248.2) then (some ([], (13 : Int))) else (some (y244.1, (0 : Int)))))))) (either (fun y245 : Unit => (some ([], (13 : Int)))) (fun y246 : Int => (some ([], y246)))))))))
noncomputable def cp38 : CallP := withC cp37 53 [(.agg tsGraph)] true [(.one (.ow tsI4)), pI] (fun x => graph_Values x.1)
theorem cp38_ok : PureOK E cp38 := conC (hn := (.c .e (.w (.c (.l (.j .e false (.k [] (.c .e (.c .e (.j .e false (.k [.r 6] .e .e)))) .e))) .e) [.r 4, .r 6, .r 26] (.k [.r 4, .r 6, .r 26] (.c .e (.c .e .e)) (.k [] .e (.k [.r 3] .e .e)))))) true eok cp37_ok noE_ok (fun x => by kernel_rfl) fun x => by kernel_rfl
end
def graph_Check (g_ : Graph) : Option Int := (Option.bind (graph_Values g_) (fun y250 : ((List I4) × Int) => (some y250.2)))
noncomputable def cp39 : CallP := withC cp38 71 [(.agg tsGraph)] false [pI] (fun x => graph_Check x.1)
theorem cp39_ok : PureOK E cp39 := conC (hn := .e) false eok cp38_ok noE_ok (fun x => by kernel_rfl) fun x => by kernel_rfl
def graph_Last_1_r2_p (l_ : (List Int)) (s274 : (Int × (List Int))) : Option Unit := (bif (decide ((0 : Int) ≤ s274.1)) then (bif (decide (s274.1 < (l_.length : Int))) then (some ()) else none) else none)
def graph_Last_1_r3_q {β : Type} (l_ : (List Int)) (c4_ : Nat) (s274 : (Int × (List Int))) (K : Bool → β) : β := (K (graph_within (gt l_ s274.1 (0 : Int)) (0 : Int) (IntKind.wrap .i64 (((c4_ : Nat) : Int) - 1))))
def graph_Last_1_r3_p (l_ : (List Int)) (c4_ : Nat) (s274 : (Int × (List Int))) : Bool := graph_Last_1_r3_q l_ c4_ s274 (fun y => y)
def graph_Last_1_r4_p (l_ : (List Int)) (c4_ : Nat) (s274 : (Int × (List Int))) : Option Unit := (bif (decide ((0 : Int) ≤ (gt l_ s274.1 (0 : Int)))) then (bif (decide ((gt l_ s274.1 (0 : Int)) < ((c4_ : Nat) : Int))) then (bif (decide ((Int.toNat (gt l_ s274.1 (0 : Int))) < s274.2.length)) then (some ()) else none) else none) else none)
def graph_Last_1_j2_p (l_ : (List Int)) (who : Int) (c4_ : Nat) (s274 : (Int × (List Int))) : Option (List Int) := (Option.bind (graph_Last_1_r2_p l_ s274) (fun y275 : Unit => (bif (graph_Last_1_r3_p l_ c4_ s274) then (Option.bind (graph_Last_1_r4_p l_ c4_ s274) (fun y276 : Unit => (some (s274.2.set (Int.toNat (gt l_ s274.1 (0 : Int))) who)))) else (some s274.2))))
def graph_Last_1_l1_p (l_ : (List Int)) (who : Int) (c4_ : Nat) (s274 : (Int × (List Int))) : Option ((Int × (List Int)) ⊕ (Int × (List Int))) := (bif (decide (s274.1 < (l_.length : Int))) then (Option.bind (graph_Last_1_j2_p l_ who c4_ s274) (fun y277 : (List Int) => (some (Sum.inl ((IntKind.wrap .i64 (s274.1 + 1)), y277))))) else (some (Sum.inr s274)))
def graph_Last_1 (l_ : (List Int)) (who : Int) (c3_ : (List Int)) (c4_ : Nat) : Option (List Int) := (Option.bind (iterN (graph_Last_1_l1_p l_ who c4_) LL ((0 : Int), c3_)) (fun y278 : (Int × (List Int)) => (some y278.2)))
noncomputable def ce1 : CallE := withE noE 91 (decA [(.one (.g (.sl (.one (.int .i64))))), pI, (.one (.ref 1 0))] [(.cons (.vec (.int .i64)) .nil), (.cons (.vref 0) .nil), Z2]) (itE [(.h 0 0, (.one (.vec (.int .i64))))]) (fun x y => (.tup [], [[.vec (.int .i64) y], [.vref 0 x.2.2.1.1], (tsNode.leaves (x.2.2.2.1.1, x.2.2.2.1.2.1, x.2.2.2.1.2.2.1, x.2.2.2.1.2.2.2.1, x.2.2.2.1.2.2.2.2.1, x.2.2.2.1.2.2.2.2.2.1, x.2.2.2.1.2.2.2.2.2.2.1, x.2.2.2.1.2.2.2.2.2.2.2.1, x.2.2.2.1.2.2.2.2.2.2.2.2.1, x.2.2.2.1.2.2.2.2.2.2.2.2.2.1, x.2.2.2.1.2.2.2.2.2.2.2.2.2.2.1, x.2.2.2.1.2.2.2.2.2.2.2.2.2.2.2.1, x.2.2.2.1.2.2.2.2.2.2.2.2.2.2.2.2.1, x.2.2.2.1.2.2.2.2.2.2.2.2.2.2.2.2.2.1))])) (fun x => graph_Last_1 x.1.1 x.1.2.1 x.2.1.1 x.2.2.1.1)
theorem ce1_ok : EffOK E ce1 := conE (hn := (.w (.c (.j (.j .e false (.k [] (.j .e true (.k [.r 17] (.c (.j .e false (.k [] .e .e)) .e) .e)) .e)) false (.k [.h 0 0] .e .e)) .e) [.r 9, .h 0 0] (.k [.r 9, .h 0 0] .e .e))) (la := [(.one (.g (.sl (.one (.int .i64))))), pI, (.one (.ref 1 0))]) (lh := [(.cons (.vec (.int .i64)) .nil), (.cons (.vref 0) .nil), Z2]) (ep := [(.h 0 0, (.one (.vec (.int .i64))))]) eok cp39_ok noE_ok (fun x => by kernel_rfl) fun x => by kernel_rfl
def graph_Last_1_s2_r2_p (l_ : (List Int)) (s303 : (Int × (List Int))) : Option Unit := (bif (decide ((0 : Int) ≤ s303.1)) then (bif (decide (s303.1 < (l_.length : Int))) then (some ()) else none) else none)
def graph_Last_1_s2_r3_q {β : Type} (l_ : (List Int)) (c4_ : Nat) (s303 : (Int × (List Int))) (K : Bool → β) : β := (K (graph_within (gt l_ s303.1 (0 : Int)) (0 : Int) (IntKind.wrap .i64 (((c4_ : Nat) : Int) - 1))))
def graph_Last_1_s2_r3_p (l_ : (List Int)) (c4_ : Nat) (s303 : (Int × (List Int))) : Bool := graph_Last_1_s2_r3_q l_ c4_ s303 (fun y => y)
def graph_Last_1_s2_r4_p (l_ : (List Int)) (c4_ : Nat) (s303 : (Int × (List Int))) : Option Unit := (bif (decide ((0 : Int) ≤ (gt l_ s303.1 (0 : Int)))) then (bif (decide ((gt l_ s303.1 (0 : Int)) < ((c4_ : Nat) : Int))) then (bif (decide ((Int.toNat (gt l_ s303.1 (0 : Int))) < s303.2.length)) then (some ()) else none) else none) else none)
def graph_Last_1_s2_j2_p (l_ : (List Int)) (who : Int) (c4_ : Nat) (s303 : (Int × (List Int))) : Option (List Int) := (Option.bind (graph_Last_1_s2_r2_p l_ s303) (fun y304 : Unit => (bif (graph_Last_1_s2_r3_p l_ c4_ s303) then (Option.bind (graph_Last_1_s2_r4_p l_ c4_ s303) (fun y305 : Unit => (some (s303.2.set (Int.toNat (gt l_ s303.1 (0 : Int))) who)))) else (some s303.2))))
def graph_Last_1_s2_l1_p (l_ : (List Int)) (who : Int) (c4_ : Nat) (s303 : (Int × (List Int))) : Option ((Int × (List Int)) ⊕ (Int × (List Int))) := (bif (decide (s303.1 < (l_.length : Int))) then (Option.bind (graph_Last_1_s2_j2_p l_ who c4_ s303) (fun y306 : (List Int) => (some (Sum.inl ((IntKind.wrap .i64 (s303.1 + 1)), y306))))) else (some (Sum.inr s303)))
def graph_Last_1_s2 (l_ : (List Int)) (who : Int) (c3_ : (List Int)) (c4_ : Nat) : Option (List Int) := (Option.bind (iterN (graph_Last_1_s2_l1_p l_ who c4_) LL ((0 : Int), c3_)) (fun y307 : (Int × (List Int)) => (some y307.2)))
noncomputable def ce2 : CallE := withE ce1 91 (decA [(.one (.g (.sl (.one (.int .i64))))), pI, (.one (.ref 1 0))] [(.cons (.vec (.int .i64)) .nil), (.cons (.vref 0) .nil)]) (itE [(.h 0 0, (.one (.vec (.int .i64))))]) (fun x y => (.tup [], [[.vec (.int .i64) y], [.vref 0 x.2.2.1.1]])) (fun x => graph_Last_1_s2 x.1.1 x.1.2.1 x.2.1.1 x.2.2.1.1)
theorem ce2_ok : EffOK E ce2 := conE (hn := (.w (.c (.j (.j .e false (.k [] (.j .e true (.k [.r 17] (.c (.j .e false (.k [] .e .e)) .e) .e)) .e)) false (.k [.h 0 0] .e .e)) .e) [.r 9, .h 0 0] (.k [.r 9, .h 0 0] .e .e))) (la := [(.one (.g (.sl (.one (.int .i64))))), pI, (.one (.ref 1 0))]) (lh := [(.cons (.vec (.int .i64)) .nil), (.cons (.vref 0) .nil)]) (ep := [(.h 0 0, (.one (.vec (.int .i64))))]) eok cp39_ok ce1_ok (fun x => by kernel_rfl) fun x => by kernel_rfl
section
variable {β : Type} (g_ : Graph) (s264 : (Int × (List Int))) (s293 : (Int × (List Int)))
def graph_Last_r1_p : Option Unit := (bif (decide ((0 : Int) ≤ (IntKind.wrap .i64 ((g_.1.length : Int) + (g_.2.1.length : Int))))) then (bif (decide ((IntKind.wrap .i64 ((g_.1.length : Int) + (g_.2.1.length : Int))) ≤ (IntKind.wrap .i64 ((g_.1.length : Int) + (g_.2.1.length : Int))))) then (bif (decide ((IntKind.wrap .i64 ((g_.1.length : Int) + (g_.2.1.length : Int))) ≤ (maxL : Int))) then (bif ((IntKind.wrap .i64 ((g_.1.length : Int) + (g_.2.1.length : Int))) == (IntKind.wrap .i64 ((g_.1.length : Int) + (g_.2.1.length : Int)))) then (some ()) else none) else none) else none) else none)
def graph_Last_r2_q (K : Int → β) : β := (K (((Int.toNat (IntKind.wrap .i64 ((g_.1.length : Int) + (g_.2.1.length : Int)))) : Nat) : Int))
def graph_Last_r2_p : Int := graph_Last_r2_q g_ (fun y => y)
def graph_Last_r5_p : Option Unit := (bif (decide ((0 : Int) ≤ s264.1)) then (bif (decide (s264.1 < (((Int.toNat (IntKind.wrap .i64 ((g_.1.length : Int) + (g_.2.1.length : Int)))) : Nat) : Int))) then (bif (decide ((Int.toNat s264.1) < s264.2.length)) then (some ()) else none) else none) else none)
def graph_Last_l3_p : Option ((Int × (List Int)) ⊕ (Int × (List Int))) := (bif (decide (s264.1 < (graph_Last_r2_p g_))) then (Option.bind (graph_Last_r5_p g_ s264) (fun y266 : Unit => (some (Sum.inl ((IntKind.wrap .i64 (s264.1 + 1)), (s264.2.set (Int.toNat s264.1) (-1 : Int))))))) else (some (Sum.inr s264)))
def graph_Last_r10_p : Option Unit := (bif (decide ((0 : Int) ≤ s293.1)) then (bif (decide (s293.1 < (g_.2.1.length : Int))) then (some ()) else none) else none)
def graph_Last_l9_p : Option ((Int × (List Int)) ⊕ (Int × (List Int))) := (bif (decide (s293.1 < (g_.2.1.length : Int))) then (Option.bind (graph_Last_r10_p g_ s293) (fun y296 : Unit => (Option.bind (graph_Last_1 ((gt g_.2.1 s293.1 dNode).2.1) s293.1 s293.2 (Int.toNat (IntKind.wrap .i64 ((g_.1.length : Int) + (g_.2.1.length : Int))))) (fun y297 : (List Int) => (some (Sum.inl ((IntKind.wrap .i64 (s293.1 + 1)), y297))))))) else (some (Sum.inr s293)))
def graph_Last : Option (List Int) := (Option.bind (graph_Last_r1_p g_) (fun y253 : Unit => (Option.bind (iterN (graph_Last_l3_p g_) LL ((0 : Int), (List.replicate (Int.toNat (IntKind.wrap .i64 ((g_.1.length : Int) + (g_.2.1.length : Int)))) (0 : Int)))) (fun y267 : (Int × (List Int)) => (Option.bind (iterN (graph_Last_l9_p g_) LL ((0 : Int), y267.2)) (fun y298 : (Int × (List Int)) => (Option.bind (graph_Last_1_s2 g_.2.2 (g_.2.1.length : Int) y298.2 (Int.toNat (IntKind.wrap .i64 ((g_.1.length : Int) + (g_.2.1.length : Int))))) (fun y308 : (List Int) => (bif (Nat.beq (Int.toNat (IntKind.wrap .i64 ((g_.1.length : Int) + (g_.2.1.length : Int)))) y308.length) then (some y308) else none)))))))))
noncomputable def cp40 : CallP := withC cp39 72 [(.agg tsGraph)] false [(.one (.g (.sl (.one (.int .i64)))))] (fun x => graph_Last x.1)
theorem cp40_ok : PureOK E cp40 := conC (hn := (.l (.j .e false (.k [] (.l (.j .e true (.k [.r 17] (.w (.c (.l (.l (.j .e false (.k [] .e .e)))) .e) [.r 18, .h 0 0] (.k [.r 18, .h 0 0] (.w (.c (.l (.j .e false (.k [] .e .e))) .e) [.r 29, .h 0 0] (.k [.r 29, .h 0 0] .e .e)) .e)) .e))) .e)))) false eok cp39_ok ce2_ok (fun x => by kernel_rfl) fun x => by kernel_rfl
end
section
variable (g_ : Graph) (y319 : (List Int)) (s323 : ((List I2) × Int))
def place_Live_r7_p : Option Unit := (bif (decide ((0 : Int) ≤ s323.2)) then (bif (decide (s323.2 < (y319.length : Int))) then (some ()) else none) else none)
def place_Live_r9_p : Option (List I2) := (bif (decide (s323.1.length + ([((max (IntKind.wrap .i64 (s323.2 - (g_.1.length : Int))) (-1 : Int)), (max (max (IntKind.wrap .i64 (s323.2 - (g_.1.length : Int))) (-1 : Int)) (gt y319 s323.2 (0 : Int))))] : List I2).length ≤ maxL)) then (some (s323.1 ++ [((max (IntKind.wrap .i64 (s323.2 - (g_.1.length : Int))) (-1 : Int)), (max (max (IntKind.wrap .i64 (s323.2 - (g_.1.length : Int))) (-1 : Int)) (gt y319 s323.2 (0 : Int))))])) else none)
def place_Live_l6_p : Option (((List I2) × Int) ⊕ ((List I2) × Int)) := (bif (decide (s323.2 < (y319.length : Int))) then (Option.bind (place_Live_r7_p y319 s323) (fun y326 : Unit => (Option.bind (place_Live_r9_p g_ y319 s323) (fun y327 : (List I2) => (some (Sum.inl (y327, (IntKind.wrap .i64 (s323.2 + 1))))))))) else (some (Sum.inr s323)))
def place_Live : Option ((List I2) × Int) := (Option.bind (graph_Check g_) (fun y252 : Int => (bif (y252 != 0) then (some ([], y252)) else (Option.bind (graph_Last g_) (fun y319 : (List Int) => (Option.bind (iterN (place_Live_l6_p g_ y319) LL ([], (0 : Int))) (fun y328 : ((List I2) × Int) => (some (y328.1, (0 : Int))))))))))
noncomputable def cp41 : CallP := withC cp40 54 [(.agg tsGraph)] true [(.one (.ow tsI2)), pI] (fun x => place_Live x.1)
theorem cp41_ok : PureOK E cp41 := conC (hn := (.c .e (.w (.c (.l (.j .e false (.k [] (.l (.j .e false (.k [.r 5] .e .e))) .e))) .e) [.r 5, .r 17] (.k [.r 5, .r 17] .e .e)))) true eok cp40_ok ce2_ok (fun x => by kernel_rfl) fun x => by kernel_rfl
end
section
variable {β : Type} (l_ : I4) (other : I4)
def place_lot_after_r1_q (K : Bool → β) : β := (bif (decide (l_.2.1 < other.1)) then (K true) else (bif (decide (other.2.1 < l_.1)) then (K true) else (bif (decide (other.2.2.2 ≤ l_.2.2.1)) then (K true) else (K (decide (l_.2.2.2 ≤ other.2.2.1))))))
def place_lot_after_r1_p : Bool := place_lot_after_r1_q l_ other (fun y => y)
def place_lot_after_q (K : Int → β) : β := (bif (place_lot_after_r1_p l_ other) then (K (0 : Int)) else (K l_.2.2.2))
def place_lot_after : Int := place_lot_after_q l_ other (fun y => y)
noncomputable def cp42 : CallP := withP cp41 57 [(.agg tsI4), (.agg tsI4)] false [pI] (fun x => place_lot_after x.1 x.2.1)
theorem cp42_ok : PureOK E cp42 := conP (hn := (.l (.l (.j (.x (.l (.l (.l (.c .e (.l (.l (.l (.l (.l (.l (.l (.l (.l (.c .e (.l (.l (.l (.l (.c .e .e)))))))))))))))))))) true (.k [.r 34] (.c .e .e) .e))))) false eok cp41_ok ce2_ok (fun x => by kernel_rfl) fun x => by kernel_rfl
end
section
variable (at_ : Int) (c5_ : (List I2)) (c6_ : (List I4)) (c7_ : Int) (c9_ : Int) (s350 : Int)
def place_lots_1_r3_p : Option Unit := (bif (decide ((0 : Int) ≤ s350)) then (bif (decide (s350 < (c6_.length : Int))) then (some ()) else none) else none)
def place_lots_1_r4_p : Option Int := (bif (decide ((0 : Int) ≤ c7_)) then (bif (decide (c7_ < (c5_.length : Int))) then (some (place_lot_after (gt c6_ s350 dI4) ((gt c5_ c7_ dI2).1, (gt c5_ c7_ dI2).2, at_, (IntKind.wrap .i64 (at_ + c9_))))) else none) else none)
def place_lots_1_l2_p : Option (Int ⊕ (Int ⊕ Int)) := (bif (decide (s350 < (c6_.length : Int))) then (Option.bind (place_lots_1_r3_p c6_ s350) (fun y353 : Unit => (Option.bind (place_lots_1_r4_p at_ c5_ c6_ c7_ c9_ s350) (fun y354 : Int => (bif (decide (y354 > 0)) then (some (Sum.inr (Sum.inr y354))) else (some (Sum.inl (IntKind.wrap .i64 (s350 + 1))))))))) else (some (Sum.inr (Sum.inl s350))))
def place_lots_1 : Option Int := (Option.bind (iterN (place_lots_1_l2_p at_ c5_ c6_ c7_ c9_) LL (0 : Int)) (either (fun y355 : Int => (some (-1 : Int))) (fun y356 : Int => (some y356))))
noncomputable def ce3 : CallE := withE ce2 56 (decA [pI, (.one (.ref 1 0)), (.one (.ref 0 0)), (.one (.ref 2 0)), (.one (.ref 4 0))] [(.cons (.owh tsI2 0 0) .nil), (.cons (.owh tsI4 1 0) .nil), (.cons (.g (.int .i64)) .nil), .nil, (.cons (.g (.int .i64)) .nil)]) (itE [(.r, pI)]) (fun x y => (ri y, [[.ow tsI2 x.2.1.1 (.h 0 0)], [.ow tsI4 x.2.2.1.1 (.h 1 0)], [di x.2.2.2.1.1], [], [di x.2.2.2.2.2.1.1]])) (fun x => place_lots_1 x.1.1 x.2.1.1 x.2.2.1.1 x.2.2.2.1.1 x.2.2.2.2.2.1.1)
theorem ce3_ok : EffOK E ce3 := conE (hn := (.w (.c (.l (.j .e false (.k [] (.j .e false (.k [.r 9] (.c .e .e) .e)) .e))) .e) [.r 12] (.k [.r 12] .e (.k [.r 6] .e .e)))) (la := [pI, (.one (.ref 1 0)), (.one (.ref 0 0)), (.one (.ref 2 0)), (.one (.ref 4 0))]) (lh := [(.cons (.owh tsI2 0 0) .nil), (.cons (.owh tsI4 1 0) .nil), (.cons (.g (.int .i64)) .nil), .nil, (.cons (.g (.int .i64)) .nil)]) (ep := [(.r, pI)]) eok cp42_ok ce2_ok (fun x => by kernel_rfl) fun x => by kernel_rfl
end
section
variable (y249 : ((List I4) × Int)) (y329 : ((List I2) × Int)) (s448 : (Int × (List I4))) (y465 : Int)
def place_lots_r8_p : Option Unit := (bif (decide ((0 : Int) ≤ s448.1)) then (bif (decide (s448.1 < (y249.1.length : Int))) then (some ()) else none) else none)
def place_lots_l13_p (s475 : (Int × Int)) : Option ((Int × Int) ⊕ (Int × Int)) := (bif (decide (s475.2 ≥ 0)) then (Option.bind (place_lots_1 s475.2 y329.1 s448.2 s448.1 y465) (fun y476 : Int => (some (Sum.inl (s475.2, y476))))) else (some (Sum.inr s475)))
def place_lots_r16_p (y477 : (Int × Int)) : Option (List I4) := (bif (decide ((0 : Int) ≤ s448.1)) then (bif (decide (s448.1 < (y329.1.length : Int))) then (bif (decide (s448.2.length + ([((gt y329.1 s448.1 dI2).1, (gt y329.1 s448.1 dI2).2, y477.1, (IntKind.wrap .i64 (y477.1 + y465)))] : List I4).length ≤ maxL)) then (some (s448.2 ++ [((gt y329.1 s448.1 dI2).1, (gt y329.1 s448.1 dI2).2, y477.1, (IntKind.wrap .i64 (y477.1 + y465)))])) else none) else none) else none)
def place_lots_l7_p : Option ((Int × (List I4)) ⊕ (Int × (List I4))) := (bif (decide (s448.1 < (y249.1.length : Int))) then (Option.bind (place_lots_r8_p y249 s448) (fun y464 : Unit => (Option.bind (shape_Size ((gt y249.1 s448.1 dI4).1, (gt y249.1 s448.1 dI4).2.1, (gt y249.1 s448.1 dI4).2.2.1)) (fun y465 : Int => (Option.bind (place_lots_1 (0 : Int) y329.1 s448.2 s448.1 y465) (fun y472 : Int => (Option.bind (iterN (place_lots_l13_p y329 s448 y465) LL ((0 : Int), y472)) (fun y477 : (Int × Int) => (Option.bind (place_lots_r16_p y329 s448 y465 y477) (fun y478 : (List I4) => (some (Sum.inl ((IntKind.wrap .i64 (s448.1 + 1)), y478))))))))))))) else (some (Sum.inr s448)))
def place_lots (g_ : Graph) : Option ((List I4) × Int) := (Option.bind (graph_Values g_) (fun y249 : ((List I4) × Int) => (bif (y249.2 != 0) then (some ([], y249.2)) else (Option.bind (place_Live g_) (fun y329 : ((List I2) × Int) => (Option.bind (iterN (place_lots_l7_p y249 y329) LL ((0 : Int), [])) (fun y479 : (Int × (List I4)) => (some (y479.2, (0 : Int))))))))))
noncomputable def cp43 : CallP := withC cp42 39 [(.agg tsGraph)] true [(.one (.ow tsI4)), pI] (fun x => place_lots x.1)
theorem cp43_ok : PureOK E cp43 := conC (hn := (.c .e (.w (.c (.l (.j .e false (.k [] (.w (.c .e .e) [.r 13, .r 14] (.k [.r 13, .r 14] (.j .e false (.k [.h 1 0] .e .e)) .e)) .e))) .e) [.r 30, .h 1 0] (.k [.r 30, .h 1 0] .e .e)))) true eok cp42_ok ce3_ok (fun x => by kernel_rfl) fun x => by kernel_rfl
end
section
variable (y480 : ((List I4) × Int)) (s493 : ((List Int) × Int))
def place_Places_r5_p : Option Unit := (bif (decide ((0 : Int) ≤ s493.2)) then (bif (decide (s493.2 < (y480.1.length : Int))) then (some ()) else none) else none)
def place_Places_r6_p : Option Unit := (bif (decide (s493.1.length + ([(gt y480.1 s493.2 dI4).2.2.1] : List Int).length ≤ maxL)) then (some ()) else none)
def place_Places_l4_p : Option (((List Int) × Int) ⊕ ((List Int) × Int)) := (bif (decide (s493.2 < (y480.1.length : Int))) then (Option.bind (place_Places_r5_p y480 s493) (fun y496 : Unit => (Option.bind (place_Places_r6_p y480 s493) (fun y497 : Unit => (some (Sum.inl ((s493.1 ++ [(gt y480.1 s493.2 dI4).2.2.1]), (IntKind.wrap .i64 (s493.2 + 1))))))))) else (some (Sum.inr s493)))
def place_Places (g_ : Graph) : Option ((List Int) × Int) := (Option.bind (place_lots g_) (fun y480 : ((List I4) × Int) => (Option.bind (iterN (place_Places_l4_p y480) LL ([], (0 : Int))) (fun y498 : ((List Int) × Int) => (some (y498.1, y480.2))))))
noncomputable def cp44 : CallP := withC cp43 25 [(.agg tsGraph)] true [(.one (.ow (.one (.int .i64)))), pI] (fun x => place_Places x.1)
theorem cp44_ok : PureOK E cp44 := conC (hn := (.w (.c (.l (.j .e false (.k [] (.j .e false (.k [] .e .e)) .e))) .e) [.r 6, .r 16] (.k [.r 6, .r 16] .e .e))) true eok cp43_ok ce3_ok (fun x => by kernel_rfl) fun x => by kernel_rfl
end
section
variable {β : Type} (g_ : Graph) (places : (List Int)) (node : Int) (y501 : ((List I4) × Int)) (s519 : (Int × (List I4)))
def emit_of_r4_q (K : Bool → β) : β := (bif (decide (node < 0)) then (K true) else (bif (decide (node ≥ (g_.2.1.length : Int))) then (K true) else (K ((places.length : Int) != (y501.1.length : Int)))))
def emit_of_r4_p : Bool := emit_of_r4_q g_ places node y501 (fun y => y)
def emit_of_r6_p : Option Unit := (bif (decide ((0 : Int) ≤ node)) then (bif (decide (node < (g_.2.1.length : Int))) then (some ()) else none) else none)
def emit_of_r9_p : Option Unit := (bif (decide ((0 : Int) ≤ s519.1)) then (bif (decide (s519.1 < (((gt g_.2.1 node dNode).2.1).length : Int))) then (some ()) else none) else none)
def emit_of_r10_p : Option (List I4) := (bif (decide ((0 : Int) ≤ (gt ((gt g_.2.1 node dNode).2.1) s519.1 (0 : Int)))) then (bif (decide ((gt ((gt g_.2.1 node dNode).2.1) s519.1 (0 : Int)) < (y501.1.length : Int))) then (bif (decide (s519.2.length + ([(gt y501.1 (gt ((gt g_.2.1 node dNode).2.1) s519.1 (0 : Int)) dI4)] : List I4).length ≤ maxL)) then (some (s519.2 ++ [(gt y501.1 (gt ((gt g_.2.1 node dNode).2.1) s519.1 (0 : Int)) dI4)])) else none) else none) else none)
def emit_of_l8_p : Option ((Int × (List I4)) ⊕ (Int × (List I4))) := (bif (decide (s519.1 < (((gt g_.2.1 node dNode).2.1).length : Int))) then (Option.bind (emit_of_r9_p g_ node s519) (fun y522 : Unit => (Option.bind (emit_of_r10_p g_ node y501 s519) (fun y523 : (List I4) => (some (Sum.inl ((IntKind.wrap .i64 (s519.1 + 1)), y523))))))) else (some (Sum.inr s519)))
def emit_of : Option (work × Int) := (Option.bind (graph_Values g_) (fun y501 : ((List I4) × Int) => (bif (y501.2 != 0) then (some (([], [], [], [], [], (0 : Int), (0 : Int), [], (0 : Int), (0 : Int), (0 : Int), (0 : Int), (0 : Int), (0 : Int), (0 : Int), (0 : Int), (0 : Int), (0 : Int), [], [], []), y501.2)) else (bif (emit_of_r4_p g_ places node y501) then (some (([], [], [], [], [], (0 : Int), (0 : Int), [], (0 : Int), (0 : Int), (0 : Int), (0 : Int), (0 : Int), (0 : Int), (0 : Int), (0 : Int), (0 : Int), (0 : Int), [], [], []), (1 : Int))) else (Option.bind (emit_of_r6_p g_ node) (fun y502 : Unit => (Option.bind (iterN (emit_of_l8_p g_ node y501) LL ((0 : Int), [])) (fun y524 : (Int × (List I4)) => (some ((g_.1, g_.2.1, g_.2.2, y501.1, places, node, (gt g_.2.1 node dNode).1, (gt g_.2.1 node dNode).2.1, (gt g_.2.1 node dNode).2.2.1, (gt g_.2.1 node dNode).2.2.2.1, (gt g_.2.1 node dNode).2.2.2.2.1, (gt g_.2.1 node dNode).2.2.2.2.2.1, (gt g_.2.1 node dNode).2.2.2.2.2.2.1, (gt g_.2.1 node dNode).2.2.2.2.2.2.2.1, (gt g_.2.1 node dNode).2.2.2.2.2.2.2.2.1, (gt g_.2.1 node dNode).2.2.2.2.2.2.2.2.2.1, (gt g_.2.1 node dNode).2.2.2.2.2.2.2.2.2.2.1, (gt g_.2.1 node dNode).2.2.2.2.2.2.2.2.2.2.2.1, (gt g_.2.1 node dNode).2.2.2.2.2.2.2.2.2.2.2.2.1, (gt g_.2.1 node dNode).2.2.2.2.2.2.2.2.2.2.2.2.2, y524.2), (0 : Int)))))))))))
noncomputable def cp45 : CallP := withC cp44 40 [(.agg tsGraph), (.one (.g (.sl (.one (.int .i64))))), pI] true [(.agg tswork), pI] (fun x => emit_of x.1 x.2.1 x.2.2.1)
theorem cp45_ok : PureOK E cp45 := conC (hn := (.c .e (.j (.x (.c .e (.l (.l (.l (.l (.c .e .e))))))) true (.k [.r 23] (.c .e (.j .e false (.k [] (.w (.c (.l (.j .e false (.k [] (.j .e false (.k [.h 1 20] .e .e)) .e))) .e) [.r 55, .h 1 20] (.k [.r 55, .h 1 20] .e .e)) .e))) .e)))) false eok cp44_ok ce3_ok (fun x => by kernel_rfl) fun x => by kernel_rfl
end
section
variable (s_ : (List Int)) (v_ : Int) (s538 : Int)
def slices_Indexint_int_r4_p : Option Unit := (bif (decide ((0 : Int) ≤ s538)) then (bif (decide (s538 < (s_.length : Int))) then (some ()) else none) else none)
def slices_Indexint_int_l2_p : Option (Int ⊕ (Int ⊕ Int)) := (bif (decide (s538 < (s_.length : Int))) then (Option.bind (slices_Indexint_int_r4_p s_ s538) (fun y540 : Unit => (bif (v_ == (gt s_ s538 (0 : Int))) then (some (Sum.inr (Sum.inr s538))) else (some (Sum.inl (IntKind.wrap .i64 (s538 + 1))))))) else (some (Sum.inr (Sum.inl s538))))
def slices_Indexint_int : Option Int := (Option.bind (iterN (slices_Indexint_int_l2_p s_ v_) LL (0 : Int)) (either (fun y541 : Int => (some (-1 : Int))) (fun y542 : Int => (some y542))))
noncomputable def cp46 : CallP := withC cp45 109 [(.one (.g (.sl (.one (.int .i64))))), pI] false [pI] (fun x => slices_Indexint_int x.1 x.2.1)
theorem cp46_ok : PureOK E cp46 := conC (hn := (.w (.c (.l (.l (.j .e false (.k [] (.c .e .e) .e)))) .e) [.r 8] (.k [.r 8] .e (.k [.r 4] .e .e)))) false eok cp45_ok ce3_ok (fun x => by kernel_rfl) fun x => by kernel_rfl
end
def slices_Containsint_int (s_ : (List Int)) (v_ : Int) : Option Bool := (Option.bind (slices_Indexint_int s_ v_) (fun y543 : Int => (some (decide (y543 ≥ 0)))))
noncomputable def cp47 : CallP := withC cp46 83 [(.one (.g (.sl (.one (.int .i64))))), pI] false [pB] (fun x => slices_Containsint_int x.1 x.2.1)
theorem cp47_ok : PureOK E cp47 := conC (hn := .e) false eok cp46_ok ce3_ok (fun x => by kernel_rfl) fun x => by kernel_rfl
def halo_Npu_r2_p (op : Int) : Option Bool := (bif (decide (op ≥ 1)) then (bif (decide (op ≤ 12)) then (Option.bind (slices_Containsint_int [(3 : Int), (9 : Int), (10 : Int), (11 : Int)] op) (fun y544 : Bool => (some (!y544)))) else (some false)) else (some false))
def halo_Npu (op : Int) : Option Bool := (Option.bind (halo_Npu_r2_p op) (fun y545 : Bool => (some y545)))
noncomputable def cp48 : CallP := withC cp47 59 [pI] false [pB] (fun x => halo_Npu x.1)
theorem cp48_ok : PureOK E cp48 := conC (hn := (.l (.l (.j (.x (.c (.l (.c .e .e)) .e)) false (.k [.r 2] .e .e))))) false eok cp47_ok ce3_ok (fun x => by kernel_rfl) fun x => by kernel_rfl
section
variable {β : Type} (h_ : Int) (rows : Int) (s558 : ((List I2) × Int))
def halo_Tiles_r1_q (K : Bool → β) : β := (bif (decide ((min h_ rows) < 1)) then (K true) else (K (decide ((max h_ rows) > 16))))
def halo_Tiles_r1_p : Bool := halo_Tiles_r1_q h_ rows (fun y => y)
def halo_Tiles_r7_p : Option Unit := (bif (decide (s558.1.length + ([(s558.2, (min rows (IntKind.wrap .i64 (h_ - s558.2))))] : List I2).length ≤ maxL)) then (some ()) else none)
def halo_Tiles_l5_p : Option (((List I2) × Int) ⊕ ((List I2) × Int)) := (bif (decide (s558.2 < h_)) then (Option.bind (halo_Tiles_r7_p h_ rows s558) (fun y560 : Unit => (some (Sum.inl ((s558.1 ++ [(s558.2, (min rows (IntKind.wrap .i64 (h_ - s558.2))))]), (IntKind.wrap .i64 (s558.2 + rows))))))) else (some (Sum.inr s558)))
def halo_Tiles : Option (List I2) := (bif (halo_Tiles_r1_p h_ rows) then (some []) else (Option.bind (iterN (halo_Tiles_l5_p h_ rows) LL ([], (0 : Int))) (fun y561 : ((List I2) × Int) => (some y561.1))))
noncomputable def cp49 : CallP := withC cp48 64 [pI, pI] false [(.one (.ow tsI2))] (fun x => halo_Tiles x.1 x.2.1)
theorem cp49_ok : PureOK E cp49 := conC (hn := (.l (.l (.j (.x (.c .e .e)) true (.k [.r 16] (.c .e (.w (.c (.l (.j .e false (.k [] .e .e))) .e) [.r 5, .r 6] (.k [.r 5, .r 6] .e .e))) .e))))) true eok cp48_ok ce3_ok (fun x => by kernel_rfl) fun x => by kernel_rfl
end
section
variable {β : Type} (first : Int) (rows : Int) (k_ : Int) (stride : Int) (pad : Int) (size : Int) (y568 : Int) (s573 : (Int × Int × Int))
def shape_Reach_r2_q (K : Bool → β) : β := (bif (decide (first < 0)) then (K true) else (bif (decide (rows < 1)) then (K true) else (bif (decide (first > y568)) then (K true) else (K (decide (rows > (IntKind.wrap .i64 (y568 - first))))))))
def shape_Reach_r2_p : Bool := shape_Reach_r2_q first rows y568 (fun y => y)
def shape_Reach_r8_q (K : Int → β) : β := (K (min size (IntKind.wrap .i64 ((IntKind.wrap .i64 ((IntKind.wrap .i64 (s573.2.2 * stride)) - pad)) + k_))))
def shape_Reach_r8_p : Int := shape_Reach_r8_q k_ stride pad size s573 (fun y => y)
def shape_Reach_r9_q (K : Bool → β) : β := (K (decide ((max (0 : Int) (IntKind.wrap .i64 ((IntKind.wrap .i64 (s573.2.2 * stride)) - pad))) < (shape_Reach_r8_p k_ stride pad size s573))))
def shape_Reach_r9_p : Bool := shape_Reach_r9_q k_ stride pad size s573 (fun y => y)
def shape_Reach_r10_q (K : Int → β) : β := (K (min s573.1 (max (0 : Int) (IntKind.wrap .i64 ((IntKind.wrap .i64 (s573.2.2 * stride)) - pad)))))
def shape_Reach_r10_p : Int := shape_Reach_r10_q stride pad s573 (fun y => y)
def shape_Reach_j8_q (K : (Int × Int) → β) : β := (bif (shape_Reach_r9_p k_ stride pad size s573) then (K ((shape_Reach_r10_p stride pad s573), (max s573.2.1 (shape_Reach_r8_p k_ stride pad size s573)))) else (K (s573.1, s573.2.1)))
def shape_Reach_j8_p : (Int × Int) := shape_Reach_j8_q k_ stride pad size s573 (fun y => y)
def shape_Reach_l6_p : Option ((Int × Int × Int) ⊕ (Int × Int × Int)) := (bif (decide (s573.2.2 < (IntKind.wrap .i64 (first + rows)))) then (some (Sum.inl ((shape_Reach_j8_p k_ stride pad size s573).1, (shape_Reach_j8_p k_ stride pad size s573).2, (IntKind.wrap .i64 (s573.2.2 + 1))))) else (some (Sum.inr s573)))
def shape_Reach : Option (Int × Int) := (Option.bind (shape_Out size k_ stride pad) (fun y568 : Int => (bif (shape_Reach_r2_p first rows y568) then (some ((0 : Int), (0 : Int))) else (Option.bind (iterN (shape_Reach_l6_p first rows k_ stride pad size) LL (size, (0 : Int), first)) (fun y574 : (Int × Int × Int) => (bif (y574.2.1 == 0) then (some ((0 : Int), (0 : Int))) else (some (y574.1, y574.2.1))))))))
noncomputable def cp50 : CallP := withC cp49 116 [pI, pI, pI, pI, pI, pI] true [pI, pI] (fun x => shape_Reach x.1 x.2.1 x.2.2.1 x.2.2.2.1 x.2.2.2.2.1 x.2.2.2.2.2.1)
theorem cp50_ok : PureOK E cp50 := conC (hn := (.l (.l (.l (.j (.x (.c .e (.l (.c .e (.l (.l (.c .e .e))))))) true (.k [.r 40] (.c .e (.w (.c (.j (.j .e true (.k [.r 17] (.j .e true (.k [.r 67] (.c (.j .e true (.k [.r 12] .e .e)) .e) .e)) .e)) true (.k [.r 12, .r 13] .e .e)) .e) [.r 12, .r 13, .r 15] (.k [.r 12, .r 13, .r 15] (.c .e .e) .e))) .e)))))) false eok cp49_ok ce3_ok (fun x => by kernel_rfl) fun x => by kernel_rfl
end
section
variable {β : Type} (n_ : Node) (in_ : (List I4)) (first : Int) (rows : Int) (y565 : (I4 × Int)) (s611 : (Int × Int × Int × Int × Int))
def kern_Needs_r4_q (K : Bool → β) : β := (bif (decide (first < 0)) then (K true) else (bif (decide (rows < 1)) then (K true) else (bif (decide (first > y565.1.1)) then (K true) else (K (decide (rows > (IntKind.wrap .i64 (y565.1.1 - first))))))))
def kern_Needs_r4_p : Bool := kern_Needs_r4_q first rows y565 (fun y => y)
def kern_Needs_r9_p : Option Unit := (bif (decide ((0 : Int) ≤ s611.1)) then (bif (decide (s611.1 < (in_.length : Int))) then (some ()) else none) else none)
def kern_Needs_j12_q (K : Bool → β) : β := (bif (n_.1 == 1) then (K (n_.1 == 1)) else (bif (n_.1 == 2) then (K (n_.1 == 2)) else (bif (n_.1 == 4) then (K (n_.1 == 4)) else (K (n_.1 == 5)))))
def kern_Needs_j12_p : Bool := kern_Needs_j12_q n_ (fun y => y)
def kern_Needs_r16_p : Option (Int × Int × Int × Int) := (Option.bind (shape_Reach first rows n_.2.2.1 n_.2.2.2.1 n_.2.2.2.2.1 ((gt in_ s611.1 dI4).1)) (fun y613 : (Int × Int) => (bif (s611.1 == 0) then (bif (s611.1 == 0) then (some (y613.1, y613.2, s611.2.2.2.1, s611.2.2.2.2)) else (bif (s611.1 == 1) then (some (y613.1, s611.2.2.1, s611.2.2.2.1, y613.2)) else none)) else (bif (s611.1 == 1) then (bif (s611.1 == 0) then (some (s611.2.1, y613.2, y613.1, s611.2.2.2.2)) else (bif (s611.1 == 1) then (some (s611.2.1, s611.2.2.1, y613.1, y613.2)) else none)) else none))))
def kern_Needs_r18_p : Option (Int × Int × Int × Int) := (Option.bind (shape_Reach first rows (1 : Int) (1 : Int) (1 : Int) ((gt in_ s611.1 dI4).1)) (fun y615 : (Int × Int) => (bif (s611.1 == 0) then (bif (s611.1 == 0) then (some (y615.1, y615.2, s611.2.2.2.1, s611.2.2.2.2)) else (bif (s611.1 == 1) then (some (y615.1, s611.2.2.1, s611.2.2.2.1, y615.2)) else none)) else (bif (s611.1 == 1) then (bif (s611.1 == 0) then (some (s611.2.1, y615.2, y615.1, s611.2.2.2.2)) else (bif (s611.1 == 1) then (some (s611.2.1, s611.2.2.1, y615.1, y615.2)) else none)) else none))))
def kern_Needs_j19_q (K : Bool → β) : β := (bif (n_.1 == 3) then (K (n_.1 == 3)) else (K (n_.1 == 11)))
def kern_Needs_j19_p : Bool := kern_Needs_j19_q n_ (fun y => y)
def kern_Needs_r21_p : Option (Int × Int × Int × Int) := (bif (s611.1 == 0) then (some ((0 : Int), (gt in_ s611.1 dI4).1, s611.2.2.2.1, s611.2.2.2.2)) else (bif (s611.1 == 1) then (some (s611.2.1, s611.2.2.1, (0 : Int), (gt in_ s611.1 dI4).1)) else none))
def kern_Needs_r11_p : Option (Int × Int × Int × Int) := (bif (s611.1 == 0) then (some (first, (IntKind.wrap .i64 (first + rows)), s611.2.2.2.1, s611.2.2.2.2)) else (bif (s611.1 == 1) then (some (s611.2.1, s611.2.2.1, first, (IntKind.wrap .i64 (first + rows)))) else none))
def kern_Needs_j8_p : Option (Int × Int × Int × Int) := (Option.bind (kern_Needs_r9_p in_ s611) (fun y612 : Unit => (bif (kern_Needs_j12_p n_) then (Option.bind (kern_Needs_r16_p n_ in_ first rows s611) (fun y614 : (Int × Int × Int × Int) => (some y614))) else (bif (n_.1 == 9) then (Option.bind (kern_Needs_r18_p in_ first rows s611) (fun y616 : (Int × Int × Int × Int) => (some y616))) else (bif (kern_Needs_j19_p n_) then (Option.bind (kern_Needs_r21_p in_ s611) (fun y617 : (Int × Int × Int × Int) => (some y617))) else (Option.bind (kern_Needs_r11_p first rows s611) (fun y618 : (Int × Int × Int × Int) => (some y618))))))))
def kern_Needs_l7_p : Option ((Int × Int × Int × Int × Int) ⊕ (Int × Int × Int × Int × Int)) := (bif (decide (s611.1 < (in_.length : Int))) then (Option.bind (kern_Needs_j8_p n_ in_ first rows s611) (fun y619 : (Int × Int × Int × Int) => (some (Sum.inl ((IntKind.wrap .i64 (s611.1 + 1)), y619.1, y619.2.1, y619.2.2.1, y619.2.2.2))))) else (some (Sum.inr s611)))
def kern_Needs : Option (I4 × Int) := (Option.bind (graph_Value n_ in_) (fun y565 : (I4 × Int) => (bif (y565.2 != 0) then (some (((0 : Int), (0 : Int), (0 : Int), (0 : Int)), y565.2)) else (bif (kern_Needs_r4_p first rows y565) then (some (((0 : Int), (0 : Int), (0 : Int), (0 : Int)), (1 : Int))) else (Option.bind (iterN (kern_Needs_l7_p n_ in_ first rows) LL ((0 : Int), (0 : Int), (0 : Int), (0 : Int), (0 : Int))) (fun y620 : (Int × Int × Int × Int × Int) => (some (y620.2, (0 : Int)))))))))
noncomputable def cp51 : CallP := withC cp50 114 [(.agg tsNode), (pL tsI4), pI, pI] true [(.agg tsI4), pI] (fun x => kern_Needs x.1 x.2.1 x.2.2.1 x.2.2.2.1)
theorem cp51_ok : PureOK E cp51 := conC (hn := (.c .e (.j (.x (.c .e (.l (.c .e (.l (.l (.l (.l (.c .e .e))))))))) true (.k [.r 24] (.c .e (.w (.c (.j (.l (.j .e false (.k [] (.l (.j (.c .e (.c .e (.c .e .e))) true (.k [.r 68] (.c (.j (.x (.c (.l (.c .e (.c .e .e))) (.c (.l (.c .e (.c .e .e))) .e))) false (.k [.h 0 0, .h 0 1, .h 0 2, .h 0 3] .e .e)) (.c (.j (.x (.c (.l (.c .e (.c .e .e))) (.c (.l (.c .e (.c .e .e))) .e))) false (.k [.h 0 0, .h 0 1, .h 0 2, .h 0 3] .e .e)) (.j (.c .e .e) true (.k [.r 107] (.c (.j (.x (.c .e (.c .e .e))) false (.k [.h 0 0, .h 0 1, .h 0 2, .h 0 3] .e .e)) (.j (.x (.c .e (.c .e .e))) false (.k [.h 0 0, .h 0 1, .h 0 2, .h 0 3] .e .e))) .e)))) .e))) .e))) false (.k [.h 0 0, .h 0 1, .h 0 2, .h 0 3] .e .e)) .e) [.r 50, .h 0 0, .h 0 1, .h 0 2, .h 0 3] (.k [.r 50, .h 0 0, .h 0 1, .h 0 2, .h 0 3] .e .e))) .e)))) false eok cp50_ok ce3_ok (fun x => by kernel_rfl) fun x => by kernel_rfl
end
def halo_Sizes_r7_p (in_ : (List I4)) (s672 : (Int × Int × Int × Int)) : Option Unit := (bif (decide ((0 : Int) ≤ s672.1)) then (bif (decide (s672.1 < (in_.length : Int))) then (some ()) else none) else none)
def halo_Sizes_r8_p (in_ : (List I4)) (y621 : (I4 × Int)) (s672 : (Int × Int × Int × Int)) : Option (Int × Int × Int) := (bif (s672.1 == 0) then (bif (s672.1 == 0) then (Option.bind (shape_Row ((gt in_ s672.1 dI4).1, (gt in_ s672.1 dI4).2.1, (gt in_ s672.1 dI4).2.2.1)) (fun y680 : Int => (bif (s672.1 == 0) then (some ((IntKind.wrap .i64 ((IntKind.wrap .i64 (y621.1.2.1 - y621.1.1)) * y680)), s672.2.2.1, s672.2.2.2)) else (bif (s672.1 == 1) then (some (s672.2.1, (IntKind.wrap .i64 ((IntKind.wrap .i64 (y621.1.2.1 - y621.1.1)) * y680)), s672.2.2.2)) else (bif (s672.1 == 2) then (some (s672.2.1, s672.2.2.1, (IntKind.wrap .i64 ((IntKind.wrap .i64 (y621.1.2.1 - y621.1.1)) * y680)))) else none))))) else (bif (s672.1 == 1) then (Option.bind (shape_Row ((gt in_ s672.1 dI4).1, (gt in_ s672.1 dI4).2.1, (gt in_ s672.1 dI4).2.2.1)) (fun y681 : Int => (bif (s672.1 == 0) then (some ((IntKind.wrap .i64 ((IntKind.wrap .i64 (y621.1.2.1 - y621.1.2.2.1)) * y681)), s672.2.2.1, s672.2.2.2)) else (bif (s672.1 == 1) then (some (s672.2.1, (IntKind.wrap .i64 ((IntKind.wrap .i64 (y621.1.2.1 - y621.1.2.2.1)) * y681)), s672.2.2.2)) else (bif (s672.1 == 2) then (some (s672.2.1, s672.2.2.1, (IntKind.wrap .i64 ((IntKind.wrap .i64 (y621.1.2.1 - y621.1.2.2.1)) * y681)))) else none))))) else none)) else (bif (s672.1 == 1) then (bif (s672.1 == 0) then (Option.bind (shape_Row ((gt in_ s672.1 dI4).1, (gt in_ s672.1 dI4).2.1, (gt in_ s672.1 dI4).2.2.1)) (fun y682 : Int => (bif (s672.1 == 0) then (some ((IntKind.wrap .i64 ((IntKind.wrap .i64 (y621.1.2.2.2 - y621.1.1)) * y682)), s672.2.2.1, s672.2.2.2)) else (bif (s672.1 == 1) then (some (s672.2.1, (IntKind.wrap .i64 ((IntKind.wrap .i64 (y621.1.2.2.2 - y621.1.1)) * y682)), s672.2.2.2)) else (bif (s672.1 == 2) then (some (s672.2.1, s672.2.2.1, (IntKind.wrap .i64 ((IntKind.wrap .i64 (y621.1.2.2.2 - y621.1.1)) * y682)))) else none))))) else (bif (s672.1 == 1) then (Option.bind (shape_Row ((gt in_ s672.1 dI4).1, (gt in_ s672.1 dI4).2.1, (gt in_ s672.1 dI4).2.2.1)) (fun y683 : Int => (bif (s672.1 == 0) then (some ((IntKind.wrap .i64 ((IntKind.wrap .i64 (y621.1.2.2.2 - y621.1.2.2.1)) * y683)), s672.2.2.1, s672.2.2.2)) else (bif (s672.1 == 1) then (some (s672.2.1, (IntKind.wrap .i64 ((IntKind.wrap .i64 (y621.1.2.2.2 - y621.1.2.2.1)) * y683)), s672.2.2.2)) else (bif (s672.1 == 2) then (some (s672.2.1, s672.2.2.1, (IntKind.wrap .i64 ((IntKind.wrap .i64 (y621.1.2.2.2 - y621.1.2.2.1)) * y683)))) else none))))) else none)) else none))
def halo_Sizes_l6_p (in_ : (List I4)) (y621 : (I4 × Int)) (s672 : (Int × Int × Int × Int)) : Option ((Int × Int × Int × Int) ⊕ (Int × Int × Int × Int)) := (bif (decide (s672.1 < (in_.length : Int))) then (Option.bind (halo_Sizes_r7_p in_ s672) (fun y679 : Unit => (Option.bind (halo_Sizes_r8_p in_ y621 s672) (fun y684 : (Int × Int × Int) => (some (Sum.inl ((IntKind.wrap .i64 (s672.1 + 1)), y684.1, y684.2.1, y684.2.2))))))) else (some (Sum.inr s672)))
def halo_Sizes (n_ : Node) (in_ : (List I4)) (first : Int) (rows : Int) : Option (I3 × Int) := (Option.bind (kern_Needs n_ in_ first rows) (fun y621 : (I4 × Int) => (bif (y621.2 != 0) then (some (((0 : Int), (0 : Int), (0 : Int)), y621.2)) else (Option.bind (iterN (halo_Sizes_l6_p in_ y621) LL ((0 : Int), (0 : Int), (0 : Int), (0 : Int))) (fun y685 : (Int × Int × Int × Int) => (Option.bind (graph_Value n_ in_) (fun y686 : (I4 × Int) => (Option.bind (shape_Row (y686.1.1, y686.1.2.1, y686.1.2.2.1)) (fun y687 : Int => (some ((y685.2.1, y685.2.2.1, (IntKind.wrap .i64 (rows * y687))), (0 : Int))))))))))))
noncomputable def cp52 : CallP := withC cp51 110 [(.agg tsNode), (pL tsI4), pI, pI] true [(.agg tsI3), pI] (fun x => halo_Sizes x.1 x.2.1 x.2.2.1 x.2.2.2.1)
theorem cp52_ok : PureOK E cp52 := conC (hn := (.c .e (.w (.c (.l (.j .e false (.k [] (.j (.x (.c (.l (.l (.c (.l (.c .e (.c .e (.c .e .e)))) (.c (.l (.c .e (.c .e (.c .e .e)))) .e)))) (.c (.l (.l (.c (.l (.c .e (.c .e (.c .e .e)))) (.c (.l (.c .e (.c .e (.c .e .e)))) .e)))) .e))) false (.k [.h 2 0, .h 2 1, .h 2 2] .e .e)) .e))) .e) [.r 31, .h 2 0, .h 2 1, .h 2 2] (.k [.r 31, .h 2 0, .h 2 1, .h 2 2] .e .e)))) false eok cp51_ok ce3_ok (fun x => by kernel_rfl) fun x => by kernel_rfl
section
variable {β : Type} (n_ : Node) (in_ : (List I4)) (rows : Int) (y551 : (I4 × Int)) (y745 : (List I2)) (s775 : (Int × Int × Int × Int)) (y791 : (I3 × Int)) (s798 : (Int × Int × Int × Int))
def halo_Most_r4_q (K : Bool → β) : β := (bif (decide (rows < 1)) then (K true) else (K (decide (rows > y551.1.1))))
def halo_Most_r4_p : Bool := halo_Most_r4_q rows y551 (fun y => y)
def halo_Most_r9_p : Option Unit := (bif (decide ((0 : Int) ≤ s775.1)) then (bif (decide (s775.1 < (y745.length : Int))) then (some ()) else none) else none)
def halo_Most_r13_p : Option Int := (bif (s798.1 == 0) then (some y791.1.1) else (bif (s798.1 == 1) then (some y791.1.2.1) else (bif (s798.1 == 2) then (some y791.1.2.2) else none)))
def halo_Most_r14_p (y801 : Int) : Option (Int × Int × Int) := (bif (s798.1 == 0) then (bif (s798.1 == 0) then (some ((max s798.2.1 y801), s798.2.2.1, s798.2.2.2)) else (bif (s798.1 == 1) then (some (s798.2.1, (max s798.2.1 y801), s798.2.2.2)) else (bif (s798.1 == 2) then (some (s798.2.1, s798.2.2.1, (max s798.2.1 y801))) else none))) else (bif (s798.1 == 1) then (bif (s798.1 == 0) then (some ((max s798.2.2.1 y801), s798.2.2.1, s798.2.2.2)) else (bif (s798.1 == 1) then (some (s798.2.1, (max s798.2.2.1 y801), s798.2.2.2)) else (bif (s798.1 == 2) then (some (s798.2.1, s798.2.2.1, (max s798.2.2.1 y801))) else none))) else (bif (s798.1 == 2) then (bif (s798.1 == 0) then (some ((max s798.2.2.2 y801), s798.2.2.1, s798.2.2.2)) else (bif (s798.1 == 1) then (some (s798.2.1, (max s798.2.2.2 y801), s798.2.2.2)) else (bif (s798.1 == 2) then (some (s798.2.1, s798.2.2.1, (max s798.2.2.2 y801))) else none))) else none)))
def halo_Most_l12_p : Option ((Int × Int × Int × Int) ⊕ (Int × Int × Int × Int)) := (bif (decide (s798.1 < 3)) then (Option.bind (halo_Most_r13_p y791 s798) (fun y801 : Int => (Option.bind (halo_Most_r14_p s798 y801) (fun y802 : (Int × Int × Int) => (some (Sum.inl ((IntKind.wrap .i64 (s798.1 + 1)), y802.1, y802.2.1, y802.2.2))))))) else (some (Sum.inr s798)))
def halo_Most_l8_p : Option ((Int × Int × Int × Int) ⊕ (Int × Int × Int × Int)) := (bif (decide (s775.1 < (y745.length : Int))) then (Option.bind (halo_Most_r9_p y745 s775) (fun y790 : Unit => (Option.bind (halo_Sizes n_ in_ ((gt y745 s775.1 dI2).1) ((gt y745 s775.1 dI2).2)) (fun y791 : (I3 × Int) => (Option.bind (iterN (halo_Most_l12_p y791) LL ((0 : Int), s775.2.1, s775.2.2.1, s775.2.2.2)) (fun y803 : (Int × Int × Int × Int) => (some (Sum.inl ((IntKind.wrap .i64 (s775.1 + 1)), y803.2.1, y803.2.2.1, y803.2.2.2))))))))) else (some (Sum.inr s775)))
def halo_Most : Option (I3 × Int) := (Option.bind (graph_Value n_ in_) (fun y551 : (I4 × Int) => (bif (y551.2 != 0) then (some (((0 : Int), (0 : Int), (0 : Int)), y551.2)) else (bif (halo_Most_r4_p rows y551) then (some (((0 : Int), (0 : Int), (0 : Int)), (1 : Int))) else (Option.bind (halo_Tiles y551.1.1 rows) (fun y745 : (List I2) => (Option.bind (iterN (halo_Most_l8_p n_ in_ y745) LL ((0 : Int), (0 : Int), (0 : Int), (0 : Int))) (fun y804 : (Int × Int × Int × Int) => (some (y804.2, (0 : Int)))))))))))
noncomputable def cp53 : CallP := withC cp52 84 [(.agg tsNode), (pL tsI4), pI] true [(.agg tsI3), pI] (fun x => halo_Most x.1 x.2.1 x.2.2.1)
theorem cp53_ok : PureOK E cp53 := conC (hn := (.c .e (.j (.x (.c .e .e)) true (.k [.r 28] (.c .e (.w (.c (.l (.j .e false (.k [] (.w (.c (.l (.j (.x (.c .e (.c .e (.c .e .e)))) false (.k [.r 16] (.j (.x (.c (.c .e (.c .e (.c .e .e))) (.c (.c .e (.c .e (.c .e .e))) (.c (.c .e (.c .e (.c .e .e))) .e)))) false (.k [.h 2 0, .h 2 1, .h 2 2] .e .e)) .e))) .e) [.r 60, .h 2 0, .h 2 1, .h 2 2] (.k [.r 60, .h 2 0, .h 2 1, .h 2 2] .e .e)) .e))) .e) [.r 45, .h 2 0, .h 2 1, .h 2 2] (.k [.r 45, .h 2 0, .h 2 1, .h 2 2] .e .e))) .e)))) false eok cp52_ok ce3_ok (fun x => by kernel_rfl) fun x => by kernel_rfl
end
section
variable (y805 : (I3 × Int)) (s812 : (Int × Int))
def tile_Need_r5_p : Option Int := (bif (s812.2 == 0) then (some y805.1.1) else (bif (s812.2 == 1) then (some y805.1.2.1) else (bif (s812.2 == 2) then (some y805.1.2.2) else none)))
def tile_Need_l4_p : Option ((Int × Int) ⊕ (Int × Int)) := (bif (decide (s812.2 < 3)) then (Option.bind (tile_Need_r5_p y805 s812) (fun y814 : Int => (some (Sum.inl ((IntKind.wrap .i64 (s812.1 + (IntKind.wrap .i64 ((2 : Int) * y814)))), (IntKind.wrap .i64 (s812.2 + 1))))))) else (some (Sum.inr s812)))
def tile_Need (n_ : Node) (in_ : (List I4)) (rows : Int) : Option (Int × Int) := (Option.bind (halo_Most n_ in_ rows) (fun y805 : (I3 × Int) => (Option.bind (iterN (tile_Need_l4_p y805) LL ((0 : Int), (0 : Int))) (fun y815 : (Int × Int) => (some (y815.1, y805.2))))))
noncomputable def cp54 : CallP := withC cp53 60 [(.agg tsNode), (pL tsI4), pI] true [pI, pI] (fun x => tile_Need x.1 x.2.1 x.2.2.1)
theorem cp54_ok : PureOK E cp54 := conC (hn := (.w (.c (.l (.j (.x (.c .e (.c .e (.c .e .e)))) false (.k [.r 12] .e .e))) .e) [.r 10, .r 21] (.k [.r 10, .r 21] .e .e))) false eok cp53_ok ce3_ok (fun x => by kernel_rfl) fun x => by kernel_rfl
end
end Go.V.P
