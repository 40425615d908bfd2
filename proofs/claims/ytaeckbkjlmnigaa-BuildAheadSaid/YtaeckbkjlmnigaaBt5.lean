/- What functions compute. -/
import Derived.Test.YtaeckbkjlmnigaaBt2
namespace Go.V.P
open Go.RowKit Go.V Go.Proofs
set_option linter.unusedVariables false
set_option maxRecDepth 100000
section
variable (a_ : (List Int)) (b_ : (List Int)) (s2241 : Int)
def ref03_ints_r6_p : Option Unit := (bif (decide ((0 : Int) ≤ s2241)) then (bif (decide (s2241 < (a_.length : Int))) then (bif (decide ((0 : Int) ≤ s2241)) then (bif (decide (s2241 < (b_.length : Int))) then (some ()) else none) else none) else none) else none)
def ref03_ints_l4_p : Option (Int ⊕ (Int ⊕ Unit)) := (bif (decide (s2241 < (a_.length : Int))) then (Option.bind (ref03_ints_r6_p a_ b_ s2241) (fun y2243 : Unit => (bif ((gt a_ s2241 (0 : Int)) != (gt b_ s2241 (0 : Int))) then (some (Sum.inr (Sum.inr ()))) else (some (Sum.inl (IntKind.wrap .i64 (s2241 + 1))))))) else (some (Sum.inr (Sum.inl s2241))))
/-- quilt/quiltref03.ints -/
def ref03_ints : Option Bool := (bif ((a_.length : Int) != (b_.length : Int)) then (some false) else (Option.bind (iterN (ref03_ints_l4_p a_ b_) LL (0 : Int)) (either (fun y2244 : Int => (some true)) (fun y2245 : Unit => (some false)))))
noncomputable def cp92 : CallP := withC cp89 28 [(.one (.g (.sl (.one (.int .i64))))), (.one (.g (.sl (.one (.int .i64)))))] false [pB] (fun x => ref03_ints x.1 x.2.1)
theorem cp92_ok : PureOK E cp92 := conC (hn := (.c .e (.w (.c (.l (.j .e false (.k [] (.c .e .e) .e))) .e) [.r 5] (.k [.r 5] .e (.k [] .e .e))))) false eok cp89_ok ce4_ok (fun x => by kernel_rfl) fun x => by kernel_rfl
end
/-- quilt/quiltref03.Ints -/
def ref03_Ints (a_ : (List Int)) (b_ : (List Int)) : Option Bool := (Option.bind (ref03_ints a_ b_) (fun y2246 : Bool => (some y2246)))
noncomputable def cp93 : CallP := withC cp92 16 [(.one (.g (.sl (.one (.int .i64))))), (.one (.g (.sl (.one (.int .i64)))))] false [pB] (fun x => ref03_Ints x.1 x.2.1)
theorem cp93_ok : PureOK E cp93 := conC (hn := .e) false eok cp92_ok ce4_ok (fun x => by kernel_rfl) fun x => by kernel_rfl
section
variable (a_ : (List I14)) (b_ : (List I14)) (s2261 : Int)
def ref08_Same_r6_p : Option Bool := (bif (decide ((0 : Int) ≤ s2261)) then (bif (decide (s2261 < (a_.length : Int))) then (bif (decide ((0 : Int) ≤ s2261)) then (bif (decide (s2261 < (b_.length : Int))) then (some (!((((gt a_ s2261 dI14).1) == ((gt b_ s2261 dI14).1)) && ((((gt a_ s2261 dI14).2.1) == ((gt b_ s2261 dI14).2.1)) && ((((gt a_ s2261 dI14).2.2.1) == ((gt b_ s2261 dI14).2.2.1)) && ((((gt a_ s2261 dI14).2.2.2.1) == ((gt b_ s2261 dI14).2.2.2.1)) && ((((gt a_ s2261 dI14).2.2.2.2.1) == ((gt b_ s2261 dI14).2.2.2.2.1)) && ((((gt a_ s2261 dI14).2.2.2.2.2.1) == ((gt b_ s2261 dI14).2.2.2.2.2.1)) && ((((gt a_ s2261 dI14).2.2.2.2.2.2.1) == ((gt b_ s2261 dI14).2.2.2.2.2.2.1)) && ((((gt a_ s2261 dI14).2.2.2.2.2.2.2.1) == ((gt b_ s2261 dI14).2.2.2.2.2.2.2.1)) && ((((gt a_ s2261 dI14).2.2.2.2.2.2.2.2.1) == ((gt b_ s2261 dI14).2.2.2.2.2.2.2.2.1)) && ((((gt a_ s2261 dI14).2.2.2.2.2.2.2.2.2.1) == ((gt b_ s2261 dI14).2.2.2.2.2.2.2.2.2.1)) && ((((gt a_ s2261 dI14).2.2.2.2.2.2.2.2.2.2.1) == ((gt b_ s2261 dI14).2.2.2.2.2.2.2.2.2.2.1)) && ((((gt a_ s2261 dI14).2.2.2.2.2.2.2.2.2.2.2.1) == ((gt b_ s2261 dI14).2.2.2.2.2.2.2.2.2.2.2.1)) && ((((gt a_ s2261 dI14).2.2.2.2.2.2.2.2.2.2.2.2.1) == ((gt b_ s2261 dI14).2.2.2.2.2.2.2.2.2.2.2.2.1)) && ((((gt a_ s2261 dI14).2.2.2.2.2.2.2.2.2.2.2.2.2) == ((gt b_ s2261 dI14).2.2.2.2.2.2.2.2.2.2.2.2.2)) && true)))))))))))))))) else none) else none) else none) else none)
def ref08_Same_l4_p : Option (Int ⊕ (Int ⊕ Unit)) := (bif (decide (s2261 < (a_.length : Int))) then (Option.bind (ref08_Same_r6_p a_ b_ s2261) (fun y2263 : Bool => (bif y2263 then (some (Sum.inr (Sum.inr ()))) else (some (Sum.inl (IntKind.wrap .i64 (s2261 + 1))))))) else (some (Sum.inr (Sum.inl s2261))))
/-- quilt/quiltref08.Same -/
def ref08_Same : Option Bool := (bif ((a_.length : Int) != (b_.length : Int)) then (some false) else (Option.bind (iterN (ref08_Same_l4_p a_ b_) LL (0 : Int)) (either (fun y2264 : Int => (some true)) (fun y2265 : Unit => (some false)))))
noncomputable def cp94 : CallP := withC cp93 17 [(pL tsI14), (pL tsI14)] false [pB] (fun x => ref08_Same x.1 x.2.1)
theorem cp94_ok : PureOK E cp94 := conC (hn := (.c .e (.w (.c (.l (.j .e false (.k [.r 25] (.c .e .e) .e))) .e) [.r 5] (.k [.r 5] .e (.k [] .e .e))))) false eok cp93_ok ce4_ok (fun x => by kernel_rfl) fun x => by kernel_rfl
end
end Go.V.P
