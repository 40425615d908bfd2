/- What functions compute. -/
import Derived.Test.YtaeckbkjlmnigaaGreatBa3
namespace Go.V.P
open Go.RowKit Go.V Go.Proofs
set_option linter.unusedVariables false
set_option maxRecDepth 100000
def law19_BuildAll_r6_p (y1239 : (Image × Int)) (y3252 : (Image × Int)) : Option Bool := (Option.bind (bldTiled y1239.1) (fun y3416 : (List Bool) => (Option.bind (ref19_Tiled y3252.1) (fun y4051 : (List Bool) => (Option.bind (ref19_Bools y3416 y4051) (fun y4068 : Bool => (some y4068)))))))
def law19_BuildAll_r7_p (y1167 : Bool) (y1239 : (Image × Int)) (y3252 : (Image × Int)) (y3415 : Bool) (y4069 : Bool) : Option Bool := (bif y1167 then (bif y3415 then (bif (y1239.2 == y3252.2) then (Option.bind (bldBudget y1239.1) (fun y4070 : Int => (Option.bind (ref19_Budget y3252.1) (fun y4149 : Int => (bif (y4070 == y4149) then (some y4069) else (some false)))))) else (some false)) else (some false)) else (some false))
def law19_BuildAll (g_ : Graph) : Option Bool := (Option.bind law19_shown (fun y1167 : Bool => (Option.bind (law19_less g_) (fun y1238 : Graph => (Option.bind (build_Compile y1238) (fun y1239 : (Image × Int) => (Option.bind (ref19_Compile y1238) (fun y3252 : (Image × Int) => (Option.bind (ref09_Same y1239.1 y3252.1) (fun y3415 : Bool => (Option.bind (law19_BuildAll_r6_p y1239 y3252) (fun y4069 : Bool => (Option.bind (law19_BuildAll_r7_p y1167 y1239 y3252 y3415 y4069) (fun y4150 : Bool => (some y4150)))))))))))))))
noncomputable def cp116 : CallP := withC cp115 3 [(.agg tsGraph)] false [pB] (fun x => law19_BuildAll x.1)
theorem cp116_ok : PureOK E cp116 := conC (hn := (.l (.l (.l (.l (.l (.l (.j .e false (.k [.r 9] (.j (.x (.c (.c (.l (.l (.c (.l (.l (.l (.l (.c .e .e))))) .e))) .e) .e)) false (.k [.r 2] .e .e)) .e))))))))) false eok cp115_ok ce4_ok (fun x => by kernel_rfl) fun x => by kernel_rfl
theorem law19_BuildAll_walk (g_ : Graph) (ht : law19_BuildAll g_ = some true) (w : World) (vs : List Value) (hrd : ∀ γ : Gh, Free γ → rdRs w γ [argR true tsGraph g_] vs) : Calls E.P 3 vs.toArray w fun e w' => e = .returned (.bool true) ∧ Below w.heap.size w w' :=
  walk_true (E := E) cp116_ok (Eq.trans (b := (law19_BuildAll g_).bind fun y => some (rb y)) (by kernel_rfl) (by rw [ht]; rfl) : cp116 3 [rA tsGraph g_] = some (.one (.g .bool true))) w fun γ hγ => Eq.mp (by kernel_rfl) (hrd γ hγ)
end Go.V.P
