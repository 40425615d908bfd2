/- What functions compute. -/
import Derived.Test.YtelfooangijedaaHa1
namespace Go.V.P
open Go.RowKit Go.V Go.Proofs
set_option linter.unusedVariables false
set_option maxRecDepth 100000
section
variable {α β : Type} (n_ : Node) (in_ : (List I4)) (y128 : (Bool × Int × Bool × Bool × Bool × Bool × Bool × (Unit ⊕ (Unit ⊕ (Unit ⊕ (Unit ⊕ (Unit ⊕ (Unit ⊕ (Unit ⊕ (Unit ⊕ Unit)))))))) × (Unit ⊕ (Unit ⊕ (Unit ⊕ (Unit ⊕ (Unit ⊕ Unit))))))) (y259 : (Int × Int × Int)) (y271 : (Int × Int)) (k : St → Option α)
noncomputable abbrev C40 := codeOf E.P 21
noncomputable abbrev P40 := @preK α E 21 cp40 noE
def graph_Value_r1_p : Option (Bool × Int × Bool × Bool × Bool × Bool × Bool × (Unit ⊕ (Unit ⊕ (Unit ⊕ (Unit ⊕ (Unit ⊕ (Unit ⊕ (Unit ⊕ (Unit ⊕ Unit)))))))) × (Unit ⊕ (Unit ⊕ (Unit ⊕ (Unit ⊕ (Unit ⊕ Unit)))))) := (Option.bind (graph_of n_.1) (fun y64 : ((Int × Bool × Bool × Bool × Bool × Bool × (Unit ⊕ (Unit ⊕ (Unit ⊕ (Unit ⊕ (Unit ⊕ (Unit ⊕ (Unit ⊕ (Unit ⊕ Unit)))))))) × (Unit ⊕ (Unit ⊕ (Unit ⊕ (Unit ⊕ (Unit ⊕ Unit))))) × Unit) × Bool) => ((either (fun u65 : Unit => ((either (fun u66 : Unit => (some (y64.2, y64.1.1, y64.1.2.1, y64.1.2.2.1, y64.1.2.2.2.1, y64.1.2.2.2.2.1, y64.1.2.2.2.2.2.1, (Sum.inl ()), (Sum.inl ())))) (either (fun u67 : Unit => (some (y64.2, y64.1.1, y64.1.2.1, y64.1.2.2.1, y64.1.2.2.2.1, y64.1.2.2.2.2.1, y64.1.2.2.2.2.2.1, (Sum.inl ()), (Sum.inr (Sum.inl ()))))) (either (fun u68 : Unit => (some (y64.2, y64.1.1, y64.1.2.1, y64.1.2.2.1, y64.1.2.2.2.1, y64.1.2.2.2.2.1, y64.1.2.2.2.2.2.1, (Sum.inl ()), (Sum.inr (Sum.inr (Sum.inl ())))))) (either (fun u69 : Unit => (some (y64.2, y64.1.1, y64.1.2.1, y64.1.2.2.1, y64.1.2.2.2.1, y64.1.2.2.2.2.1, y64.1.2.2.2.2.2.1, (Sum.inl ()), (Sum.inr (Sum.inr (Sum.inr (Sum.inl ()))))))) (either (fun u70 : Unit => (some (y64.2, y64.1.1, y64.1.2.1, y64.1.2.2.1, y64.1.2.2.2.1, y64.1.2.2.2.2.1, y64.1.2.2.2.2.2.1, (Sum.inl ()), (Sum.inr (Sum.inr (Sum.inr (Sum.inr (Sum.inl ())))))))) (fun u71 : Unit => (some (y64.2, y64.1.1, y64.1.2.1, y64.1.2.2.1, y64.1.2.2.2.1, y64.1.2.2.2.2.1, y64.1.2.2.2.2.2.1, (Sum.inl ()), (Sum.inr (Sum.inr (Sum.inr (Sum.inr (Sum.inr ()))))))))))))) y64.1.2.2.2.2.2.2.2.1)) (either (fun u72 : Unit => ((either (fun u73 : Unit => (some (y64.2, y64.1.1, y64.1.2.1, y64.1.2.2.1, y64.1.2.2.2.1, y64.1.2.2.2.2.1, y64.1.2.2.2.2.2.1, (Sum.inr (Sum.inl ())), (Sum.inl ())))) (either (fun u74 : Unit => (some (y64.2, y64.1.1, y64.1.2.1, y64.1.2.2.1, y64.1.2.2.2.1, y64.1.2.2.2.2.1, y64.1.2.2.2.2.2.1, (Sum.inr (Sum.inl ())), (Sum.inr (Sum.inl ()))))) (either (fun u75 : Unit => (some (y64.2, y64.1.1, y64.1.2.1, y64.1.2.2.1, y64.1.2.2.2.1, y64.1.2.2.2.2.1, y64.1.2.2.2.2.2.1, (Sum.inr (Sum.inl ())), (Sum.inr (Sum.inr (Sum.inl ())))))) (either (fun u76 : Unit => (some (y64.2, y64.1.1, y64.1.2.1, y64.1.2.2.1, y64.1.2.2.2.1, y64.1.2.2.2.2.1, y64.1.2.2.2.2.2.1, (Sum.inr (Sum.inl ())), (Sum.inr (Sum.inr (Sum.inr (Sum.inl ()))))))) (either (fun u77 : Unit => (some (y64.2, y64.1.1, y64.1.2.1, y64.1.2.2.1, y64.1.2.2.2.1, y64.1.2.2.2.2.1, y64.1.2.2.2.2.2.1, (Sum.inr (Sum.inl ())), (Sum.inr (Sum.inr (Sum.inr (Sum.inr (Sum.inl ())))))))) (fun u78 : Unit => (some (y64.2, y64.1.1, y64.1.2.1, y64.1.2.2.1, y64.1.2.2.2.1, y64.1.2.2.2.2.1, y64.1.2.2.2.2.2.1, (Sum.inr (Sum.inl ())), (Sum.inr (Sum.inr (Sum.inr (Sum.inr (Sum.inr ()))))))))))))) y64.1.2.2.2.2.2.2.2.1)) (either (fun u79 : Unit => ((either (fun u80 : Unit => (some (y64.2, y64.1.1, y64.1.2.1, y64.1.2.2.1, y64.1.2.2.2.1, y64.1.2.2.2.2.1, y64.1.2.2.2.2.2.1, (Sum.inr (Sum.inr (Sum.inl ()))), (Sum.inl ())))) (either (fun u81 : Unit => (some (y64.2, y64.1.1, y64.1.2.1, y64.1.2.2.1, y64.1.2.2.2.1, y64.1.2.2.2.2.1, y64.1.2.2.2.2.2.1, (Sum.inr (Sum.inr (Sum.inl ()))), (Sum.inr (Sum.inl ()))))) (either (fun u82 : Unit => (some (y64.2, y64.1.1, y64.1.2.1, y64.1.2.2.1, y64.1.2.2.2.1, y64.1.2.2.2.2.1, y64.1.2.2.2.2.2.1, (Sum.inr (Sum.inr (Sum.inl ()))), (Sum.inr (Sum.inr (Sum.inl ())))))) (either (fun u83 : Unit => (some (y64.2, y64.1.1, y64.1.2.1, y64.1.2.2.1, y64.1.2.2.2.1, y64.1.2.2.2.2.1, y64.1.2.2.2.2.2.1, (Sum.inr (Sum.inr (Sum.inl ()))), (Sum.inr (Sum.inr (Sum.inr (Sum.inl ()))))))) (either (fun u84 : Unit => (some (y64.2, y64.1.1, y64.1.2.1, y64.1.2.2.1, y64.1.2.2.2.1, y64.1.2.2.2.2.1, y64.1.2.2.2.2.2.1, (Sum.inr (Sum.inr (Sum.inl ()))), (Sum.inr (Sum.inr (Sum.inr (Sum.inr (Sum.inl ())))))))) (fun u85 : Unit => (some (y64.2, y64.1.1, y64.1.2.1, y64.1.2.2.1, y64.1.2.2.2.1, y64.1.2.2.2.2.1, y64.1.2.2.2.2.2.1, (Sum.inr (Sum.inr (Sum.inl ()))), (Sum.inr (Sum.inr (Sum.inr (Sum.inr (Sum.inr ()))))))))))))) y64.1.2.2.2.2.2.2.2.1)) (either (fun u86 : Unit => ((either (fun u87 : Unit => (some (y64.2, y64.1.1, y64.1.2.1, y64.1.2.2.1, y64.1.2.2.2.1, y64.1.2.2.2.2.1, y64.1.2.2.2.2.2.1, (Sum.inr (Sum.inr (Sum.inr (Sum.inl ())))), (Sum.inl ())))) (either (fun u88 : Unit => (some (y64.2, y64.1.1, y64.1.2.1, y64.1.2.2.1, y64.1.2.2.2.1, y64.1.2.2.2.2.1, y64.1.2.2.2.2.2.1, (Sum.inr (Sum.inr (Sum.inr (Sum.inl ())))), (Sum.inr (Sum.inl ()))))) (either (fun u89 : Unit => (some (y64.2, y64.1.1, y64.1.2.1, y64.1.2.2.1, y64.1.2.2.2.1, y64.1.2.2.2.2.1, y64.1.2.2.2.2.2.1, (Sum.inr (Sum.inr (Sum.inr (Sum.inl ())))), (Sum.inr (Sum.inr (Sum.inl ())))))) (either (fun u90 : Unit => (some (y64.2, y64.1.1, y64.1.2.1, y64.1.2.2.1, y64.1.2.2.2.1, y64.1.2.2.2.2.1, y64.1.2.2.2.2.2.1, (Sum.inr (Sum.inr (Sum.inr (Sum.inl ())))), (Sum.inr (Sum.inr (Sum.inr (Sum.inl ()))))))) (either (fun u91 : Unit => (some (y64.2, y64.1.1, y64.1.2.1, y64.1.2.2.1, y64.1.2.2.2.1, y64.1.2.2.2.2.1, y64.1.2.2.2.2.2.1, (Sum.inr (Sum.inr (Sum.inr (Sum.inl ())))), (Sum.inr (Sum.inr (Sum.inr (Sum.inr (Sum.inl ())))))))) (fun u92 : Unit => (some (y64.2, y64.1.1, y64.1.2.1, y64.1.2.2.1, y64.1.2.2.2.1, y64.1.2.2.2.2.1, y64.1.2.2.2.2.2.1, (Sum.inr (Sum.inr (Sum.inr (Sum.inl ())))), (Sum.inr (Sum.inr (Sum.inr (Sum.inr (Sum.inr ()))))))))))))) y64.1.2.2.2.2.2.2.2.1)) (either (fun u93 : Unit => ((either (fun u94 : Unit => (some (y64.2, y64.1.1, y64.1.2.1, y64.1.2.2.1, y64.1.2.2.2.1, y64.1.2.2.2.2.1, y64.1.2.2.2.2.2.1, (Sum.inr (Sum.inr (Sum.inr (Sum.inr (Sum.inl ()))))), (Sum.inl ())))) (either (fun u95 : Unit => (some (y64.2, y64.1.1, y64.1.2.1, y64.1.2.2.1, y64.1.2.2.2.1, y64.1.2.2.2.2.1, y64.1.2.2.2.2.2.1, (Sum.inr (Sum.inr (Sum.inr (Sum.inr (Sum.inl ()))))), (Sum.inr (Sum.inl ()))))) (either (fun u96 : Unit => (some (y64.2, y64.1.1, y64.1.2.1, y64.1.2.2.1, y64.1.2.2.2.1, y64.1.2.2.2.2.1, y64.1.2.2.2.2.2.1, (Sum.inr (Sum.inr (Sum.inr (Sum.inr (Sum.inl ()))))), (Sum.inr (Sum.inr (Sum.inl ())))))) (either (fun u97 : Unit => (some (y64.2, y64.1.1, y64.1.2.1, y64.1.2.2.1, y64.1.2.2.2.1, y64.1.2.2.2.2.1, y64.1.2.2.2.2.2.1, (Sum.inr (Sum.inr (Sum.inr (Sum.inr (Sum.inl ()))))), (Sum.inr (Sum.inr (Sum.inr (Sum.inl ()))))))) (either (fun u98 : Unit => (some (y64.2, y64.1.1, y64.1.2.1, y64.1.2.2.1, y64.1.2.2.2.1, y64.1.2.2.2.2.1, y64.1.2.2.2.2.2.1, (Sum.inr (Sum.inr (Sum.inr (Sum.inr (Sum.inl ()))))), (Sum.inr (Sum.inr (Sum.inr (Sum.inr (Sum.inl ())))))))) (fun u99 : Unit => (some (y64.2, y64.1.1, y64.1.2.1, y64.1.2.2.1, y64.1.2.2.2.1, y64.1.2.2.2.2.1, y64.1.2.2.2.2.2.1, (Sum.inr (Sum.inr (Sum.inr (Sum.inr (Sum.inl ()))))), (Sum.inr (Sum.inr (Sum.inr (Sum.inr (Sum.inr ()))))))))))))) y64.1.2.2.2.2.2.2.2.1)) (either (fun u100 : Unit => ((either (fun u101 : Unit => (some (y64.2, y64.1.1, y64.1.2.1, y64.1.2.2.1, y64.1.2.2.2.1, y64.1.2.2.2.2.1, y64.1.2.2.2.2.2.1, (Sum.inr (Sum.inr (Sum.inr (Sum.inr (Sum.inr (Sum.inl ())))))), (Sum.inl ())))) (either (fun u102 : Unit => (some (y64.2, y64.1.1, y64.1.2.1, y64.1.2.2.1, y64.1.2.2.2.1, y64.1.2.2.2.2.1, y64.1.2.2.2.2.2.1, (Sum.inr (Sum.inr (Sum.inr (Sum.inr (Sum.inr (Sum.inl ())))))), (Sum.inr (Sum.inl ()))))) (either (fun u103 : Unit => (some (y64.2, y64.1.1, y64.1.2.1, y64.1.2.2.1, y64.1.2.2.2.1, y64.1.2.2.2.2.1, y64.1.2.2.2.2.2.1, (Sum.inr (Sum.inr (Sum.inr (Sum.inr (Sum.inr (Sum.inl ())))))), (Sum.inr (Sum.inr (Sum.inl ())))))) (either (fun u104 : Unit => (some (y64.2, y64.1.1, y64.1.2.1, y64.1.2.2.1, y64.1.2.2.2.1, y64.1.2.2.2.2.1, y64.1.2.2.2.2.2.1, (Sum.inr (Sum.inr (Sum.inr (Sum.inr (Sum.inr (Sum.inl ())))))), (Sum.inr (Sum.inr (Sum.inr (Sum.inl ()))))))) (either (fun u105 : Unit => (some (y64.2, y64.1.1, y64.1.2.1, y64.1.2.2.1, y64.1.2.2.2.1, y64.1.2.2.2.2.1, y64.1.2.2.2.2.2.1, (Sum.inr (Sum.inr (Sum.inr (Sum.inr (Sum.inr (Sum.inl ())))))), (Sum.inr (Sum.inr (Sum.inr (Sum.inr (Sum.inl ())))))))) (fun u106 : Unit => (some (y64.2, y64.1.1, y64.1.2.1, y64.1.2.2.1, y64.1.2.2.2.1, y64.1.2.2.2.2.1, y64.1.2.2.2.2.2.1, (Sum.inr (Sum.inr (Sum.inr (Sum.inr (Sum.inr (Sum.inl ())))))), (Sum.inr (Sum.inr (Sum.inr (Sum.inr (Sum.inr ()))))))))))))) y64.1.2.2.2.2.2.2.2.1)) (either (fun u107 : Unit => ((either (fun u108 : Unit => (some (y64.2, y64.1.1, y64.1.2.1, y64.1.2.2.1, y64.1.2.2.2.1, y64.1.2.2.2.2.1, y64.1.2.2.2.2.2.1, (Sum.inr (Sum.inr (Sum.inr (Sum.inr (Sum.inr (Sum.inr (Sum.inl ()))))))), (Sum.inl ())))) (either (fun u109 : Unit => (some (y64.2, y64.1.1, y64.1.2.1, y64.1.2.2.1, y64.1.2.2.2.1, y64.1.2.2.2.2.1, y64.1.2.2.2.2.2.1, (Sum.inr (Sum.inr (Sum.inr (Sum.inr (Sum.inr (Sum.inr (Sum.inl ()))))))), (Sum.inr (Sum.inl ()))))) (either (fun u110 : Unit => (some (y64.2, y64.1.1, y64.1.2.1, y64.1.2.2.1, y64.1.2.2.2.1, y64.1.2.2.2.2.1, y64.1.2.2.2.2.2.1, (Sum.inr (Sum.inr (Sum.inr (Sum.inr (Sum.inr (Sum.inr (Sum.inl ()))))))), (Sum.inr (Sum.inr (Sum.inl ())))))) (either (fun u111 : Unit => (some (y64.2, y64.1.1, y64.1.2.1, y64.1.2.2.1, y64.1.2.2.2.1, y64.1.2.2.2.2.1, y64.1.2.2.2.2.2.1, (Sum.inr (Sum.inr (Sum.inr (Sum.inr (Sum.inr (Sum.inr (Sum.inl ()))))))), (Sum.inr (Sum.inr (Sum.inr (Sum.inl ()))))))) (either (fun u112 : Unit => (some (y64.2, y64.1.1, y64.1.2.1, y64.1.2.2.1, y64.1.2.2.2.1, y64.1.2.2.2.2.1, y64.1.2.2.2.2.2.1, (Sum.inr (Sum.inr (Sum.inr (Sum.inr (Sum.inr (Sum.inr (Sum.inl ()))))))), (Sum.inr (Sum.inr (Sum.inr (Sum.inr (Sum.inl ())))))))) (fun u113 : Unit => (some (y64.2, y64.1.1, y64.1.2.1, y64.1.2.2.1, y64.1.2.2.2.1, y64.1.2.2.2.2.1, y64.1.2.2.2.2.2.1, (Sum.inr (Sum.inr (Sum.inr (Sum.inr (Sum.inr (Sum.inr (Sum.inl ()))))))), (Sum.inr (Sum.inr (Sum.inr (Sum.inr (Sum.inr ()))))))))))))) y64.1.2.2.2.2.2.2.2.1)) (either (fun u114 : Unit => ((either (fun u115 : Unit => (some (y64.2, y64.1.1, y64.1.2.1, y64.1.2.2.1, y64.1.2.2.2.1, y64.1.2.2.2.2.1, y64.1.2.2.2.2.2.1, (Sum.inr (Sum.inr (Sum.inr (Sum.inr (Sum.inr (Sum.inr (Sum.inr (Sum.inl ())))))))), (Sum.inl ())))) (either (fun u116 : Unit => (some (y64.2, y64.1.1, y64.1.2.1, y64.1.2.2.1, y64.1.2.2.2.1, y64.1.2.2.2.2.1, y64.1.2.2.2.2.2.1, (Sum.inr (Sum.inr (Sum.inr (Sum.inr (Sum.inr (Sum.inr (Sum.inr (Sum.inl ())))))))), (Sum.inr (Sum.inl ()))))) (either (fun u117 : Unit => (some (y64.2, y64.1.1, y64.1.2.1, y64.1.2.2.1, y64.1.2.2.2.1, y64.1.2.2.2.2.1, y64.1.2.2.2.2.2.1, (Sum.inr (Sum.inr (Sum.inr (Sum.inr (Sum.inr (Sum.inr (Sum.inr (Sum.inl ())))))))), (Sum.inr (Sum.inr (Sum.inl ())))))) (either (fun u118 : Unit => (some (y64.2, y64.1.1, y64.1.2.1, y64.1.2.2.1, y64.1.2.2.2.1, y64.1.2.2.2.2.1, y64.1.2.2.2.2.2.1, (Sum.inr (Sum.inr (Sum.inr (Sum.inr (Sum.inr (Sum.inr (Sum.inr (Sum.inl ())))))))), (Sum.inr (Sum.inr (Sum.inr (Sum.inl ()))))))) (either (fun u119 : Unit => (some (y64.2, y64.1.1, y64.1.2.1, y64.1.2.2.1, y64.1.2.2.2.1, y64.1.2.2.2.2.1, y64.1.2.2.2.2.2.1, (Sum.inr (Sum.inr (Sum.inr (Sum.inr (Sum.inr (Sum.inr (Sum.inr (Sum.inl ())))))))), (Sum.inr (Sum.inr (Sum.inr (Sum.inr (Sum.inl ())))))))) (fun u120 : Unit => (some (y64.2, y64.1.1, y64.1.2.1, y64.1.2.2.1, y64.1.2.2.2.1, y64.1.2.2.2.2.1, y64.1.2.2.2.2.2.1, (Sum.inr (Sum.inr (Sum.inr (Sum.inr (Sum.inr (Sum.inr (Sum.inr (Sum.inl ())))))))), (Sum.inr (Sum.inr (Sum.inr (Sum.inr (Sum.inr ()))))))))))))) y64.1.2.2.2.2.2.2.2.1)) (fun u121 : Unit => ((either (fun u122 : Unit => (some (y64.2, y64.1.1, y64.1.2.1, y64.1.2.2.1, y64.1.2.2.2.1, y64.1.2.2.2.2.1, y64.1.2.2.2.2.2.1, (Sum.inr (Sum.inr (Sum.inr (Sum.inr (Sum.inr (Sum.inr (Sum.inr (Sum.inr ())))))))), (Sum.inl ())))) (either (fun u123 : Unit => (some (y64.2, y64.1.1, y64.1.2.1, y64.1.2.2.1, y64.1.2.2.2.1, y64.1.2.2.2.2.1, y64.1.2.2.2.2.2.1, (Sum.inr (Sum.inr (Sum.inr (Sum.inr (Sum.inr (Sum.inr (Sum.inr (Sum.inr ())))))))), (Sum.inr (Sum.inl ()))))) (either (fun u124 : Unit => (some (y64.2, y64.1.1, y64.1.2.1, y64.1.2.2.1, y64.1.2.2.2.1, y64.1.2.2.2.2.1, y64.1.2.2.2.2.2.1, (Sum.inr (Sum.inr (Sum.inr (Sum.inr (Sum.inr (Sum.inr (Sum.inr (Sum.inr ())))))))), (Sum.inr (Sum.inr (Sum.inl ())))))) (either (fun u125 : Unit => (some (y64.2, y64.1.1, y64.1.2.1, y64.1.2.2.1, y64.1.2.2.2.1, y64.1.2.2.2.2.1, y64.1.2.2.2.2.2.1, (Sum.inr (Sum.inr (Sum.inr (Sum.inr (Sum.inr (Sum.inr (Sum.inr (Sum.inr ())))))))), (Sum.inr (Sum.inr (Sum.inr (Sum.inl ()))))))) (either (fun u126 : Unit => (some (y64.2, y64.1.1, y64.1.2.1, y64.1.2.2.1, y64.1.2.2.2.1, y64.1.2.2.2.2.1, y64.1.2.2.2.2.2.1, (Sum.inr (Sum.inr (Sum.inr (Sum.inr (Sum.inr (Sum.inr (Sum.inr (Sum.inr ())))))))), (Sum.inr (Sum.inr (Sum.inr (Sum.inr (Sum.inl ())))))))) (fun u127 : Unit => (some (y64.2, y64.1.1, y64.1.2.1, y64.1.2.2.1, y64.1.2.2.2.1, y64.1.2.2.2.2.1, y64.1.2.2.2.2.2.1, (Sum.inr (Sum.inr (Sum.inr (Sum.inr (Sum.inr (Sum.inr (Sum.inr (Sum.inr ())))))))), (Sum.inr (Sum.inr (Sum.inr (Sum.inr (Sum.inr ()))))))))))))) y64.1.2.2.2.2.2.2.2.1)))))))))) y64.1.2.2.2.2.2.2.1)))
abbrev S40_0 : St := ⟨[(1, rl tsI4 in_), (2, rC tsNode n_), (4, rF 0), (6, rF 1), (7, rb y128.1)], [[di 0, di 0, di 0, di 0], [di y128.2.1, db y128.2.2.1, db y128.2.2.2.1, db y128.2.2.2.2.1, db y128.2.2.2.2.2.1, db y128.2.2.2.2.2.2.1, Ps.enc (.alt (.fn 49 .nil) (.alt (.fn 51 .nil) (.alt (.fn 54 .nil) (.alt (.fn 56 .nil) (.alt (.fn 59 .nil) (.alt (.fn 60 .nil) (.alt (.fn 61 .nil) (.alt (.fn 62 .nil) .nilFn)))))))) y128.2.2.2.2.2.2.2.1, Ps.enc (.alt (.fn 50 .nil) (.alt (.fn 53 .nil) (.alt (.fn 55 .nil) (.alt (.fn 57 .nil) (.alt (.fn 63 .nil) .nilFn))))) y128.2.2.2.2.2.2.2.2]], [], 90⟩
theorem graph_Value_r1 : P40 2 C40 ⟨[(0, rA tsNode n_), (1, rl tsI4 in_)], [], [], 90⟩ k = Option.bind (graph_Value_r1_p n_) (fun y128 : (Bool × Int × Bool × Bool × Bool × Bool × Bool × (Unit ⊕ (Unit ⊕ (Unit ⊕ (Unit ⊕ (Unit ⊕ (Unit ⊕ (Unit ⊕ (Unit ⊕ Unit)))))))) × (Unit ⊕ (Unit ⊕ (Unit ⊕ (Unit ⊕ (Unit ⊕ Unit)))))) => k (S40_0 n_ in_ y128)) := .trans (by kernel_rfl) (bind_b fun y64 => ((either_b (fun u65 => ((either_b (fun u66 => some_b) (either_b (fun u67 => some_b) (either_b (fun u68 => some_b) (either_b (fun u69 => some_b) (either_b (fun u70 => some_b) (fun u71 => some_b)))))) y64.1.2.2.2.2.2.2.2.1)) (either_b (fun u72 => ((either_b (fun u73 => some_b) (either_b (fun u74 => some_b) (either_b (fun u75 => some_b) (either_b (fun u76 => some_b) (either_b (fun u77 => some_b) (fun u78 => some_b)))))) y64.1.2.2.2.2.2.2.2.1)) (either_b (fun u79 => ((either_b (fun u80 => some_b) (either_b (fun u81 => some_b) (either_b (fun u82 => some_b) (either_b (fun u83 => some_b) (either_b (fun u84 => some_b) (fun u85 => some_b)))))) y64.1.2.2.2.2.2.2.2.1)) (either_b (fun u86 => ((either_b (fun u87 => some_b) (either_b (fun u88 => some_b) (either_b (fun u89 => some_b) (either_b (fun u90 => some_b) (either_b (fun u91 => some_b) (fun u92 => some_b)))))) y64.1.2.2.2.2.2.2.2.1)) (either_b (fun u93 => ((either_b (fun u94 => some_b) (either_b (fun u95 => some_b) (either_b (fun u96 => some_b) (either_b (fun u97 => some_b) (either_b (fun u98 => some_b) (fun u99 => some_b)))))) y64.1.2.2.2.2.2.2.2.1)) (either_b (fun u100 => ((either_b (fun u101 => some_b) (either_b (fun u102 => some_b) (either_b (fun u103 => some_b) (either_b (fun u104 => some_b) (either_b (fun u105 => some_b) (fun u106 => some_b)))))) y64.1.2.2.2.2.2.2.2.1)) (either_b (fun u107 => ((either_b (fun u108 => some_b) (either_b (fun u109 => some_b) (either_b (fun u110 => some_b) (either_b (fun u111 => some_b) (either_b (fun u112 => some_b) (fun u113 => some_b)))))) y64.1.2.2.2.2.2.2.2.1)) (either_b (fun u114 => ((either_b (fun u115 => some_b) (either_b (fun u116 => some_b) (either_b (fun u117 => some_b) (either_b (fun u118 => some_b) (either_b (fun u119 => some_b) (fun u120 => some_b)))))) y64.1.2.2.2.2.2.2.2.1)) (fun u121 => ((either_b (fun u122 => some_b) (either_b (fun u123 => some_b) (either_b (fun u124 => some_b) (either_b (fun u125 => some_b) (either_b (fun u126 => some_b) (fun u127 => some_b)))))) y64.1.2.2.2.2.2.2.2.1)))))))))) y64.1.2.2.2.2.2.2.1))
def graph_Value_r2_q (K : Bool → β) : β := (bif (!y128.1) then (K true) else (K (!(graph_kind_may y128.2.1 y128.2.2.1 y128.2.2.2.1 y128.2.2.2.2.1 y128.2.2.2.2.2.1 y128.2.2.2.2.2.2.1 y128.2.2.2.2.2.2.2.1 y128.2.2.2.2.2.2.2.2 n_ in_))))
def graph_Value_r2_p : Bool := graph_Value_r2_q n_ in_ y128 (fun y => y)
theorem graph_Value_r2_n (K : Bool → β) : graph_Value_r2_q n_ in_ y128 K = K (graph_Value_r2_p n_ in_ y128) := (bif_k K rfl rfl)
theorem graph_Value_r2 : P40 1 C40.r.r.l (S40_0 n_ in_ y128) k = k ⟨[(1, rl tsI4 in_), (2, rC tsNode n_), (4, rF 0), (6, rF 1), (25, rb (graph_Value_r2_p n_ in_ y128))], [[di 0, di 0, di 0, di 0], [di y128.2.1, db y128.2.2.1, db y128.2.2.2.1, db y128.2.2.2.2.1, db y128.2.2.2.2.2.1, db y128.2.2.2.2.2.2.1, Ps.enc (.alt (.fn 49 .nil) (.alt (.fn 51 .nil) (.alt (.fn 54 .nil) (.alt (.fn 56 .nil) (.alt (.fn 59 .nil) (.alt (.fn 60 .nil) (.alt (.fn 61 .nil) (.alt (.fn 62 .nil) .nilFn)))))))) y128.2.2.2.2.2.2.2.1, Ps.enc (.alt (.fn 50 .nil) (.alt (.fn 53 .nil) (.alt (.fn 55 .nil) (.alt (.fn 57 .nil) (.alt (.fn 63 .nil) .nilFn))))) y128.2.2.2.2.2.2.2.2]], [], 90⟩ := Eq.trans (by (rcases y128 with ⟨_, _, _, _, _, _, _, (_ | _ | _ | _ | _ | _ | _ | _ | _), (_ | _ | _ | _ | _ | _)⟩ <;> kernel_rfl)) (graph_Value_r2_n n_ in_ y128 (fun y143 : Bool => k ⟨[(1, rl tsI4 in_), (2, rC tsNode n_), (4, rF 0), (6, rF 1), (25, rb y143)], [[di 0, di 0, di 0, di 0], [di y128.2.1, db y128.2.2.1, db y128.2.2.2.1, db y128.2.2.2.2.1, db y128.2.2.2.2.2.1, db y128.2.2.2.2.2.2.1, Ps.enc (.alt (.fn 49 .nil) (.alt (.fn 51 .nil) (.alt (.fn 54 .nil) (.alt (.fn 56 .nil) (.alt (.fn 59 .nil) (.alt (.fn 60 .nil) (.alt (.fn 61 .nil) (.alt (.fn 62 .nil) .nilFn)))))))) y128.2.2.2.2.2.2.2.1, Ps.enc (.alt (.fn 50 .nil) (.alt (.fn 53 .nil) (.alt (.fn 55 .nil) (.alt (.fn 57 .nil) (.alt (.fn 63 .nil) .nilFn))))) y128.2.2.2.2.2.2.2.2]], [], 90⟩))
abbrev S40_1 : St := ⟨[(1, rl tsI4 in_), (2, rC tsNode n_), (4, rF 0), (6, rF 1)], [[di 0, di 0, di 0, di 0], [di y128.2.1, db y128.2.2.1, db y128.2.2.2.1, db y128.2.2.2.2.1, db y128.2.2.2.2.2.1, db y128.2.2.2.2.2.2.1, Ps.enc (.alt (.fn 49 .nil) (.alt (.fn 51 .nil) (.alt (.fn 54 .nil) (.alt (.fn 56 .nil) (.alt (.fn 59 .nil) (.alt (.fn 60 .nil) (.alt (.fn 61 .nil) (.alt (.fn 62 .nil) .nilFn)))))))) y128.2.2.2.2.2.2.2.1, Ps.enc (.alt (.fn 50 .nil) (.alt (.fn 53 .nil) (.alt (.fn 55 .nil) (.alt (.fn 57 .nil) (.alt (.fn 63 .nil) .nilFn))))) y128.2.2.2.2.2.2.2.2]], [], 90⟩
abbrev S40_2 : St := ⟨[(4, rF 0), (5, ri 11)], [[di 0, di 0, di 0, di 0], []], [], 90⟩
theorem graph_Value_fz : P40 1 C40.r.r.l.r.t (S40_1 n_ in_ y128) k = k S40_2 := by (rcases y128 with ⟨_, _, _, _, _, _, _, (_ | _ | _ | _ | _ | _ | _ | _ | _), (_ | _ | _ | _ | _ | _)⟩ <;> kernel_rfl)
def graph_Value_r4_p : Option Bool := (bif y128.2.2.2.2.2.2.1 then (Option.bind (slices_ContainsFuncapi_Value_api_Value in_ n_) (fun y163 : Bool => (some y163))) else (some false))
theorem graph_Value_r4 : P40 1 C40.r.r.r.l (S40_1 n_ in_ y128) k = Option.bind (graph_Value_r4_p n_ in_ y128) (fun y164 : Bool => k ⟨[(1, rl tsI4 in_), (2, rC tsNode n_), (4, rF 0), (6, rF 1), (33, rb y164)], [[di 0, di 0, di 0, di 0], [di y128.2.1, db y128.2.2.1, db y128.2.2.2.1, db y128.2.2.2.2.1, db y128.2.2.2.2.2.1, db y128.2.2.2.2.2.2.1, Ps.enc (.alt (.fn 49 .nil) (.alt (.fn 51 .nil) (.alt (.fn 54 .nil) (.alt (.fn 56 .nil) (.alt (.fn 59 .nil) (.alt (.fn 60 .nil) (.alt (.fn 61 .nil) (.alt (.fn 62 .nil) .nilFn)))))))) y128.2.2.2.2.2.2.2.1, Ps.enc (.alt (.fn 50 .nil) (.alt (.fn 53 .nil) (.alt (.fn 55 .nil) (.alt (.fn 57 .nil) (.alt (.fn 63 .nil) .nilFn))))) y128.2.2.2.2.2.2.2.2]], [], 90⟩) := .trans (by (rcases y128 with ⟨_, _, _, _, _, _, _, (_ | _ | _ | _ | _ | _ | _ | _ | _), (_ | _ | _ | _ | _ | _)⟩ <;> kernel_rfl)) (bif_b (bind_b fun y163 => some_b) some_b)
theorem graph_Value_fzx1 : P40 1 C40.r.r.r.l.r.t (S40_1 n_ in_ y128) k = k S40_2 := by (rcases y128 with ⟨_, _, _, _, _, _, _, (_ | _ | _ | _ | _ | _ | _ | _ | _), (_ | _ | _ | _ | _ | _)⟩ <;> kernel_rfl)
theorem graph_Value_r6 : P40 1 C40.r.r.r.r.l (S40_1 n_ in_ y128) k = Option.bind (slices_ContainsFuncapi_Value_api_Value_s2 in_) fun y221 : Bool => k ⟨[(1, rl tsI4 in_), (2, rC tsNode n_), (4, rF 0), (6, rF 1), (36, rb y221)], [[di 0, di 0, di 0, di 0], [di y128.2.1, db y128.2.2.1, db y128.2.2.2.1, db y128.2.2.2.2.1, db y128.2.2.2.2.2.1, db y128.2.2.2.2.2.2.1, Ps.enc (.alt (.fn 49 .nil) (.alt (.fn 51 .nil) (.alt (.fn 54 .nil) (.alt (.fn 56 .nil) (.alt (.fn 59 .nil) (.alt (.fn 60 .nil) (.alt (.fn 61 .nil) (.alt (.fn 62 .nil) .nilFn)))))))) y128.2.2.2.2.2.2.2.1, Ps.enc (.alt (.fn 50 .nil) (.alt (.fn 53 .nil) (.alt (.fn 55 .nil) (.alt (.fn 57 .nil) (.alt (.fn 63 .nil) .nilFn))))) y128.2.2.2.2.2.2.2.2]], [], 90⟩ := by (rcases y128 with ⟨_, _, _, _, _, _, _, (_ | _ | _ | _ | _ | _ | _ | _ | _), (_ | _ | _ | _ | _ | _)⟩ <;> kernel_rfl)
theorem graph_Value_fzx2 : P40 1 C40.r.r.r.r.l.r.t (S40_1 n_ in_ y128) k = k ⟨[(4, rF 0), (5, ri 10)], [[di 0, di 0, di 0, di 0], []], [], 90⟩ := by (rcases y128 with ⟨_, _, _, _, _, _, _, (_ | _ | _ | _ | _ | _ | _ | _ | _), (_ | _ | _ | _ | _ | _)⟩ <;> kernel_rfl)
def graph_Value_r8_p : Option (Int × Int × Int) := (bif (decide ((0 : Int) < (in_.length : Int))) then (bif (decide ((0 : Int) ≤ (IntKind.wrap .i64 ((in_.length : Int) - 1)))) then (bif (decide ((IntKind.wrap .i64 ((in_.length : Int) - 1)) < (in_.length : Int))) then ((either (fun u222 : Unit => (some (graph_first n_ ((gt in_ (0 : Int) dI4).1, (gt in_ (0 : Int) dI4).2.1, (gt in_ (0 : Int) dI4).2.2.1) ((gt in_ (IntKind.wrap .i64 ((in_.length : Int) - 1)) dI4).1, (gt in_ (IntKind.wrap .i64 ((in_.length : Int) - 1)) dI4).2.1, (gt in_ (IntKind.wrap .i64 ((in_.length : Int) - 1)) dI4).2.2.1)))) (either (fun u223 : Unit => (Option.bind (graph_of_1 n_ ((gt in_ (0 : Int) dI4).1, (gt in_ (0 : Int) dI4).2.1, (gt in_ (0 : Int) dI4).2.2.1) ((gt in_ (IntKind.wrap .i64 ((in_.length : Int) - 1)) dI4).1, (gt in_ (IntKind.wrap .i64 ((in_.length : Int) - 1)) dI4).2.1, (gt in_ (IntKind.wrap .i64 ((in_.length : Int) - 1)) dI4).2.2.1)) (fun y237 : I3 => (some y237)))) (either (fun u238 : Unit => (Option.bind (graph_pooled n_ ((gt in_ (0 : Int) dI4).1, (gt in_ (0 : Int) dI4).2.1, (gt in_ (0 : Int) dI4).2.2.1) ((gt in_ (IntKind.wrap .i64 ((in_.length : Int) - 1)) dI4).1, (gt in_ (IntKind.wrap .i64 ((in_.length : Int) - 1)) dI4).2.1, (gt in_ (IntKind.wrap .i64 ((in_.length : Int) - 1)) dI4).2.2.1)) (fun y240 : I3 => (some y240)))) (either (fun u241 : Unit => (some (graph_of_4 n_ ((gt in_ (0 : Int) dI4).1, (gt in_ (0 : Int) dI4).2.1, (gt in_ (0 : Int) dI4).2.2.1) ((gt in_ (IntKind.wrap .i64 ((in_.length : Int) - 1)) dI4).1, (gt in_ (IntKind.wrap .i64 ((in_.length : Int) - 1)) dI4).2.1, (gt in_ (IntKind.wrap .i64 ((in_.length : Int) - 1)) dI4).2.2.1)))) (either (fun u242 : Unit => (some (graph_same n_ ((gt in_ (0 : Int) dI4).1, (gt in_ (0 : Int) dI4).2.1, (gt in_ (0 : Int) dI4).2.2.1) ((gt in_ (IntKind.wrap .i64 ((in_.length : Int) - 1)) dI4).1, (gt in_ (IntKind.wrap .i64 ((in_.length : Int) - 1)) dI4).2.1, (gt in_ (IntKind.wrap .i64 ((in_.length : Int) - 1)) dI4).2.2.1)))) (either (fun u243 : Unit => (some (graph_of_6 n_ ((gt in_ (0 : Int) dI4).1, (gt in_ (0 : Int) dI4).2.1, (gt in_ (0 : Int) dI4).2.2.1) ((gt in_ (IntKind.wrap .i64 ((in_.length : Int) - 1)) dI4).1, (gt in_ (IntKind.wrap .i64 ((in_.length : Int) - 1)) dI4).2.1, (gt in_ (IntKind.wrap .i64 ((in_.length : Int) - 1)) dI4).2.2.1)))) (either (fun u244 : Unit => (some (graph_beside n_ ((gt in_ (0 : Int) dI4).1, (gt in_ (0 : Int) dI4).2.1, (gt in_ (0 : Int) dI4).2.2.1) ((gt in_ (IntKind.wrap .i64 ((in_.length : Int) - 1)) dI4).1, (gt in_ (IntKind.wrap .i64 ((in_.length : Int) - 1)) dI4).2.1, (gt in_ (IntKind.wrap .i64 ((in_.length : Int) - 1)) dI4).2.2.1)))) (either (fun u247 : Unit => (Option.bind (graph_anew n_ ((gt in_ (0 : Int) dI4).1, (gt in_ (0 : Int) dI4).2.1, (gt in_ (0 : Int) dI4).2.2.1) ((gt in_ (IntKind.wrap .i64 ((in_.length : Int) - 1)) dI4).1, (gt in_ (IntKind.wrap .i64 ((in_.length : Int) - 1)) dI4).2.1, (gt in_ (IntKind.wrap .i64 ((in_.length : Int) - 1)) dI4).2.2.1)) (fun y257 : I3 => (some y257)))) (fun u258 : Unit => none))))))))) y128.2.2.2.2.2.2.2.1) else none) else none) else none)
abbrev S40_3 : St := ⟨[(1, rl tsI4 in_), (2, rC tsNode n_), (4, rF 0), (6, rF 1), (8, rF 2)], [[di 0, di 0, di 0, di 0], [di y128.2.1, db y128.2.2.1, db y128.2.2.2.1, db y128.2.2.2.2.1, db y128.2.2.2.2.2.1, db y128.2.2.2.2.2.2.1, Ps.enc (.alt (.fn 49 .nil) (.alt (.fn 51 .nil) (.alt (.fn 54 .nil) (.alt (.fn 56 .nil) (.alt (.fn 59 .nil) (.alt (.fn 60 .nil) (.alt (.fn 61 .nil) (.alt (.fn 62 .nil) .nilFn)))))))) y128.2.2.2.2.2.2.2.1, Ps.enc (.alt (.fn 50 .nil) (.alt (.fn 53 .nil) (.alt (.fn 55 .nil) (.alt (.fn 57 .nil) (.alt (.fn 63 .nil) .nilFn))))) y128.2.2.2.2.2.2.2.2], (tsI3.leaves y259)], [], 90⟩
theorem graph_Value_r8 : P40 1 C40.r.r.r.r.r (S40_1 n_ in_ y128) k = Option.bind (graph_Value_r8_p n_ in_ y128) (fun y259 : (Int × Int × Int) => k (S40_3 n_ in_ y128 y259)) := .trans (by (rcases y128 with ⟨_, _, _, _, _, _, _, (_ | _ | _ | _ | _ | _ | _ | _ | _), (_ | _ | _ | _ | _ | _)⟩ <;> kernel_rfl)) (bif_b (bif_b (bif_b ((either_b (fun u222 => some_b) (either_b (fun u223 => (bind_b fun y237 => some_b)) (either_b (fun u238 => (bind_b fun y240 => some_b)) (either_b (fun u241 => some_b) (either_b (fun u242 => some_b) (either_b (fun u243 => some_b) (either_b (fun u244 => some_b) (either_b (fun u247 => (bind_b fun y257 => some_b)) (fun u258 => none_b))))))))) y128.2.2.2.2.2.2.2.1) none_b) none_b) none_b)
theorem graph_Value_r9 : P40 1 C40.r.r.r.r.r.r.l (S40_3 n_ in_ y128 y259) k = Option.bind (shape_May y259) fun y261 : Int => k ⟨[(1, rl tsI4 in_), (2, rC tsNode n_), (4, rF 0), (6, rF 1), (8, rF 2), (55, rb (y261 != 0))], [[di 0, di 0, di 0, di 0], [di y128.2.1, db y128.2.2.1, db y128.2.2.2.1, db y128.2.2.2.2.1, db y128.2.2.2.2.2.1, db y128.2.2.2.2.2.2.1, Ps.enc (.alt (.fn 49 .nil) (.alt (.fn 51 .nil) (.alt (.fn 54 .nil) (.alt (.fn 56 .nil) (.alt (.fn 59 .nil) (.alt (.fn 60 .nil) (.alt (.fn 61 .nil) (.alt (.fn 62 .nil) .nilFn)))))))) y128.2.2.2.2.2.2.2.1, Ps.enc (.alt (.fn 50 .nil) (.alt (.fn 53 .nil) (.alt (.fn 55 .nil) (.alt (.fn 57 .nil) (.alt (.fn 63 .nil) .nilFn))))) y128.2.2.2.2.2.2.2.2], (tsI3.leaves y259)], [], 90⟩ := by (rcases y128 with ⟨_, _, _, _, _, _, _, (_ | _ | _ | _ | _ | _ | _ | _ | _), (_ | _ | _ | _ | _ | _)⟩ <;> kernel_rfl)
theorem graph_Value_fzx3 : P40 1 C40.r.r.r.r.r.r.l.r.t (S40_3 n_ in_ y128 y259) k = k ⟨[(4, rF 0), (5, ri 10)], [[di 0, di 0, di 0, di 0], [], []], [], 90⟩ := by (rcases y128 with ⟨_, _, _, _, _, _, _, (_ | _ | _ | _ | _ | _ | _ | _ | _), (_ | _ | _ | _ | _ | _)⟩ <;> kernel_rfl)
def graph_Value_r11_p : Option (Int × Int) := (bif (decide ((0 : Int) < (in_.length : Int))) then ((either (fun u262 : Unit => (some (graph_bare n_ ((gt in_ (0 : Int) dI4).1, (gt in_ (0 : Int) dI4).2.1, (gt in_ (0 : Int) dI4).2.2.1)))) (either (fun u263 : Unit => (some (graph_of_2 n_ ((gt in_ (0 : Int) dI4).1, (gt in_ (0 : Int) dI4).2.1, (gt in_ (0 : Int) dI4).2.2.1)))) (either (fun u265 : Unit => (some (graph_of_3 n_ ((gt in_ (0 : Int) dI4).1, (gt in_ (0 : Int) dI4).2.1, (gt in_ (0 : Int) dI4).2.2.1)))) (either (fun u266 : Unit => (Option.bind (graph_of_5 n_ ((gt in_ (0 : Int) dI4).1, (gt in_ (0 : Int) dI4).2.1, (gt in_ (0 : Int) dI4).2.2.1)) (fun y268 : (Int × Int) => (some y268)))) (either (fun u269 : Unit => (some (graph_of_7 n_ ((gt in_ (0 : Int) dI4).1, (gt in_ (0 : Int) dI4).2.1, (gt in_ (0 : Int) dI4).2.2.1)))) (fun u270 : Unit => none)))))) y128.2.2.2.2.2.2.2.2) else none)
abbrev S40_4 : St := ⟨[(2, rC tsNode n_), (4, rF 0), (8, rF 2), (9, ri y271.1), (10, ri y271.2)], [[di 0, di 0, di 0, di 0], [], (tsI3.leaves y259)], [], 90⟩
theorem graph_Value_r11 : P40 1 C40.r.r.r.r.r.r.r (S40_3 n_ in_ y128 y259) k = Option.bind (graph_Value_r11_p n_ in_ y128) (fun y271 : (Int × Int) => k (S40_4 n_ y259 y271)) := .trans (by (rcases y128 with ⟨_, _, _, _, _, _, _, (_ | _ | _ | _ | _ | _ | _ | _ | _), (_ | _ | _ | _ | _ | _)⟩ <;> kernel_rfl)) (bif_b ((either_b (fun u262 => some_b) (either_b (fun u263 => some_b) (either_b (fun u265 => some_b) (either_b (fun u266 => (bind_b fun y268 => some_b)) (either_b (fun u269 => some_b) (fun u270 => none_b)))))) y128.2.2.2.2.2.2.2.2) none_b)
def graph_Value_r12_p : Option Bool := (bif ((n_.2.2.2.2.2.2.2.2.2.2.2.2.1.length : Int) != y271.1) then (some true) else (bif ((n_.2.2.2.2.2.2.2.2.2.2.2.2.2.length : Int) != y271.2) then (some true) else (Option.bind (slices_ContainsFuncint32_int32 n_.2.2.2.2.2.2.2.2.2.2.2.2.2) (fun y291 : Bool => (some y291)))))
theorem graph_Value_r12 : P40 1 C40.r.r.r.r.r.r.r.r.l (S40_4 n_ y259 y271) k = Option.bind (graph_Value_r12_p n_ y271) (fun y292 : Bool => k ⟨[(2, rC tsNode n_), (4, rF 0), (8, rF 2), (84, rb y292)], [[di 0, di 0, di 0, di 0], [], (tsI3.leaves y259)], [], 90⟩) := .trans (by kernel_rfl) (bif_b some_b (bif_b some_b (bind_b fun y291 => some_b)))
abbrev S40_5 : St := ⟨[(2, rC tsNode n_), (4, rF 0), (8, rF 2)], [[di 0, di 0, di 0, di 0], [], (tsI3.leaves y259)], [], 90⟩
theorem graph_Value_fzx4 : P40 1 C40.r.r.r.r.r.r.r.r.l.r.t (S40_5 n_ y259) k = k ⟨[(4, rF 0), (5, ri 12)], [[di 0, di 0, di 0, di 0], [], []], [], 90⟩ := by kernel_rfl
theorem graph_Value_fzx5 : P40 1 C40.r.r.r.r.r.r.r.r.r (S40_5 n_ y259) k = k ⟨[(4, rF 0), (5, ri 0)], [[di y259.1, di y259.2.1, di y259.2.2, di n_.2.2.2.2.2.2.2.2.1], [], []], [], 90⟩ := by kernel_rfl
/-- quilt/graph.Value -/
def graph_Value : Option (I4 × Int) := (Option.bind (graph_Value_r1_p n_) (fun y128 : (Bool × Int × Bool × Bool × Bool × Bool × Bool × (Unit ⊕ (Unit ⊕ (Unit ⊕ (Unit ⊕ (Unit ⊕ (Unit ⊕ (Unit ⊕ (Unit ⊕ Unit)))))))) × (Unit ⊕ (Unit ⊕ (Unit ⊕ (Unit ⊕ (Unit ⊕ Unit)))))) => (bif (graph_Value_r2_p n_ in_ y128) then (some (((0 : Int), (0 : Int), (0 : Int), (0 : Int)), (11 : Int))) else (Option.bind (graph_Value_r4_p n_ in_ y128) (fun y164 : Bool => (bif y164 then (some (((0 : Int), (0 : Int), (0 : Int), (0 : Int)), (11 : Int))) else (Option.bind (slices_ContainsFuncapi_Value_api_Value_s2 in_) (fun y221 : Bool => (bif y221 then (some (((0 : Int), (0 : Int), (0 : Int), (0 : Int)), (10 : Int))) else (Option.bind (graph_Value_r8_p n_ in_ y128) (fun y259 : (Int × Int × Int) => (Option.bind (shape_May y259) (fun y261 : Int => (bif (y261 != 0) then (some (((0 : Int), (0 : Int), (0 : Int), (0 : Int)), (10 : Int))) else (Option.bind (graph_Value_r11_p n_ in_ y128) (fun y271 : (Int × Int) => (Option.bind (graph_Value_r12_p n_ y271) (fun y292 : Bool => (bif y292 then (some (((0 : Int), (0 : Int), (0 : Int), (0 : Int)), (12 : Int))) else (some ((y259.1, y259.2.1, y259.2.2, n_.2.2.2.2.2.2.2.2.1), (0 : Int))))))))))))))))))))))
theorem graph_Value_is : stepS E cp40 noE 21 [rA tsNode n_, rl tsI4 in_] = Option.bind (graph_Value n_ in_) (fun y : (I4 × Int) => some (.tup [rA tsI4 y.1, ri y.2] : R)) := by
  refine .trans ?_ (bind_b fun y128 => (bif_b some_b (bind_b fun y164 => (bif_b some_b (bind_b fun y221 => (bif_b some_b (bind_b fun y259 => (bind_b fun y261 => (bif_b some_b (bind_b fun y271 => (bind_b fun y292 => (bif_b some_b some_b))))))))))))
  refine (stepG_is (nt := 90) (regs := [(0, rA tsNode n_), (1, rl tsI4 in_)])).trans ?_
  refine (pre2 (graph_Value_r1 n_ in_ _)).trans (bind_g fun y128 => ?_)
  refine .trans seq_push ?_
  refine (pre1 (graph_Value_r2 n_ in_ y128 _)).trans ?_
  refine (cond_e (b := (graph_Value_r2_p n_ in_ y128)) (st' := (S40_1 n_ in_ y128)) (hs := by (rcases y128 with ⟨_, _, _, _, _, _, _, (_ | _ | _ | _ | _ | _ | _ | _ | _), (_ | _ | _ | _ | _ | _)⟩ <;> kernel_rfl))).trans (bif_g ?_ ?_)
  · refine (pre1 (graph_Value_fz n_ in_ y128 _)).trans ?_
    refine (ret_eq).trans ?_
    refine seqC_ret.trans ?_
    (rcases y128 with ⟨_, _, _, _, _, _, _, (_ | _ | _ | _ | _ | _ | _ | _ | _), (_ | _ | _ | _ | _ | _)⟩ <;> kernel_rfl)
  · refine (skip_eq).trans ?_
    refine (seqC_normal (st' := (S40_1 n_ in_ y128)) (hs := by (rcases y128 with ⟨_, _, _, _, _, _, _, (_ | _ | _ | _ | _ | _ | _ | _ | _), (_ | _ | _ | _ | _ | _)⟩ <;> kernel_rfl))).trans ?_
    refine .trans seq_push ?_
    refine (pre1 (graph_Value_r4 n_ in_ y128 _)).trans (bind_g fun y164 => ?_)
    refine (cond_e (b := y164) (st' := (S40_1 n_ in_ y128)) (hs := by (rcases y128 with ⟨_, _, _, _, _, _, _, (_ | _ | _ | _ | _ | _ | _ | _ | _), (_ | _ | _ | _ | _ | _)⟩ <;> kernel_rfl))).trans (bif_g ?_ ?_)
    · refine (pre1 (graph_Value_fzx1 n_ in_ y128 _)).trans ?_
      refine (ret_eq).trans ?_
      refine seqC_ret.trans ?_
      (rcases y128 with ⟨_, _, _, _, _, _, _, (_ | _ | _ | _ | _ | _ | _ | _ | _), (_ | _ | _ | _ | _ | _)⟩ <;> kernel_rfl)
    · refine (skip_eq).trans ?_
      refine (seqC_normal (st' := (S40_1 n_ in_ y128)) (hs := by (rcases y128 with ⟨_, _, _, _, _, _, _, (_ | _ | _ | _ | _ | _ | _ | _ | _), (_ | _ | _ | _ | _ | _)⟩ <;> kernel_rfl))).trans ?_
      refine .trans seq_push ?_
      refine (pre1 (graph_Value_r6 n_ in_ y128 _)).trans (bind_g fun y221 => ?_)
      refine (cond_e (b := y221) (st' := (S40_1 n_ in_ y128)) (hs := by (rcases y128 with ⟨_, _, _, _, _, _, _, (_ | _ | _ | _ | _ | _ | _ | _ | _), (_ | _ | _ | _ | _ | _)⟩ <;> kernel_rfl))).trans (bif_g ?_ ?_)
      · refine (pre1 (graph_Value_fzx2 n_ in_ y128 _)).trans ?_
        refine (ret_eq).trans ?_
        refine seqC_ret.trans ?_
        (rcases y128 with ⟨_, _, _, _, _, _, _, (_ | _ | _ | _ | _ | _ | _ | _ | _), (_ | _ | _ | _ | _ | _)⟩ <;> kernel_rfl)
      · refine (skip_eq).trans ?_
        refine (seqC_normal (st' := (S40_1 n_ in_ y128)) (hs := by (rcases y128 with ⟨_, _, _, _, _, _, _, (_ | _ | _ | _ | _ | _ | _ | _ | _), (_ | _ | _ | _ | _ | _)⟩ <;> kernel_rfl))).trans ?_
        refine (pre1 (graph_Value_r8 n_ in_ y128 _)).trans (bind_g fun y259 => ?_)
        refine .trans seq_push ?_
        refine (pre1 (graph_Value_r9 n_ in_ y128 y259 _)).trans (bind_g fun y261 => ?_)
        refine (cond_e (b := (y261 != 0)) (st' := (S40_3 n_ in_ y128 y259)) (hs := by (rcases y128 with ⟨_, _, _, _, _, _, _, (_ | _ | _ | _ | _ | _ | _ | _ | _), (_ | _ | _ | _ | _ | _)⟩ <;> kernel_rfl))).trans (bif_g ?_ ?_)
        · refine (pre1 (graph_Value_fzx3 n_ in_ y128 y259 _)).trans ?_
          refine (ret_eq).trans ?_
          refine seqC_ret.trans ?_
          (rcases y128 with ⟨_, _, _, _, _, _, _, (_ | _ | _ | _ | _ | _ | _ | _ | _), (_ | _ | _ | _ | _ | _)⟩ <;> kernel_rfl)
        · refine (skip_eq).trans ?_
          refine (seqC_normal (st' := (S40_3 n_ in_ y128 y259)) (hs := by (rcases y128 with ⟨_, _, _, _, _, _, _, (_ | _ | _ | _ | _ | _ | _ | _ | _), (_ | _ | _ | _ | _ | _)⟩ <;> kernel_rfl))).trans ?_
          refine (pre1 (graph_Value_r11 n_ in_ y128 y259 _)).trans (bind_g fun y271 => ?_)
          refine .trans seq_push ?_
          refine (pre1 (graph_Value_r12 n_ y259 y271 _)).trans (bind_g fun y292 => ?_)
          refine (cond_e (b := y292) (st' := (S40_5 n_ y259)) (hs := by (rcases y128 with ⟨_, _, _, _, _, _, _, (_ | _ | _ | _ | _ | _ | _ | _ | _), (_ | _ | _ | _ | _ | _)⟩ <;> kernel_rfl))).trans (bif_g ?_ ?_)
          · refine (pre1 (graph_Value_fzx4 n_ y259 _)).trans ?_
            refine (ret_eq).trans ?_
            refine seqC_ret.trans ?_
            (rcases y128 with ⟨_, _, _, _, _, _, _, (_ | _ | _ | _ | _ | _ | _ | _ | _), (_ | _ | _ | _ | _ | _)⟩ <;> kernel_rfl)
          · refine (skip_eq).trans ?_
            refine (seqC_normal (st' := (S40_5 n_ y259)) (hs := by (rcases y128 with ⟨_, _, _, _, _, _, _, (_ | _ | _ | _ | _ | _ | _ | _ | _), (_ | _ | _ | _ | _ | _)⟩ <;> kernel_rfl))).trans ?_
            refine (pre1 (graph_Value_fzx5 n_ y259 _)).trans ?_
            refine (ret_eq).trans ?_
            (rcases y128 with ⟨_, _, _, _, _, _, _, (_ | _ | _ | _ | _ | _ | _ | _ | _), (_ | _ | _ | _ | _ | _)⟩ <;> kernel_rfl)
noncomputable def cp41 : CallP := withC cp40 21 [(.agg tsNode), (pL tsI4)] (.tup [(.agg tsI4), pI]) (fun y : (I4 × Int) => (y.1, y.2, ())) (fun x => graph_Value x.1 x.2.1)
theorem cp41_ok : PureOK E cp41 := conS eok cp40_ok noE_ok fun x => Eq.mp (by kernel_rfl) (graph_Value_is x.1 x.2.1)
end
section
variable {α β : Type} (first : Int) (rows : Int) (k_ : Int) (stride : Int) (pad : Int) (size : Int) (y299 : Int) (s318 : (Int × Int × Int)) (y323 : (Int × Int × Int)) (k : St → Option α) (q : Kont α)
noncomputable abbrev C41 := codeOf E.P 31
noncomputable abbrev P41 := @preK α E 31 cp41 noE
noncomputable abbrev R41 := @runCode α E 31 cp41 noE
noncomputable abbrev Q41 := @seqC α E 31 cp41 noE
abbrev S41_0 : St := ⟨[(0, ri first), (1, ri rows), (2, ri k_), (3, ri stride), (4, ri pad), (5, ri size)], [], [], 78⟩
theorem shape_Reach_r1 : P41 2 C41 (S41_0 first rows k_ stride pad size) k = Option.bind (shape_Out size k_ stride pad) fun y299 : Int => k ⟨[(0, ri first), (1, ri rows), (2, ri k_), (3, ri stride), (4, ri pad), (5, ri size), (14, ri y299)], [], [], 78⟩ := by kernel_rfl
def shape_Reach_r2_q (K : Bool → β) : β := (bif (decide (first < 0)) then (K true) else (bif (decide (rows < 1)) then (K true) else (bif (decide (first > y299)) then (K true) else (K (decide (rows > (IntKind.wrap .i64 (y299 - first))))))))
def shape_Reach_r2_p : Bool := shape_Reach_r2_q first rows y299 (fun y => y)
theorem shape_Reach_r2_n (K : Bool → β) : shape_Reach_r2_q first rows y299 K = K (shape_Reach_r2_p first rows y299) := (bif_k K rfl (bif_k K rfl (bif_k K rfl rfl)))
theorem shape_Reach_r2 : P41 1 C41.r.r.l ⟨[(0, ri first), (1, ri rows), (2, ri k_), (3, ri stride), (4, ri pad), (5, ri size), (14, ri y299)], [], [], 78⟩ k = k ⟨[(0, ri first), (1, ri rows), (2, ri k_), (3, ri stride), (4, ri pad), (5, ri size), (40, rb (shape_Reach_r2_p first rows y299))], [], [], 78⟩ := Eq.trans (by kernel_rfl) (shape_Reach_r2_n first rows y299 (fun y301 : Bool => k ⟨[(0, ri first), (1, ri rows), (2, ri k_), (3, ri stride), (4, ri pad), (5, ri size), (40, rb y301)], [], [], 78⟩))
abbrev S41_1 : St := ⟨[(12, ri 0), (13, ri 0)], [], [], 78⟩
theorem shape_Reach_fz : P41 1 C41.r.r.l.r.t (S41_0 first rows k_ stride pad size) k = k S41_1 := by kernel_rfl
abbrev S41_2 : St := ⟨[(0, ri first), (1, ri rows), (2, ri k_), (3, ri stride), (4, ri pad), (5, ri size), (12, ri size), (13, ri 0)], [], [], 78⟩
theorem shape_Reach_f5 : P41 1 C41.r.r.r (S41_0 first rows k_ stride pad size) k = k (S41_2 first rows k_ stride pad size) := by kernel_rfl
abbrev S41_3 : St := ⟨[(0, ri first), (1, ri rows), (2, ri k_), (3, ri stride), (4, ri pad), (5, ri size), (12, ri size), (13, ri 0), (15, ri first)], [], [], 78⟩
theorem shape_Reach_f6 : P41 1 C41.r.r.r.r.l (S41_2 first rows k_ stride pad size) k = k (S41_3 first rows k_ stride pad size) := by kernel_rfl
abbrev S41_4 : St := ⟨[(0, ri first), (1, ri rows), (2, ri k_), (3, ri stride), (4, ri pad), (5, ri size), (12, ri s318.1), (13, ri s318.2.1), (15, ri s318.2.2)], [], [], 78⟩
theorem shape_Reach_fzx1 : P41 1 C41.r.r.r.r.l.r.b.b.l (S41_4 first rows k_ stride pad size s318) k = k ⟨[(0, ri first), (1, ri rows), (2, ri k_), (3, ri stride), (4, ri pad), (5, ri size), (12, ri s318.1), (13, ri s318.2.1), (15, ri s318.2.2), (47, rb (decide (s318.2.2 < (IntKind.wrap .i64 (first + rows)))))], [], [], 78⟩ := by kernel_rfl
def shape_Reach_r8_q (K : Int → β) : β := (K (min size (IntKind.wrap .i64 ((IntKind.wrap .i64 ((IntKind.wrap .i64 (s318.2.2 * stride)) - pad)) + k_))))
def shape_Reach_r8_p : Int := shape_Reach_r8_q k_ stride pad size s318 (fun y => y)
theorem shape_Reach_r8_n (K : Int → β) : shape_Reach_r8_q k_ stride pad size s318 K = K (shape_Reach_r8_p k_ stride pad size s318) := rfl
abbrev S41_5 : St := ⟨[(0, ri first), (1, ri rows), (2, ri k_), (3, ri stride), (4, ri pad), (5, ri size), (12, ri s318.1), (13, ri s318.2.1), (15, ri s318.2.2), (16, ri (max (0 : Int) (IntKind.wrap .i64 ((IntKind.wrap .i64 (s318.2.2 * stride)) - pad)))), (17, ri (shape_Reach_r8_p k_ stride pad size s318))], [], [], 78⟩
theorem shape_Reach_r8 : P41 1 C41.r.r.r.r.l.r.b.b.r.l.b (S41_4 first rows k_ stride pad size s318) k = k (S41_5 first rows k_ stride pad size s318) := Eq.trans (by kernel_rfl) (shape_Reach_r8_n k_ stride pad size s318 (fun y319 : Int => k ⟨[(0, ri first), (1, ri rows), (2, ri k_), (3, ri stride), (4, ri pad), (5, ri size), (12, ri s318.1), (13, ri s318.2.1), (15, ri s318.2.2), (16, ri (max (0 : Int) (IntKind.wrap .i64 ((IntKind.wrap .i64 (s318.2.2 * stride)) - pad)))), (17, ri y319)], [], [], 78⟩))
def shape_Reach_r9_q (K : Bool → β) : β := (K (decide ((max (0 : Int) (IntKind.wrap .i64 ((IntKind.wrap .i64 (s318.2.2 * stride)) - pad))) < (shape_Reach_r8_p k_ stride pad size s318))))
def shape_Reach_r9_p : Bool := shape_Reach_r9_q k_ stride pad size s318 (fun y => y)
theorem shape_Reach_r9_n (K : Bool → β) : shape_Reach_r9_q k_ stride pad size s318 K = K (shape_Reach_r9_p k_ stride pad size s318) := rfl
theorem shape_Reach_r9 : P41 1 C41.r.r.r.r.l.r.b.b.r.l.b.r (S41_5 first rows k_ stride pad size s318) k = k ⟨[(0, ri first), (1, ri rows), (2, ri k_), (3, ri stride), (4, ri pad), (5, ri size), (12, ri s318.1), (13, ri s318.2.1), (15, ri s318.2.2), (16, ri (max (0 : Int) (IntKind.wrap .i64 ((IntKind.wrap .i64 (s318.2.2 * stride)) - pad)))), (17, ri (shape_Reach_r8_p k_ stride pad size s318)), (67, rb (shape_Reach_r9_p k_ stride pad size s318))], [], [], 78⟩ := Eq.trans (by kernel_rfl) (shape_Reach_r9_n k_ stride pad size s318 (fun y320 : Bool => k ⟨[(0, ri first), (1, ri rows), (2, ri k_), (3, ri stride), (4, ri pad), (5, ri size), (12, ri s318.1), (13, ri s318.2.1), (15, ri s318.2.2), (16, ri (max (0 : Int) (IntKind.wrap .i64 ((IntKind.wrap .i64 (s318.2.2 * stride)) - pad)))), (17, ri (shape_Reach_r8_p k_ stride pad size s318)), (67, rb y320)], [], [], 78⟩))
def shape_Reach_r10_q (K : Int → β) : β := (K (min s318.1 (max (0 : Int) (IntKind.wrap .i64 ((IntKind.wrap .i64 (s318.2.2 * stride)) - pad)))))
def shape_Reach_r10_p : Int := shape_Reach_r10_q stride pad s318 (fun y => y)
theorem shape_Reach_r10_n (K : Int → β) : shape_Reach_r10_q stride pad s318 K = K (shape_Reach_r10_p stride pad s318) := rfl
abbrev S41_6 : St := ⟨[(0, ri first), (1, ri rows), (2, ri k_), (3, ri stride), (4, ri pad), (5, ri size), (12, ri (shape_Reach_r10_p stride pad s318)), (13, ri (max s318.2.1 (shape_Reach_r8_p k_ stride pad size s318))), (15, ri s318.2.2)], [], [], 78⟩
theorem shape_Reach_r10 : R41 C41.r.r.r.r.l.r.b.b.r.l.b.r.r.t (S41_5 first rows k_ stride pad size s318) q = q .normal (S41_6 first rows k_ stride pad size s318) := Eq.trans (by kernel_rfl) (shape_Reach_r10_n stride pad s318 (fun y321 : Int => q .normal ⟨[(0, ri first), (1, ri rows), (2, ri k_), (3, ri stride), (4, ri pad), (5, ri size), (12, ri y321), (13, ri (max s318.2.1 (shape_Reach_r8_p k_ stride pad size s318))), (15, ri s318.2.2)], [], [], 78⟩))
def shape_Reach_j8_q (K : (Int × Int) → β) : β := (bif (shape_Reach_r9_p k_ stride pad size s318) then (K ((shape_Reach_r10_p stride pad s318), (max s318.2.1 (shape_Reach_r8_p k_ stride pad size s318)))) else (K (s318.1, s318.2.1)))
def shape_Reach_j8_p : (Int × Int) := shape_Reach_j8_q k_ stride pad size s318 (fun y => y)
theorem shape_Reach_j8_n (K : (Int × Int) → β) : shape_Reach_j8_q k_ stride pad size s318 K = K (shape_Reach_j8_p k_ stride pad size s318) := (bif_k K rfl rfl)
abbrev S41_7 : St := ⟨[(0, ri first), (1, ri rows), (2, ri k_), (3, ri stride), (4, ri pad), (5, ri size), (12, ri ((shape_Reach_j8_p k_ stride pad size s318).1)), (13, ri ((shape_Reach_j8_p k_ stride pad size s318).2)), (15, ri s318.2.2)], [], [], 78⟩
theorem shape_Reach_j8 : R41 C41.r.r.r.r.l.r.b.b.r.l (S41_4 first rows k_ stride pad size s318) (Q41 C41.r.r.r.r.l.r.b.b.r.r q) = R41 C41.r.r.r.r.l.r.b.b.r.r (S41_7 first rows k_ stride pad size s318) q := by
  refine Eq.trans ?_ (shape_Reach_j8_n k_ stride pad size s318 (fun y322 : (Int × Int) => R41 C41.r.r.r.r.l.r.b.b.r.r ⟨[(0, ri first), (1, ri rows), (2, ri k_), (3, ri stride), (4, ri pad), (5, ri size), (12, ri y322.1), (13, ri y322.2), (15, ri s318.2.2)], [], [], 78⟩ q))
  unfold shape_Reach_j8_q
  refine (block_push (id := 1)).trans ?_
  refine (pre1 (shape_Reach_r8 first rows k_ stride pad size s318 _)).trans ?_
  refine (pre1 (shape_Reach_r9 first rows k_ stride pad size s318 _)).trans ?_
  refine (cond_e (b := (shape_Reach_r9_p k_ stride pad size s318)) (st' := (S41_5 first rows k_ stride pad size s318)) ).trans (bif_g ?_ ?_)
  · refine (shape_Reach_r10 first rows k_ stride pad size s318 _).trans ?_
    refine block_normal.trans ?_
    refine (seqC_normal (st' := (S41_6 first rows k_ stride pad size s318))).trans ?_
    kernel_rfl
  · refine (skip_eq).trans ?_
    refine block_normal.trans ?_
    refine (seqC_normal (st' := (S41_4 first rows k_ stride pad size s318))).trans ?_
    kernel_rfl
theorem shape_Reach_r7 : R41 C41.r.r.r.r.l.r.b.b.r.r (S41_7 first rows k_ stride pad size s318) q = q .normal ⟨[(0, ri first), (1, ri rows), (2, ri k_), (3, ri stride), (4, ri pad), (5, ri size), (12, ri ((shape_Reach_j8_p k_ stride pad size s318).1)), (13, ri ((shape_Reach_j8_p k_ stride pad size s318).2)), (15, ri (IntKind.wrap .i64 (s318.2.2 + 1)))], [], [], 78⟩ := by kernel_rfl
def shape_Reach_l6_p : Option ((Int × Int × Int) ⊕ (Int × Int × Int)) := (bif (decide (s318.2.2 < (IntKind.wrap .i64 (first + rows)))) then (some (Sum.inl ((shape_Reach_j8_p k_ stride pad size s318).1, (shape_Reach_j8_p k_ stride pad size s318).2, (IntKind.wrap .i64 (s318.2.2 + 1))))) else (some (Sum.inr s318)))
abbrev S41_8 : St := ⟨[(0, ri first), (1, ri rows), (2, ri k_), (3, ri stride), (4, ri pad), (5, ri size), (12, ri y323.1), (13, ri y323.2.1), (15, ri y323.2.2)], [], [], 78⟩
theorem shape_Reach_l6_b : R41 C41.r.r.r.r.l.r.b.b (S41_4 first rows k_ stride pad size s318) (loopKont 0 q) = Option.bind (shape_Reach_l6_p first rows k_ stride pad size s318) (either (fun y : (Int × Int × Int) => q .normal ⟨[(0, ri first), (1, ri rows), (2, ri k_), (3, ri stride), (4, ri pad), (5, ri size), (12, ri y.1), (13, ri y.2.1), (15, ri y.2.2)], [], [], 78⟩) (fun y323 : (Int × Int × Int) => q (.exit 0) (S41_8 first rows k_ stride pad size y323))) := by
  refine .trans ?_ (bif_b e2_0 e2_1)
  refine .trans seq_push ?_
  refine (pre1 (shape_Reach_fzx1 first rows k_ stride pad size s318 _)).trans ?_
  refine (cond_e (b := (decide (s318.2.2 < (IntKind.wrap .i64 (first + rows))))) (st' := (S41_4 first rows k_ stride pad size s318)) ).trans (bif_g ?_ ?_)
  · refine (skip_eq).trans ?_
    refine (seqC_normal (st' := (S41_4 first rows k_ stride pad size s318))).trans ?_
    refine .trans seq_push ?_
    refine (shape_Reach_j8 first rows k_ stride pad size s318 _).trans ?_
    refine (shape_Reach_r7 first rows k_ stride pad size s318 _).trans ?_
    kernel_rfl
  · refine ((exit_eq (j := 0))).trans ?_
    refine seqC_exit.trans ?_
    kernel_rfl
theorem shape_Reach_l6 : R41 C41.r.r.r.r.l.r.b (S41_3 first rows k_ stride pad size) q = Option.bind (iterN (shape_Reach_l6_p first rows k_ stride pad size) LL (size, (0 : Int), first)) (fun y323 : (Int × Int × Int) => q (.exit 0) (S41_8 first rows k_ stride pad size y323)) :=
  Eq.trans (by kernel_rfl) (loop_iter1 (S := fun s318 : (Int × Int × Int) => (S41_4 first rows k_ stride pad size s318)) (Y1 := fun y323 : (Int × Int × Int) => ((.exit 0), (S41_8 first rows k_ stride pad size y323))) (fun s q => shape_Reach_l6_b first rows k_ stride pad size s q) (fun z => rfl) LL (size, (0 : Int), first))
abbrev S41_9 : St := ⟨[(12, ri y323.1), (13, ri y323.2.1)], [], [], 78⟩
theorem shape_Reach_f1000012 : P41 1 C41.r.r.r.r.r.l (S41_9 y323) k = k ⟨[(12, ri y323.1), (13, ri y323.2.1), (75, rb (y323.2.1 == 0))], [], [], 78⟩ := by kernel_rfl
theorem shape_Reach_fzx2 : P41 1 C41.r.r.r.r.r.l.r.t (S41_9 y323) k = k S41_1 := by kernel_rfl
theorem shape_Reach_fzx3 : P41 1 C41.r.r.r.r.r.r (S41_9 y323) k = k (S41_9 y323) := by kernel_rfl
/-- quilt/shape.Reach -/
def shape_Reach : Option (Int × Int) := (Option.bind (shape_Out size k_ stride pad) (fun y299 : Int => (bif (shape_Reach_r2_p first rows y299) then (some ((0 : Int), (0 : Int))) else (Option.bind (iterN (shape_Reach_l6_p first rows k_ stride pad size) LL (size, (0 : Int), first)) (fun y323 : (Int × Int × Int) => (bif (y323.2.1 == 0) then (some ((0 : Int), (0 : Int))) else (some (y323.1, y323.2.1))))))))
theorem shape_Reach_is : stepS E cp41 noE 31 [ri first, ri rows, ri k_, ri stride, ri pad, ri size] = Option.bind (shape_Reach first rows k_ stride pad size) (fun y : (Int × Int) => some (.tup [ri y.1, ri y.2] : R)) := by
  refine .trans ?_ (bind_b fun y299 => (bif_b some_b (bind_b fun y323 => (bif_b some_b some_b))))
  refine (stepG_is (nt := 78) (regs := [(0, ri first), (1, ri rows), (2, ri k_), (3, ri stride), (4, ri pad), (5, ri size)])).trans ?_
  refine (pre2 (shape_Reach_r1 first rows k_ stride pad size _)).trans (bind_g fun y299 => ?_)
  refine .trans seq_push ?_
  refine (pre1 (shape_Reach_r2 first rows k_ stride pad size y299 _)).trans ?_
  refine (cond_e (b := (shape_Reach_r2_p first rows y299)) (st' := (S41_0 first rows k_ stride pad size)) ).trans (bif_g ?_ ?_)
  · refine (pre1 (shape_Reach_fz first rows k_ stride pad size _)).trans ?_
    refine (ret_eq).trans ?_
    refine seqC_ret.trans ?_
    kernel_rfl
  · refine (skip_eq).trans ?_
    refine (seqC_normal (st' := (S41_0 first rows k_ stride pad size))).trans ?_
    refine (pre1 (shape_Reach_f5 first rows k_ stride pad size _)).trans ?_
    refine .trans seq_push ?_
    refine (pre1 (shape_Reach_f6 first rows k_ stride pad size _)).trans ?_
    refine (block_push (id := 0)).trans ?_
    refine (shape_Reach_l6 first rows k_ stride pad size _).trans (bind_g fun y323 => ?_)
    refine block_same.trans ?_
    refine (seqC_normal (st' := (S41_9 y323))).trans ?_
    refine .trans seq_push ?_
    refine (pre1 (shape_Reach_f1000012 y323 _)).trans ?_
    refine (cond_e (b := (y323.2.1 == 0)) (st' := (S41_9 y323)) ).trans (bif_g ?_ ?_)
    · refine (pre1 (shape_Reach_fzx2 y323 _)).trans ?_
      refine (ret_eq).trans ?_
      refine seqC_ret.trans ?_
      kernel_rfl
    · refine (skip_eq).trans ?_
      refine (seqC_normal (st' := (S41_9 y323))).trans ?_
      refine (pre1 (shape_Reach_fzx3 y323 _)).trans ?_
      refine (ret_eq).trans ?_
      kernel_rfl
noncomputable def cp42 : CallP := withC cp41 31 [pI, pI, pI, pI, pI, pI] (.tup [pI, pI]) (fun y : (Int × Int) => (y.1, y.2, ())) (fun x => shape_Reach x.1 x.2.1 x.2.2.1 x.2.2.2.1 x.2.2.2.2.1 x.2.2.2.2.2.1)
theorem cp42_ok : PureOK E cp42 := conS eok cp41_ok noE_ok fun x => Eq.mp (by kernel_rfl) (shape_Reach_is x.1 x.2.1 x.2.2.1 x.2.2.2.1 x.2.2.2.2.1 x.2.2.2.2.2.1)
end
section
variable {α β : Type} (n_ : Node) (in_ : (List I4)) (first : Int) (rows : Int) (y293 : (I4 × Int)) (s369 : (Int × Int × Int × Int × Int)) (y379 : (Int × Int × Int × Int)) (y380 : (Int × Int × Int × Int × Int)) (k : St → Option α) (q : Kont α)
noncomputable abbrev C42 := codeOf E.P 19
noncomputable abbrev P42 := @preK α E 19 cp42 noE
noncomputable abbrev R42 := @runCode α E 19 cp42 noE
noncomputable abbrev Q42 := @seqC α E 19 cp42 noE
abbrev S42_0 : St := ⟨[(1, rl tsI4 in_), (2, ri first), (3, ri rows), (4, rC tsNode n_), (8, rF 0), (9, ri y293.2), (10, rF 1)], [[di 0, di 0, di 0, di 0], (tsI4.leaves y293.1)], [], 116⟩
theorem kern_Needs_r1 : P42 2 C42 ⟨[(0, rA tsNode n_), (1, rl tsI4 in_), (2, ri first), (3, ri rows)], [], [], 116⟩ k = Option.bind (graph_Value n_ in_) fun y293 : (I4 × Int) => k (S42_0 n_ in_ first rows y293) := by kernel_rfl
theorem kern_Needs_f1000003 : P42 1 C42.r.r.l.b (S42_0 n_ in_ first rows y293) k = k ⟨[(1, rl tsI4 in_), (2, ri first), (3, ri rows), (4, rC tsNode n_), (8, rF 0), (9, ri y293.2), (10, rF 1), (19, rb (y293.2 != 0))], [[di 0, di 0, di 0, di 0], (tsI4.leaves y293.1)], [], 116⟩ := by kernel_rfl
theorem kern_Needs_fz : P42 1 C42.r.r.l.b.r.t (S42_0 n_ in_ first rows y293) k = k ⟨[(8, rF 0), (9, ri y293.2)], [[di 0, di 0, di 0, di 0], []], [], 116⟩ := by kernel_rfl
def kern_Needs_r4_q (K : Bool → β) : β := (bif (decide (first < 0)) then (K true) else (bif (decide (rows < 1)) then (K true) else (bif (decide (first > y293.1.1)) then (K true) else (K (decide (rows > (IntKind.wrap .i64 (y293.1.1 - first))))))))
def kern_Needs_r4_p : Bool := kern_Needs_r4_q first rows y293 (fun y => y)
theorem kern_Needs_r4_n (K : Bool → β) : kern_Needs_r4_q first rows y293 K = K (kern_Needs_r4_p first rows y293) := (bif_k K rfl (bif_k K rfl (bif_k K rfl rfl)))
theorem kern_Needs_r4 : P42 1 C42.r.r.l.b.r.e (S42_0 n_ in_ first rows y293) k = k ⟨[(1, rl tsI4 in_), (2, ri first), (3, ri rows), (4, rC tsNode n_), (8, rF 0), (24, rb (kern_Needs_r4_p first rows y293))], [[di 0, di 0, di 0, di 0], []], [], 116⟩ := Eq.trans (by kernel_rfl) (kern_Needs_r4_n first rows y293 (fun y295 : Bool => k ⟨[(1, rl tsI4 in_), (2, ri first), (3, ri rows), (4, rC tsNode n_), (8, rF 0), (24, rb y295)], [[di 0, di 0, di 0, di 0], []], [], 116⟩))
abbrev S42_1 : St := ⟨[(1, rl tsI4 in_), (2, ri first), (3, ri rows), (4, rC tsNode n_), (8, rF 0)], [[di 0, di 0, di 0, di 0], []], [], 116⟩
theorem kern_Needs_fzx1 : P42 1 C42.r.r.l.b.r.e.r.t (S42_1 n_ in_ first rows) k = k ⟨[(8, rF 0), (9, ri 1)], [[di 0, di 0, di 0, di 0], []], [], 116⟩ := by kernel_rfl
abbrev S42_2 : St := ⟨[(1, rl tsI4 in_), (2, ri first), (3, ri rows), (4, rC tsNode n_), (8, rF 0), (49, ri (in_.length : Int)), (50, ri 0)], [[di 0, di 0, di 0, di 0], []], [], 116⟩
theorem kern_Needs_f7 : P42 1 C42.r.r.r.l (S42_1 n_ in_ first rows) k = k (S42_2 n_ in_ first rows) := by kernel_rfl
abbrev S42_3 : St := ⟨[(1, rl tsI4 in_), (2, ri first), (3, ri rows), (4, rC tsNode n_), (8, rF 0), (49, ri (in_.length : Int)), (50, ri s369.1)], [(tsI4.leaves s369.2), []], [], 116⟩
theorem kern_Needs_fzx2 : P42 1 C42.r.r.r.l.r.b.b (S42_3 n_ in_ first rows s369) k = k ⟨[(1, rl tsI4 in_), (2, ri first), (3, ri rows), (4, rC tsNode n_), (8, rF 0), (49, ri (in_.length : Int)), (50, ri s369.1), (51, rb (decide (s369.1 < (in_.length : Int))))], [(tsI4.leaves s369.2), []], [], 116⟩ := by kernel_rfl
def kern_Needs_r9_p : Option Unit := (bif (decide ((0 : Int) ≤ s369.1)) then (bif (decide (s369.1 < (in_.length : Int))) then (some ()) else none) else none)
abbrev S42_4 : St := ⟨[(1, rl tsI4 in_), (2, ri first), (3, ri rows), (4, rC tsNode n_), (8, rF 0), (11, ri s369.1), (12, ri ((gt in_ s369.1 dI4).1)), (49, ri (in_.length : Int)), (50, ri s369.1)], [(tsI4.leaves s369.2), []], [], 116⟩
theorem kern_Needs_r9 : P42 2 C42.r.r.r.l.r.b.b.r.r.l.b (S42_3 n_ in_ first rows s369) k = Option.bind (kern_Needs_r9_p in_ s369) (fun y370 : Unit => k (S42_4 n_ in_ first rows s369)) := .trans (by kernel_rfl) (bif_b (bif_b some_b none_b) none_b)
abbrev S42_5 : St := ⟨[(1, rl tsI4 in_), (2, ri first), (3, ri rows), (4, rC tsNode n_), (8, rF 0), (11, ri s369.1), (12, ri ((gt in_ s369.1 dI4).1)), (49, ri (in_.length : Int)), (50, ri s369.1), (60, ri n_.1)], [(tsI4.leaves s369.2), []], [], 116⟩
theorem kern_Needs_f12 : P42 1 C42.r.r.r.l.r.b.b.r.r.l.b.r.r (S42_4 n_ in_ first rows s369) k = k (S42_5 n_ in_ first rows s369) := by kernel_rfl
abbrev S42_6 : St := ⟨[(1, rl tsI4 in_), (2, ri first), (3, ri rows), (4, rC tsNode n_), (8, rF 0), (11, ri s369.1), (12, ri ((gt in_ s369.1 dI4).1)), (49, ri (in_.length : Int)), (50, ri s369.1), (60, ri n_.1), (68, rb (n_.1 == 1))], [(tsI4.leaves s369.2), []], [], 116⟩
theorem kern_Needs_f2000013 : P42 1 C42.r.r.r.l.r.b.b.r.r.l.b.r.r.r.b.l (S42_5 n_ in_ first rows s369) k = k (S42_6 n_ in_ first rows s369) := by kernel_rfl
abbrev S42_7 : St := ⟨[(1, rl tsI4 in_), (2, ri first), (3, ri rows), (4, rC tsNode n_), (8, rF 0), (11, ri s369.1), (12, ri ((gt in_ s369.1 dI4).1)), (49, ri (in_.length : Int)), (50, ri s369.1), (60, ri n_.1), (68, rb (n_.1 == 2))], [(tsI4.leaves s369.2), []], [], 116⟩
theorem kern_Needs_f2000014 : P42 1 C42.r.r.r.l.r.b.b.r.r.l.b.r.r.r.b.l.r.e (S42_6 n_ in_ first rows s369) k = k (S42_7 n_ in_ first rows s369) := by kernel_rfl
abbrev S42_8 : St := ⟨[(1, rl tsI4 in_), (2, ri first), (3, ri rows), (4, rC tsNode n_), (8, rF 0), (11, ri s369.1), (12, ri ((gt in_ s369.1 dI4).1)), (49, ri (in_.length : Int)), (50, ri s369.1), (60, ri n_.1), (68, rb (n_.1 == 4))], [(tsI4.leaves s369.2), []], [], 116⟩
theorem kern_Needs_f2000015 : P42 1 C42.r.r.r.l.r.b.b.r.r.l.b.r.r.r.b.l.r.e.r.e (S42_7 n_ in_ first rows s369) k = k (S42_8 n_ in_ first rows s369) := by kernel_rfl
abbrev S42_9 : St := ⟨[(1, rl tsI4 in_), (2, ri first), (3, ri rows), (4, rC tsNode n_), (8, rF 0), (11, ri s369.1), (12, ri ((gt in_ s369.1 dI4).1)), (49, ri (in_.length : Int)), (50, ri s369.1), (60, ri n_.1), (68, rb (n_.1 == 5))], [(tsI4.leaves s369.2), []], [], 116⟩
theorem kern_Needs_r15 : R42 C42.r.r.r.l.r.b.b.r.r.l.b.r.r.r.b.l.r.e.r.e.r.e (S42_8 n_ in_ first rows s369) q = q .normal (S42_9 n_ in_ first rows s369) := by kernel_rfl
def kern_Needs_j12_q (K : Bool → β) : β := (bif (n_.1 == 1) then (K (n_.1 == 1)) else (bif (n_.1 == 2) then (K (n_.1 == 2)) else (bif (n_.1 == 4) then (K (n_.1 == 4)) else (K (n_.1 == 5)))))
def kern_Needs_j12_p : Bool := kern_Needs_j12_q n_ (fun y => y)
theorem kern_Needs_j12_n (K : Bool → β) : kern_Needs_j12_q n_ K = K (kern_Needs_j12_p n_) := (bif_k K rfl (bif_k K rfl (bif_k K rfl rfl)))
abbrev S42_10 : St := ⟨[(1, rl tsI4 in_), (2, ri first), (3, ri rows), (4, rC tsNode n_), (8, rF 0), (11, ri s369.1), (12, ri ((gt in_ s369.1 dI4).1)), (49, ri (in_.length : Int)), (50, ri s369.1), (60, ri n_.1), (68, rb (kern_Needs_j12_p n_))], [(tsI4.leaves s369.2), []], [], 116⟩
theorem kern_Needs_j12 : R42 C42.r.r.r.l.r.b.b.r.r.l.b.r.r.r.b.l (S42_5 n_ in_ first rows s369) (Q42 C42.r.r.r.l.r.b.b.r.r.l.b.r.r.r.b.r q) = R42 C42.r.r.r.l.r.b.b.r.r.l.b.r.r.r.b.r (S42_10 n_ in_ first rows s369) q := by
  refine Eq.trans ?_ (kern_Needs_j12_n n_ (fun y371 : Bool => R42 C42.r.r.r.l.r.b.b.r.r.l.b.r.r.r.b.r ⟨[(1, rl tsI4 in_), (2, ri first), (3, ri rows), (4, rC tsNode n_), (8, rF 0), (11, ri s369.1), (12, ri ((gt in_ s369.1 dI4).1)), (49, ri (in_.length : Int)), (50, ri s369.1), (60, ri n_.1), (68, rb y371)], [(tsI4.leaves s369.2), []], [], 116⟩ q))
  unfold kern_Needs_j12_q
  refine (pre1 (kern_Needs_f2000013 n_ in_ first rows s369 _)).trans ?_
  refine (cond_s (b := (n_.1 == 1)) ).trans (bif_g ?_ ?_)
  · refine (skip_eq).trans ?_
    refine (seqC_normal (st' := (S42_6 n_ in_ first rows s369))).trans ?_
    kernel_rfl
  · refine (pre1 (kern_Needs_f2000014 n_ in_ first rows s369 _)).trans ?_
    refine (cond_s (b := (n_.1 == 2)) ).trans (bif_g ?_ ?_)
    · refine (skip_eq).trans ?_
      refine (seqC_normal (st' := (S42_7 n_ in_ first rows s369))).trans ?_
      kernel_rfl
    · refine (pre1 (kern_Needs_f2000015 n_ in_ first rows s369 _)).trans ?_
      refine (cond_s (b := (n_.1 == 4)) ).trans (bif_g ?_ ?_)
      · refine (skip_eq).trans ?_
        refine (seqC_normal (st' := (S42_8 n_ in_ first rows s369))).trans ?_
        kernel_rfl
      · refine (kern_Needs_r15 n_ in_ first rows s369 _).trans ?_
        refine (seqC_normal (st' := (S42_9 n_ in_ first rows s369))).trans ?_
        kernel_rfl
def kern_Needs_r16_p : Option (Int × Int × Int × Int) := (Option.bind (shape_Reach first rows n_.2.2.1 n_.2.2.2.1 n_.2.2.2.2.1 ((gt in_ s369.1 dI4).1)) (fun y372 : (Int × Int) => (bif (s369.1 == 0) then (bif (s369.1 == 0) then (some (y372.1, y372.2, s369.2.2.2.1, s369.2.2.2.2)) else (bif (s369.1 == 1) then (some (y372.1, s369.2.2.1, s369.2.2.2.1, y372.2)) else none)) else (bif (s369.1 == 1) then (bif (s369.1 == 0) then (some (s369.2.1, y372.2, y372.1, s369.2.2.2.2)) else (bif (s369.1 == 1) then (some (s369.2.1, s369.2.2.1, y372.1, y372.2)) else none)) else none))))
abbrev S42_11 (y373 : (Int × Int × Int × Int)) : St := ⟨[(1, rl tsI4 in_), (2, ri first), (3, ri rows), (4, rC tsNode n_), (8, rF 0), (49, ri (in_.length : Int)), (50, ri s369.1)], [(tsI4.leaves y373), []], [], 116⟩
theorem kern_Needs_r16 : R42 C42.r.r.r.l.r.b.b.r.r.l.b.r.r.r.b.r.t (S42_10 n_ in_ first rows s369) q = Option.bind (kern_Needs_r16_p n_ in_ first rows s369) (fun y373 : (Int × Int × Int × Int) => q .normal (S42_11 n_ in_ first rows s369 y373)) := .trans (by kernel_rfl) (bind_b fun y372 => (bif_b (bif_b some_b (bif_b some_b none_b)) (bif_b (bif_b some_b (bif_b some_b none_b)) none_b)))
theorem kern_Needs_f1000018 : P42 1 C42.r.r.r.l.r.b.b.r.r.l.b.r.r.r.b.r.e (S42_10 n_ in_ first rows s369) k = k ⟨[(1, rl tsI4 in_), (2, ri first), (3, ri rows), (4, rC tsNode n_), (8, rF 0), (11, ri s369.1), (12, ri ((gt in_ s369.1 dI4).1)), (49, ri (in_.length : Int)), (50, ri s369.1), (60, ri n_.1), (92, rb (n_.1 == 9))], [(tsI4.leaves s369.2), []], [], 116⟩ := by kernel_rfl
def kern_Needs_r18_p : Option (Int × Int × Int × Int) := (Option.bind (shape_Reach first rows (1 : Int) (1 : Int) (1 : Int) ((gt in_ s369.1 dI4).1)) (fun y374 : (Int × Int) => (bif (s369.1 == 0) then (bif (s369.1 == 0) then (some (y374.1, y374.2, s369.2.2.2.1, s369.2.2.2.2)) else (bif (s369.1 == 1) then (some (y374.1, s369.2.2.1, s369.2.2.2.1, y374.2)) else none)) else (bif (s369.1 == 1) then (bif (s369.1 == 0) then (some (s369.2.1, y374.2, y374.1, s369.2.2.2.2)) else (bif (s369.1 == 1) then (some (s369.2.1, s369.2.2.1, y374.1, y374.2)) else none)) else none))))
abbrev S42_12 (y375 : (Int × Int × Int × Int)) : St := ⟨[(1, rl tsI4 in_), (2, ri first), (3, ri rows), (4, rC tsNode n_), (8, rF 0), (49, ri (in_.length : Int)), (50, ri s369.1)], [(tsI4.leaves y375), []], [], 116⟩
theorem kern_Needs_r18 : R42 C42.r.r.r.l.r.b.b.r.r.l.b.r.r.r.b.r.e.r.t (S42_5 n_ in_ first rows s369) q = Option.bind (kern_Needs_r18_p in_ first rows s369) (fun y375 : (Int × Int × Int × Int) => q .normal (S42_12 n_ in_ first rows s369 y375)) := .trans (by kernel_rfl) (bind_b fun y374 => (bif_b (bif_b some_b (bif_b some_b none_b)) (bif_b (bif_b some_b (bif_b some_b none_b)) none_b)))
abbrev S42_13 : St := ⟨[(1, rl tsI4 in_), (2, ri first), (3, ri rows), (4, rC tsNode n_), (8, rF 0), (11, ri s369.1), (12, ri ((gt in_ s369.1 dI4).1)), (49, ri (in_.length : Int)), (50, ri s369.1), (60, ri n_.1), (107, rb (n_.1 == 3))], [(tsI4.leaves s369.2), []], [], 116⟩
theorem kern_Needs_f2000020 : P42 1 C42.r.r.r.l.r.b.b.r.r.l.b.r.r.r.b.r.e.r.e.l (S42_5 n_ in_ first rows s369) k = k (S42_13 n_ in_ first rows s369) := by kernel_rfl
abbrev S42_14 : St := ⟨[(1, rl tsI4 in_), (2, ri first), (3, ri rows), (4, rC tsNode n_), (8, rF 0), (11, ri s369.1), (12, ri ((gt in_ s369.1 dI4).1)), (49, ri (in_.length : Int)), (50, ri s369.1), (107, rb (n_.1 == 11))], [(tsI4.leaves s369.2), []], [], 116⟩
theorem kern_Needs_r20 : R42 C42.r.r.r.l.r.b.b.r.r.l.b.r.r.r.b.r.e.r.e.l.r.e (S42_13 n_ in_ first rows s369) q = q .normal (S42_14 n_ in_ first rows s369) := by kernel_rfl
def kern_Needs_j19_q (K : Bool → β) : β := (bif (n_.1 == 3) then (K (n_.1 == 3)) else (K (n_.1 == 11)))
def kern_Needs_j19_p : Bool := kern_Needs_j19_q n_ (fun y => y)
theorem kern_Needs_j19_n (K : Bool → β) : kern_Needs_j19_q n_ K = K (kern_Needs_j19_p n_) := (bif_k K rfl rfl)
abbrev S42_15 : St := ⟨[(1, rl tsI4 in_), (2, ri first), (3, ri rows), (4, rC tsNode n_), (8, rF 0), (11, ri s369.1), (12, ri ((gt in_ s369.1 dI4).1)), (49, ri (in_.length : Int)), (50, ri s369.1), (107, rb (kern_Needs_j19_p n_))], [(tsI4.leaves s369.2), []], [], 116⟩
theorem kern_Needs_j19 : R42 C42.r.r.r.l.r.b.b.r.r.l.b.r.r.r.b.r.e.r.e.l (S42_5 n_ in_ first rows s369) (Q42 C42.r.r.r.l.r.b.b.r.r.l.b.r.r.r.b.r.e.r.e.r q) = R42 C42.r.r.r.l.r.b.b.r.r.l.b.r.r.r.b.r.e.r.e.r (S42_15 n_ in_ first rows s369) q := by
  refine Eq.trans ?_ (kern_Needs_j19_n n_ (fun y376 : Bool => R42 C42.r.r.r.l.r.b.b.r.r.l.b.r.r.r.b.r.e.r.e.r ⟨[(1, rl tsI4 in_), (2, ri first), (3, ri rows), (4, rC tsNode n_), (8, rF 0), (11, ri s369.1), (12, ri ((gt in_ s369.1 dI4).1)), (49, ri (in_.length : Int)), (50, ri s369.1), (107, rb y376)], [(tsI4.leaves s369.2), []], [], 116⟩ q))
  unfold kern_Needs_j19_q
  refine (pre1 (kern_Needs_f2000020 n_ in_ first rows s369 _)).trans ?_
  refine (cond_s (b := (n_.1 == 3)) ).trans (bif_g ?_ ?_)
  · refine (skip_eq).trans ?_
    refine (seqC_normal (st' := ⟨[(1, rl tsI4 in_), (2, ri first), (3, ri rows), (4, rC tsNode n_), (8, rF 0), (11, ri s369.1), (12, ri ((gt in_ s369.1 dI4).1)), (49, ri (in_.length : Int)), (50, ri s369.1), (107, rb (n_.1 == 3))], [(tsI4.leaves s369.2), []], [], 116⟩)).trans ?_
    kernel_rfl
  · refine (kern_Needs_r20 n_ in_ first rows s369 _).trans ?_
    refine (seqC_normal (st' := (S42_14 n_ in_ first rows s369))).trans ?_
    kernel_rfl
def kern_Needs_r21_p : Option (Int × Int × Int × Int) := (bif (s369.1 == 0) then (some ((0 : Int), (gt in_ s369.1 dI4).1, s369.2.2.2.1, s369.2.2.2.2)) else (bif (s369.1 == 1) then (some (s369.2.1, s369.2.2.1, (0 : Int), (gt in_ s369.1 dI4).1)) else none))
abbrev S42_16 (y377 : (Int × Int × Int × Int)) : St := ⟨[(1, rl tsI4 in_), (2, ri first), (3, ri rows), (4, rC tsNode n_), (8, rF 0), (49, ri (in_.length : Int)), (50, ri s369.1)], [(tsI4.leaves y377), []], [], 116⟩
theorem kern_Needs_r21 : R42 C42.r.r.r.l.r.b.b.r.r.l.b.r.r.r.b.r.e.r.e.r.t (S42_15 n_ in_ first rows s369) q = Option.bind (kern_Needs_r21_p in_ s369) (fun y377 : (Int × Int × Int × Int) => q .normal (S42_16 n_ in_ first rows s369 y377)) := .trans (by kernel_rfl) (bif_b some_b (bif_b some_b none_b))
def kern_Needs_r11_p : Option (Int × Int × Int × Int) := (bif (s369.1 == 0) then (some (first, (IntKind.wrap .i64 (first + rows)), s369.2.2.2.1, s369.2.2.2.2)) else (bif (s369.1 == 1) then (some (s369.2.1, s369.2.2.1, first, (IntKind.wrap .i64 (first + rows)))) else none))
abbrev S42_17 (y378 : (Int × Int × Int × Int)) : St := ⟨[(1, rl tsI4 in_), (2, ri first), (3, ri rows), (4, rC tsNode n_), (8, rF 0), (49, ri (in_.length : Int)), (50, ri s369.1)], [(tsI4.leaves y378), []], [], 116⟩
theorem kern_Needs_r11 : R42 C42.r.r.r.l.r.b.b.r.r.l.b.r.r.r.b.r.e.r.e.r.e (S42_15 n_ in_ first rows s369) q = Option.bind (kern_Needs_r11_p first rows s369) (fun y378 : (Int × Int × Int × Int) => q .normal (S42_17 n_ in_ first rows s369 y378)) := .trans (by kernel_rfl) (bif_b some_b (bif_b some_b none_b))
def kern_Needs_j8_p : Option (Int × Int × Int × Int) := (Option.bind (kern_Needs_r9_p in_ s369) (fun y370 : Unit => (bif (kern_Needs_j12_p n_) then (Option.bind (kern_Needs_r16_p n_ in_ first rows s369) (fun y373 : (Int × Int × Int × Int) => (some y373))) else (bif (n_.1 == 9) then (Option.bind (kern_Needs_r18_p in_ first rows s369) (fun y375 : (Int × Int × Int × Int) => (some y375))) else (bif (kern_Needs_j19_p n_) then (Option.bind (kern_Needs_r21_p in_ s369) (fun y377 : (Int × Int × Int × Int) => (some y377))) else (Option.bind (kern_Needs_r11_p first rows s369) (fun y378 : (Int × Int × Int × Int) => (some y378))))))))
abbrev S42_18 : St := ⟨[(1, rl tsI4 in_), (2, ri first), (3, ri rows), (4, rC tsNode n_), (8, rF 0), (49, ri (in_.length : Int)), (50, ri s369.1)], [(tsI4.leaves y379), []], [], 116⟩
theorem kern_Needs_j8 : R42 C42.r.r.r.l.r.b.b.r.r.l (S42_3 n_ in_ first rows s369) (Q42 C42.r.r.r.l.r.b.b.r.r.r q) = Option.bind (kern_Needs_j8_p n_ in_ first rows s369) (fun y379 : (Int × Int × Int × Int) => R42 C42.r.r.r.l.r.b.b.r.r.r (S42_18 n_ in_ first rows s369 y379) q) := by
  refine .trans ?_ (bind_b fun y370 => (bif_b (bind_b fun y373 => some_b) (bif_b (bind_b fun y375 => some_b) (bif_b (bind_b fun y377 => some_b) (bind_b fun y378 => some_b)))))
  refine (block_push (id := 2)).trans ?_
  refine (pre2 (kern_Needs_r9 n_ in_ first rows s369 _)).trans (bind_g fun y370 => ?_)
  refine (pre1 (kern_Needs_f12 n_ in_ first rows s369 _)).trans ?_
  refine (block_push (id := 3)).trans ?_
  refine .trans seq_push ?_
  refine (kern_Needs_j12 n_ in_ first rows s369 _).trans ?_
  refine (cond_s (b := (kern_Needs_j12_p n_)) ).trans (bif_g ?_ ?_)
  · refine (kern_Needs_r16 n_ in_ first rows s369 _).trans (bind_g fun y373 => ?_)
    refine block_normal.trans ?_
    refine block_normal.trans ?_
    refine (seqC_normal (st' := (S42_11 n_ in_ first rows s369 y373))).trans ?_
    kernel_rfl
  · refine (pre1 (kern_Needs_f1000018 n_ in_ first rows s369 _)).trans ?_
    refine (cond_e (b := (n_.1 == 9)) (st' := (S42_5 n_ in_ first rows s369)) ).trans (bif_g ?_ ?_)
    · refine (kern_Needs_r18 n_ in_ first rows s369 _).trans (bind_g fun y375 => ?_)
      refine block_normal.trans ?_
      refine block_normal.trans ?_
      refine (seqC_normal (st' := (S42_12 n_ in_ first rows s369 y375))).trans ?_
      kernel_rfl
    · refine .trans seq_push ?_
      refine (kern_Needs_j19 n_ in_ first rows s369 _).trans ?_
      refine (cond_s (b := (kern_Needs_j19_p n_)) ).trans (bif_g ?_ ?_)
      · refine (kern_Needs_r21 n_ in_ first rows s369 _).trans (bind_g fun y377 => ?_)
        refine block_normal.trans ?_
        refine block_normal.trans ?_
        refine (seqC_normal (st' := (S42_16 n_ in_ first rows s369 y377))).trans ?_
        kernel_rfl
      · refine (kern_Needs_r11 n_ in_ first rows s369 _).trans (bind_g fun y378 => ?_)
        refine block_normal.trans ?_
        refine block_normal.trans ?_
        refine (seqC_normal (st' := (S42_17 n_ in_ first rows s369 y378))).trans ?_
        kernel_rfl
theorem kern_Needs_r22 : R42 C42.r.r.r.l.r.b.b.r.r.r (S42_18 n_ in_ first rows s369 y379) q = q .normal ⟨[(1, rl tsI4 in_), (2, ri first), (3, ri rows), (4, rC tsNode n_), (8, rF 0), (49, ri (in_.length : Int)), (50, ri (IntKind.wrap .i64 (s369.1 + 1)))], [(tsI4.leaves y379), []], [], 116⟩ := by kernel_rfl
def kern_Needs_l7_p : Option ((Int × Int × Int × Int × Int) ⊕ (Int × Int × Int × Int × Int)) := (bif (decide (s369.1 < (in_.length : Int))) then (Option.bind (kern_Needs_j8_p n_ in_ first rows s369) (fun y379 : (Int × Int × Int × Int) => (some (Sum.inl ((IntKind.wrap .i64 (s369.1 + 1)), y379.1, y379.2.1, y379.2.2.1, y379.2.2.2))))) else (some (Sum.inr s369)))
abbrev S42_19 : St := ⟨[(1, rl tsI4 in_), (2, ri first), (3, ri rows), (4, rC tsNode n_), (8, rF 0), (49, ri (in_.length : Int)), (50, ri y380.1)], [(tsI4.leaves y380.2), []], [], 116⟩
theorem kern_Needs_l7_b : R42 C42.r.r.r.l.r.b.b (S42_3 n_ in_ first rows s369) (loopKont 2 q) = Option.bind (kern_Needs_l7_p n_ in_ first rows s369) (either (fun y : (Int × Int × Int × Int × Int) => q .normal ⟨[(1, rl tsI4 in_), (2, ri first), (3, ri rows), (4, rC tsNode n_), (8, rF 0), (49, ri (in_.length : Int)), (50, ri y.1)], [(tsI4.leaves y.2), []], [], 116⟩) (fun y380 : (Int × Int × Int × Int × Int) => q (.exit 1) (S42_19 n_ in_ first rows y380))) := by
  refine .trans ?_ (bif_b (bind_b fun y379 => e2_0) e2_1)
  refine (pre1 (kern_Needs_fzx2 n_ in_ first rows s369 _)).trans ?_
  refine .trans seq_push ?_
  refine (cond_e (b := (decide (s369.1 < (in_.length : Int)))) (st' := (S42_3 n_ in_ first rows s369)) ).trans (bif_g ?_ ?_)
  · refine (skip_eq).trans ?_
    refine (seqC_normal (st' := (S42_3 n_ in_ first rows s369))).trans ?_
    refine .trans seq_push ?_
    refine (kern_Needs_j8 n_ in_ first rows s369 _).trans (bind_g fun y379 => ?_)
    refine (kern_Needs_r22 n_ in_ first rows s369 y379 _).trans ?_
    kernel_rfl
  · refine ((exit_eq (j := 1))).trans ?_
    refine seqC_exit.trans ?_
    kernel_rfl
theorem kern_Needs_l7 : R42 C42.r.r.r.l.r.b (S42_2 n_ in_ first rows) q = Option.bind (iterN (kern_Needs_l7_p n_ in_ first rows) LL ((0 : Int), (0 : Int), (0 : Int), (0 : Int), (0 : Int))) (fun y380 : (Int × Int × Int × Int × Int) => q (.exit 1) (S42_19 n_ in_ first rows y380)) :=
  Eq.trans (by kernel_rfl) (loop_iter1 (S := fun s369 : (Int × Int × Int × Int × Int) => (S42_3 n_ in_ first rows s369)) (Y1 := fun y380 : (Int × Int × Int × Int × Int) => ((.exit 1), (S42_19 n_ in_ first rows y380))) (fun s q => kern_Needs_l7_b n_ in_ first rows s q) (fun z => rfl) LL ((0 : Int), (0 : Int), (0 : Int), (0 : Int), (0 : Int)))
theorem kern_Needs_fzx3 : P42 1 C42.r.r.r.r ⟨[(8, rF 0)], [(tsI4.leaves y380.2), []], [], 116⟩ k = k ⟨[(8, rF 0), (9, ri 0)], [(tsI4.leaves y380.2), []], [], 116⟩ := by kernel_rfl
/-- quilt/kern.Needs -/
def kern_Needs : Option (I4 × Int) := (Option.bind (graph_Value n_ in_) (fun y293 : (I4 × Int) => (bif (y293.2 != 0) then (some (((0 : Int), (0 : Int), (0 : Int), (0 : Int)), y293.2)) else (bif (kern_Needs_r4_p first rows y293) then (some (((0 : Int), (0 : Int), (0 : Int), (0 : Int)), (1 : Int))) else (Option.bind (iterN (kern_Needs_l7_p n_ in_ first rows) LL ((0 : Int), (0 : Int), (0 : Int), (0 : Int), (0 : Int))) (fun y380 : (Int × Int × Int × Int × Int) => (some (y380.2, (0 : Int)))))))))
theorem kern_Needs_is : stepS E cp42 noE 19 [rA tsNode n_, rl tsI4 in_, ri first, ri rows] = Option.bind (kern_Needs n_ in_ first rows) (fun y : (I4 × Int) => some (.tup [rA tsI4 y.1, ri y.2] : R)) := by
  refine .trans ?_ (bind_b fun y293 => (bif_b some_b (bif_b some_b (bind_b fun y380 => some_b))))
  refine (stepG_is (nt := 116) (regs := [(0, rA tsNode n_), (1, rl tsI4 in_), (2, ri first), (3, ri rows)])).trans ?_
  refine (pre2 (kern_Needs_r1 n_ in_ first rows _)).trans (bind_g fun y293 => ?_)
  refine .trans seq_push ?_
  refine (block_push (id := 0)).trans ?_
  refine (pre1 (kern_Needs_f1000003 n_ in_ first rows y293 _)).trans ?_
  refine (cond_e (b := (y293.2 != 0)) (st' := (S42_0 n_ in_ first rows y293)) ).trans (bif_g ?_ ?_)
  · refine (pre1 (kern_Needs_fz n_ in_ first rows y293 _)).trans ?_
    refine (ret_eq).trans ?_
    refine block_ret.trans ?_
    refine seqC_ret.trans ?_
    kernel_rfl
  · refine (pre1 (kern_Needs_r4 n_ in_ first rows y293 _)).trans ?_
    refine (cond_e (b := (kern_Needs_r4_p first rows y293)) (st' := (S42_1 n_ in_ first rows)) ).trans (bif_g ?_ ?_)
    · refine (pre1 (kern_Needs_fzx1 n_ in_ first rows _)).trans ?_
      refine (ret_eq).trans ?_
      refine block_ret.trans ?_
      refine seqC_ret.trans ?_
      kernel_rfl
    · refine (skip_eq).trans ?_
      refine block_normal.trans ?_
      refine (seqC_normal (st' := (S42_1 n_ in_ first rows))).trans ?_
      refine .trans seq_push ?_
      refine (pre1 (kern_Needs_f7 n_ in_ first rows _)).trans ?_
      refine (block_push (id := 1)).trans ?_
      refine (kern_Needs_l7 n_ in_ first rows _).trans (bind_g fun y380 => ?_)
      refine block_same.trans ?_
      refine (seqC_normal (st' := ⟨[(8, rF 0)], [(tsI4.leaves y380.2), []], [], 116⟩)).trans ?_
      refine (pre1 (kern_Needs_fzx3 y380 _)).trans ?_
      refine (ret_eq).trans ?_
      kernel_rfl
noncomputable def cp43 : CallP := withC cp42 19 [(.agg tsNode), (pL tsI4), pI, pI] (.tup [(.agg tsI4), pI]) (fun y : (I4 × Int) => (y.1, y.2, ())) (fun x => kern_Needs x.1 x.2.1 x.2.2.1 x.2.2.2.1)
theorem cp43_ok : PureOK E cp43 := conS eok cp42_ok noE_ok fun x => Eq.mp (by kernel_rfl) (kern_Needs_is x.1 x.2.1 x.2.2.1 x.2.2.2.1)
end
section
variable {α : Type} (n_ : Node) (in_ : (List I4)) (first : Int) (rows : Int) (y381 : (I4 × Int)) (s432 : (Int × Int × Int × Int)) (y444 : (Int × Int × Int)) (y445 : (Int × Int × Int × Int)) (y446 : (I4 × Int)) (y447 : Int) (k : St → Option α) (q : Kont α)
noncomputable abbrev C43 := codeOf E.P 8
noncomputable abbrev P43 := @preK α E 8 cp43 noE
noncomputable abbrev R43 := @runCode α E 8 cp43 noE
abbrev S43_0 : St := ⟨[(1, rl tsI4 in_), (3, ri rows), (4, rC tsNode n_), (8, rF 0), (10, rF 1), (11, ri y381.2)], [[di 0, di 0, di 0], (tsI4.leaves y381.1)], [], 65⟩
theorem halo_Sizes_r1 : P43 2 C43 ⟨[(0, rA tsNode n_), (1, rl tsI4 in_), (2, ri first), (3, ri rows)], [], [], 65⟩ k = Option.bind (kern_Needs n_ in_ first rows) fun y381 : (I4 × Int) => k (S43_0 n_ in_ rows y381) := by kernel_rfl
theorem halo_Sizes_f1000003 : P43 1 C43.r.r.l (S43_0 n_ in_ rows y381) k = k ⟨[(1, rl tsI4 in_), (3, ri rows), (4, rC tsNode n_), (8, rF 0), (10, rF 1), (11, ri y381.2), (26, rb (y381.2 != 0))], [[di 0, di 0, di 0], (tsI4.leaves y381.1)], [], 65⟩ := by kernel_rfl
theorem halo_Sizes_fz : P43 1 C43.r.r.l.r.t (S43_0 n_ in_ rows y381) k = k ⟨[(8, rF 0), (9, ri y381.2)], [[di 0, di 0, di 0], []], [], 65⟩ := by kernel_rfl
abbrev S43_1 : St := ⟨[(1, rl tsI4 in_), (3, ri rows), (4, rC tsNode n_), (8, rF 0), (10, rF 1)], [[di 0, di 0, di 0], (tsI4.leaves y381.1)], [], 65⟩
abbrev S43_2 : St := ⟨[(1, rl tsI4 in_), (3, ri rows), (4, rC tsNode n_), (8, rF 0), (10, rF 1), (12, rF 2)], [[di 0, di 0, di 0], (tsI4.leaves y381.1), [di 0, di 0, di 0]], [], 65⟩
theorem halo_Sizes_f5 : P43 1 C43.r.r.r (S43_1 n_ in_ rows y381) k = k (S43_2 n_ in_ rows y381) := by kernel_rfl
abbrev S43_3 : St := ⟨[(1, rl tsI4 in_), (3, ri rows), (4, rC tsNode n_), (8, rF 0), (10, rF 1), (12, rF 2), (29, rl tsI4 in_), (30, ri (in_.length : Int)), (31, ri 0)], [[di 0, di 0, di 0], (tsI4.leaves y381.1), [di 0, di 0, di 0]], [], 65⟩
theorem halo_Sizes_f6 : P43 1 C43.r.r.r.r.l (S43_2 n_ in_ rows y381) k = k (S43_3 n_ in_ rows y381) := by kernel_rfl
abbrev S43_4 : St := ⟨[(1, rl tsI4 in_), (3, ri rows), (4, rC tsNode n_), (8, rF 0), (10, rF 1), (12, rF 2), (29, rl tsI4 in_), (30, ri (in_.length : Int)), (31, ri s432.1)], [[di 0, di 0, di 0], (tsI4.leaves y381.1), (tsI3.leaves s432.2)], [], 65⟩
theorem halo_Sizes_fzx1 : P43 1 C43.r.r.r.r.l.r.b.b (S43_4 n_ in_ rows y381 s432) k = k ⟨[(1, rl tsI4 in_), (3, ri rows), (4, rC tsNode n_), (8, rF 0), (10, rF 1), (12, rF 2), (29, rl tsI4 in_), (30, ri (in_.length : Int)), (31, ri s432.1), (32, rb (decide (s432.1 < (in_.length : Int))))], [[di 0, di 0, di 0], (tsI4.leaves y381.1), (tsI3.leaves s432.2)], [], 65⟩ := by kernel_rfl
def halo_Sizes_r7_p : Option Unit := (bif (decide ((0 : Int) ≤ s432.1)) then (bif (decide (s432.1 < (in_.length : Int))) then (some ()) else none) else none)
abbrev S43_5 : St := ⟨[(1, rl tsI4 in_), (3, ri rows), (4, rC tsNode n_), (8, rF 0), (10, rF 1), (12, rF 2), (13, ri s432.1), (14, rF 3), (29, rl tsI4 in_), (30, ri (in_.length : Int)), (31, ri s432.1)], [[di 0, di 0, di 0], (tsI4.leaves y381.1), (tsI3.leaves s432.2), (tsI4.leaves (gt in_ s432.1 dI4))], [], 65⟩
theorem halo_Sizes_r7 : P43 1 C43.r.r.r.r.l.r.b.b.r.r.l.b (S43_4 n_ in_ rows y381 s432) k = Option.bind (halo_Sizes_r7_p in_ s432) (fun y439 : Unit => k (S43_5 n_ in_ rows y381 s432)) := .trans (by kernel_rfl) (bif_b (bif_b some_b none_b) none_b)
def halo_Sizes_r8_p : Option (Int × Int × Int) := (bif (s432.1 == 0) then (bif (s432.1 == 0) then (Option.bind (shape_Row ((gt in_ s432.1 dI4).1, (gt in_ s432.1 dI4).2.1, (gt in_ s432.1 dI4).2.2.1)) (fun y440 : Int => (bif (s432.1 == 0) then (some ((IntKind.wrap .i64 ((IntKind.wrap .i64 (y381.1.2.1 - y381.1.1)) * y440)), s432.2.2.1, s432.2.2.2)) else (bif (s432.1 == 1) then (some (s432.2.1, (IntKind.wrap .i64 ((IntKind.wrap .i64 (y381.1.2.1 - y381.1.1)) * y440)), s432.2.2.2)) else (bif (s432.1 == 2) then (some (s432.2.1, s432.2.2.1, (IntKind.wrap .i64 ((IntKind.wrap .i64 (y381.1.2.1 - y381.1.1)) * y440)))) else none))))) else (bif (s432.1 == 1) then (Option.bind (shape_Row ((gt in_ s432.1 dI4).1, (gt in_ s432.1 dI4).2.1, (gt in_ s432.1 dI4).2.2.1)) (fun y441 : Int => (bif (s432.1 == 0) then (some ((IntKind.wrap .i64 ((IntKind.wrap .i64 (y381.1.2.1 - y381.1.2.2.1)) * y441)), s432.2.2.1, s432.2.2.2)) else (bif (s432.1 == 1) then (some (s432.2.1, (IntKind.wrap .i64 ((IntKind.wrap .i64 (y381.1.2.1 - y381.1.2.2.1)) * y441)), s432.2.2.2)) else (bif (s432.1 == 2) then (some (s432.2.1, s432.2.2.1, (IntKind.wrap .i64 ((IntKind.wrap .i64 (y381.1.2.1 - y381.1.2.2.1)) * y441)))) else none))))) else none)) else (bif (s432.1 == 1) then (bif (s432.1 == 0) then (Option.bind (shape_Row ((gt in_ s432.1 dI4).1, (gt in_ s432.1 dI4).2.1, (gt in_ s432.1 dI4).2.2.1)) (fun y442 : Int => (bif (s432.1 == 0) then (some ((IntKind.wrap .i64 ((IntKind.wrap .i64 (y381.1.2.2.2 - y381.1.1)) * y442)), s432.2.2.1, s432.2.2.2)) else (bif (s432.1 == 1) then (some (s432.2.1, (IntKind.wrap .i64 ((IntKind.wrap .i64 (y381.1.2.2.2 - y381.1.1)) * y442)), s432.2.2.2)) else (bif (s432.1 == 2) then (some (s432.2.1, s432.2.2.1, (IntKind.wrap .i64 ((IntKind.wrap .i64 (y381.1.2.2.2 - y381.1.1)) * y442)))) else none))))) else (bif (s432.1 == 1) then (Option.bind (shape_Row ((gt in_ s432.1 dI4).1, (gt in_ s432.1 dI4).2.1, (gt in_ s432.1 dI4).2.2.1)) (fun y443 : Int => (bif (s432.1 == 0) then (some ((IntKind.wrap .i64 ((IntKind.wrap .i64 (y381.1.2.2.2 - y381.1.2.2.1)) * y443)), s432.2.2.1, s432.2.2.2)) else (bif (s432.1 == 1) then (some (s432.2.1, (IntKind.wrap .i64 ((IntKind.wrap .i64 (y381.1.2.2.2 - y381.1.2.2.1)) * y443)), s432.2.2.2)) else (bif (s432.1 == 2) then (some (s432.2.1, s432.2.2.1, (IntKind.wrap .i64 ((IntKind.wrap .i64 (y381.1.2.2.2 - y381.1.2.2.1)) * y443)))) else none))))) else none)) else none))
abbrev S43_6 : St := ⟨[(1, rl tsI4 in_), (3, ri rows), (4, rC tsNode n_), (8, rF 0), (10, rF 1), (12, rF 2), (29, rl tsI4 in_), (30, ri (in_.length : Int)), (31, ri s432.1)], [[di 0, di 0, di 0], (tsI4.leaves y381.1), (tsI3.leaves y444), []], [], 65⟩
theorem halo_Sizes_r8 : R43 C43.r.r.r.r.l.r.b.b.r.r.l.b.r (S43_5 n_ in_ rows y381 s432) q = Option.bind (halo_Sizes_r8_p in_ y381 s432) (fun y444 : (Int × Int × Int) => q .normal (S43_6 n_ in_ rows y381 s432 y444)) := .trans (by kernel_rfl) (bif_b (bif_b (bind_b fun y440 => (bif_b some_b (bif_b some_b (bif_b some_b none_b)))) (bif_b (bind_b fun y441 => (bif_b some_b (bif_b some_b (bif_b some_b none_b)))) none_b)) (bif_b (bif_b (bind_b fun y442 => (bif_b some_b (bif_b some_b (bif_b some_b none_b)))) (bif_b (bind_b fun y443 => (bif_b some_b (bif_b some_b (bif_b some_b none_b)))) none_b)) none_b))
theorem halo_Sizes_r9 : R43 C43.r.r.r.r.l.r.b.b.r.r.r (S43_6 n_ in_ rows y381 s432 y444) q = q .normal ⟨[(1, rl tsI4 in_), (3, ri rows), (4, rC tsNode n_), (8, rF 0), (10, rF 1), (12, rF 2), (29, rl tsI4 in_), (30, ri (in_.length : Int)), (31, ri (IntKind.wrap .i64 (s432.1 + 1)))], [[di 0, di 0, di 0], (tsI4.leaves y381.1), (tsI3.leaves y444), []], [], 65⟩ := by kernel_rfl
def halo_Sizes_l6_p : Option ((Int × Int × Int × Int) ⊕ (Int × Int × Int × Int)) := (bif (decide (s432.1 < (in_.length : Int))) then (Option.bind (halo_Sizes_r7_p in_ s432) (fun y439 : Unit => (Option.bind (halo_Sizes_r8_p in_ y381 s432) (fun y444 : (Int × Int × Int) => (some (Sum.inl ((IntKind.wrap .i64 (s432.1 + 1)), y444.1, y444.2.1, y444.2.2))))))) else (some (Sum.inr s432)))
abbrev S43_7 : St := ⟨[(1, rl tsI4 in_), (3, ri rows), (4, rC tsNode n_), (8, rF 0), (10, rF 1), (12, rF 2), (29, rl tsI4 in_), (30, ri (in_.length : Int)), (31, ri y445.1)], [[di 0, di 0, di 0], (tsI4.leaves y381.1), (tsI3.leaves y445.2)], [], 65⟩
theorem halo_Sizes_l6_b : R43 C43.r.r.r.r.l.r.b.b (S43_4 n_ in_ rows y381 s432) (loopKont 3 q) = Option.bind (halo_Sizes_l6_p in_ y381 s432) (either (fun y : (Int × Int × Int × Int) => q .normal ⟨[(1, rl tsI4 in_), (3, ri rows), (4, rC tsNode n_), (8, rF 0), (10, rF 1), (12, rF 2), (29, rl tsI4 in_), (30, ri (in_.length : Int)), (31, ri y.1)], [[di 0, di 0, di 0], (tsI4.leaves y381.1), (tsI3.leaves y.2)], [], 65⟩) (fun y445 : (Int × Int × Int × Int) => q (.exit 0) (S43_7 n_ in_ rows y381 y445))) := by
  refine .trans ?_ (bif_b (bind_b fun y439 => (bind_b fun y444 => e2_0)) e2_1)
  refine (pre1 (halo_Sizes_fzx1 n_ in_ rows y381 s432 _)).trans ?_
  refine .trans seq_push ?_
  refine (cond_e (b := (decide (s432.1 < (in_.length : Int)))) (st' := (S43_4 n_ in_ rows y381 s432)) ).trans (bif_g ?_ ?_)
  · refine (skip_eq).trans ?_
    refine (seqC_normal (st' := (S43_4 n_ in_ rows y381 s432))).trans ?_
    refine .trans seq_push ?_
    refine (block_push (id := 1)).trans ?_
    refine (pre1 (halo_Sizes_r7 n_ in_ rows y381 s432 _)).trans (bind_g fun y439 => ?_)
    refine (halo_Sizes_r8 n_ in_ rows y381 s432 _).trans (bind_g fun y444 => ?_)
    refine block_normal.trans ?_
    refine (seqC_normal (st' := (S43_6 n_ in_ rows y381 s432 y444))).trans ?_
    refine (halo_Sizes_r9 n_ in_ rows y381 s432 y444 _).trans ?_
    kernel_rfl
  · refine ((exit_eq (j := 0))).trans ?_
    refine seqC_exit.trans ?_
    kernel_rfl
theorem halo_Sizes_l6 : R43 C43.r.r.r.r.l.r.b (S43_3 n_ in_ rows y381) q = Option.bind (iterN (halo_Sizes_l6_p in_ y381) LL ((0 : Int), (0 : Int), (0 : Int), (0 : Int))) (fun y445 : (Int × Int × Int × Int) => q (.exit 0) (S43_7 n_ in_ rows y381 y445)) :=
  Eq.trans (by kernel_rfl) (loop_iter1 (S := fun s432 : (Int × Int × Int × Int) => (S43_4 n_ in_ rows y381 s432)) (Y1 := fun y445 : (Int × Int × Int × Int) => ((.exit 0), (S43_7 n_ in_ rows y381 y445))) (fun s q => halo_Sizes_l6_b n_ in_ rows y381 s q) (fun z => rfl) LL ((0 : Int), (0 : Int), (0 : Int), (0 : Int)))
abbrev S43_8 : St := ⟨[(1, rl tsI4 in_), (3, ri rows), (4, rC tsNode n_), (8, rF 0), (12, rF 2)], [[di 0, di 0, di 0], (tsI4.leaves y381.1), (tsI3.leaves y445.2)], [], 65⟩
abbrev S43_9 : St := ⟨[(3, ri rows), (8, rF 0), (12, rF 2), (15, rF 3)], [[di 0, di 0, di 0], (tsI4.leaves y381.1), (tsI3.leaves y445.2), (tsI4.leaves y446.1)], [], 65⟩
theorem halo_Sizes_r10 : P43 1 C43.r.r.r.r.r (S43_8 n_ in_ rows y381 y445) k = Option.bind (graph_Value n_ in_) fun y446 : (I4 × Int) => k (S43_9 rows y381 y445 y446) := by kernel_rfl
abbrev S43_10 : St := ⟨[(8, rF 0), (12, rF 2)], [[di 0, di 0, di 0], (tsI4.leaves y381.1), [di y445.2.1, di y445.2.2.1, di (IntKind.wrap .i64 (rows * y447))], []], [], 65⟩
theorem halo_Sizes_r11 : P43 1 C43.r.r.r.r.r.r (S43_9 rows y381 y445 y446) k = Option.bind (shape_Row (y446.1.1, y446.1.2.1, y446.1.2.2.1)) fun y447 : Int => k (S43_10 rows y381 y445 y447) := by kernel_rfl
theorem halo_Sizes_fzx2 : P43 1 C43.r.r.r.r.r.r.r (S43_10 rows y381 y445 y447) k = k ⟨[(8, rF 0), (9, ri 0)], [[di y445.2.1, di y445.2.2.1, di (IntKind.wrap .i64 (rows * y447))], (tsI4.leaves y381.1), [], []], [], 65⟩ := by kernel_rfl
/-- quilt/halo.Sizes -/
def halo_Sizes : Option (I3 × Int) := (Option.bind (kern_Needs n_ in_ first rows) (fun y381 : (I4 × Int) => (bif (y381.2 != 0) then (some (((0 : Int), (0 : Int), (0 : Int)), y381.2)) else (Option.bind (iterN (halo_Sizes_l6_p in_ y381) LL ((0 : Int), (0 : Int), (0 : Int), (0 : Int))) (fun y445 : (Int × Int × Int × Int) => (Option.bind (graph_Value n_ in_) (fun y446 : (I4 × Int) => (Option.bind (shape_Row (y446.1.1, y446.1.2.1, y446.1.2.2.1)) (fun y447 : Int => (some ((y445.2.1, y445.2.2.1, (IntKind.wrap .i64 (rows * y447))), (0 : Int))))))))))))
theorem halo_Sizes_is : stepS E cp43 noE 8 [rA tsNode n_, rl tsI4 in_, ri first, ri rows] = Option.bind (halo_Sizes n_ in_ first rows) (fun y : (I3 × Int) => some (.tup [rA tsI3 y.1, ri y.2] : R)) := by
  refine .trans ?_ (bind_b fun y381 => (bif_b some_b (bind_b fun y445 => (bind_b fun y446 => (bind_b fun y447 => some_b)))))
  refine (stepG_is (nt := 65) (regs := [(0, rA tsNode n_), (1, rl tsI4 in_), (2, ri first), (3, ri rows)])).trans ?_
  refine (pre2 (halo_Sizes_r1 n_ in_ first rows _)).trans (bind_g fun y381 => ?_)
  refine .trans seq_push ?_
  refine (pre1 (halo_Sizes_f1000003 n_ in_ rows y381 _)).trans ?_
  refine (cond_e (b := (y381.2 != 0)) (st' := (S43_0 n_ in_ rows y381)) ).trans (bif_g ?_ ?_)
  · refine (pre1 (halo_Sizes_fz n_ in_ rows y381 _)).trans ?_
    refine (ret_eq).trans ?_
    refine seqC_ret.trans ?_
    kernel_rfl
  · refine (skip_eq).trans ?_
    refine (seqC_normal (st' := (S43_1 n_ in_ rows y381))).trans ?_
    refine (pre1 (halo_Sizes_f5 n_ in_ rows y381 _)).trans ?_
    refine .trans seq_push ?_
    refine (pre1 (halo_Sizes_f6 n_ in_ rows y381 _)).trans ?_
    refine (block_push (id := 0)).trans ?_
    refine (halo_Sizes_l6 n_ in_ rows y381 _).trans (bind_g fun y445 => ?_)
    refine block_same.trans ?_
    refine (seqC_normal (st' := (S43_8 n_ in_ rows y381 y445))).trans ?_
    refine (pre1 (halo_Sizes_r10 n_ in_ rows y381 y445 _)).trans (bind_g fun y446 => ?_)
    refine (pre1 (halo_Sizes_r11 rows y381 y445 y446 _)).trans (bind_g fun y447 => ?_)
    refine (pre1 (halo_Sizes_fzx2 rows y381 y445 y447 _)).trans ?_
    refine (ret_eq).trans ?_
    kernel_rfl
noncomputable def cp44 : CallP := withC cp43 8 [(.agg tsNode), (pL tsI4), pI, pI] (.tup [(.agg tsI3), pI]) (fun y : (I3 × Int) => (y.1, y.2, ())) (fun x => halo_Sizes x.1 x.2.1 x.2.2.1 x.2.2.2.1)
theorem cp44_ok : PureOK E cp44 := conS eok cp43_ok noE_ok fun x => Eq.mp (by kernel_rfl) (halo_Sizes_is x.1 x.2.1 x.2.2.1 x.2.2.2.1)
end
noncomputable abbrev C44 := codeOf E.P 43
noncomputable abbrev P44 {α : Type} := @preK α E 43 cp44 noE
def ref03_Two_r1_q {β : Type} (op : Int) (K : Bool → β) : β := (bif (op == 6) then (K true) else (bif (op == 7) then (K true) else (K (op == 10))))
def ref03_Two_r1_p (op : Int) : Bool := ref03_Two_r1_q op (fun y => y)
theorem ref03_Two_r1_n {β : Type} (op : Int) (K : Bool → β) : ref03_Two_r1_q op K = K (ref03_Two_r1_p op) := (bif_k K rfl (bif_k K rfl rfl))
theorem ref03_Two_r1 {α : Type} (op : Int) (k : St → Option α) : P44 2 C44 ⟨[(0, ri op)], [], [], 13⟩ k = k ⟨[(2, rb (ref03_Two_r1_p op))], [], [], 13⟩ := Eq.trans (by kernel_rfl) (ref03_Two_r1_n op (fun y452 : Bool => k ⟨[(2, rb y452)], [], [], 13⟩))
/-- quilt/quiltref03.Two -/
def ref03_Two_q {β : Type} (op : Int) (K : Bool → β) : β := (K (ref03_Two_r1_p op))
def ref03_Two (op : Int) : Bool := ref03_Two_q op (fun y => y)
theorem ref03_Two_n {β : Type} (op : Int) (K : Bool → β) : ref03_Two_q op K = K (ref03_Two op) := rfl
theorem ref03_Two_is (op : Int) : stepS E cp44 noE 43 [ri op] = (fun y : Bool => some (rb y : R)) (ref03_Two op) := by
  refine Eq.trans ?_ (ref03_Two_n op (fun y : Bool => some (rb y : R)))
  refine (stepG_is (nt := 13) (regs := [(0, ri op)])).trans ?_
  unfold ref03_Two_q
  refine (pre2 (ref03_Two_r1 op _)).trans ?_
  refine (ret_eq).trans ?_
  kernel_rfl
noncomputable def cp45 : CallP := withC cp44 43 [pI] (.one pB) (fun y : Bool => y) (fun x => some (ref03_Two x.1))
theorem cp45_ok : PureOK E cp45 := conS eok cp44_ok noE_ok fun x => Eq.mp (by kernel_rfl) (ref03_Two_is x.1)
end Go.V.P
