/- What functions compute. -/
import Derived.Test.YtcmckbcpeocokaaGb2
namespace Go.V.P
open Go.RowKit Go.V Go.Proofs
set_option linter.unusedVariables false
set_option maxRecDepth 100000
def ref03_Two_r1_q {β : Type} (op : Int) (K : Bool → β) : β := (bif (op == 6) then (K true) else (bif (op == 7) then (K true) else (K (op == 10))))
def ref03_Two_r1_p (op : Int) : Bool := ref03_Two_r1_q op (fun y => y)
/-- quilt/quiltref03.Two -/
def ref03_Two_q {β : Type} (op : Int) (K : Bool → β) : β := (K (ref03_Two_r1_p op))
def ref03_Two (op : Int) : Bool := ref03_Two_q op (fun y => y)
def ref03_Window_r1_q {β : Type} (op : Int) (K : Bool → β) : β := (bif (decide (op ≥ 1)) then (bif (decide (op ≤ 5)) then (K (op != 3)) else (K false)) else (K false))
def ref03_Window_r1_p (op : Int) : Bool := ref03_Window_r1_q op (fun y => y)
/-- quilt/quiltref03.Window -/
def ref03_Window_q {β : Type} (op : Int) (K : Bool → β) : β := (K (ref03_Window_r1_p op))
def ref03_Window (op : Int) : Bool := ref03_Window_q op (fun y => y)
section
variable {α β : Type} (x_ : Int) (low : Int) (high : Int) (k : St → Option α)
def ref03_in_r1_q (K : Bool → β) : β := (bif (decide (x_ ≥ low)) then (K (decide (x_ ≤ high))) else (K false))
def ref03_in_r1_p : Bool := ref03_in_r1_q x_ low high (fun y => y)
/-- quilt/quiltref03.in -/
def ref03_in_q (K : Bool → β) : β := (K (ref03_in_r1_p x_ low high))
def ref03_in : Bool := ref03_in_q x_ low high (fun y => y)
end
section
variable {α β : Type} (n_ : Node) (many : Int) (k : St → Option α) (q : Kont α)
def ref03_node_j2_q (K : Int → β) : β := (bif (ref03_Two n_.1) then (K (2 : Int)) else (K (1 : Int)))
def ref03_node_j2_p : Int := ref03_node_j2_q n_ (fun y => y)
def ref03_node_r4_q (K : Bool → β) : β := (bif (n_.2.2.1 == 0) then (K (n_.2.2.2.1 == 0)) else (K false))
def ref03_node_r4_p : Bool := ref03_node_r4_q n_ (fun y => y)
def ref03_node_r6_q (K : Bool → β) : β := (bif (ref03_in n_.2.2.1 (1 : Int) (3 : Int)) then (K (ref03_in n_.2.2.2.1 (1 : Int) (2 : Int))) else (K false))
def ref03_node_r6_p : Bool := ref03_node_r6_q n_ (fun y => y)
def ref03_node_j5_q (K : Bool → β) : β := (bif (ref03_Window n_.1) then (K (ref03_node_r6_p n_)) else (K (ref03_node_r4_p n_)))
def ref03_node_j5_p : Bool := ref03_node_j5_q n_ (fun y => y)
def ref03_node_r8_q (K : Bool → β) : β := (bif (n_.1 == 1) then (K true) else (K (n_.1 == 2)))
def ref03_node_r8_p : Bool := ref03_node_r8_q n_ (fun y => y)
def ref03_node_r9_q (K : Bool → β) : β := (bif (ref03_in n_.2.2.2.2.1 (0 : Int) (1 : Int)) then (K (decide (n_.2.2.2.2.1 < n_.2.2.1))) else (K false))
def ref03_node_r9_p : Bool := ref03_node_r9_q n_ (fun y => y)
def ref03_node_j8_q (K : Bool → β) : β := (bif (ref03_node_r8_p n_) then (K (ref03_node_r9_p n_)) else (K (n_.2.2.2.2.1 == 0)))
def ref03_node_j8_p : Bool := ref03_node_j8_q n_ (fun y => y)
def ref03_node_j10_q (K : Bool → β) : β := (bif (n_.1 == 9) then (K (n_.2.2.2.2.1 == 1)) else (K (ref03_node_j8_p n_)))
def ref03_node_j10_p : Bool := ref03_node_j10_q n_ (fun y => y)
def ref03_node_r13_q (K : Bool → β) : β := (bif (n_.1 == 1) then (K true) else (K (n_.1 == 3)))
def ref03_node_r13_p : Bool := ref03_node_r13_q n_ (fun y => y)
def ref03_node_j13_q (K : Bool → β) : β := (bif (ref03_node_r13_p n_) then (K (ref03_in n_.2.2.2.2.2.1 (1 : Int) (8 : Int))) else (K (n_.2.2.2.2.2.1 == 0)))
def ref03_node_j13_p : Bool := ref03_node_j13_q n_ (fun y => y)
def ref03_node_r15_q (K : Bool → β) : β := (bif ((n_.2.2.2.2.2.2.2.2.2.1 == 0) && ((n_.2.2.2.2.2.2.2.2.2.2.1 == 0) && ((n_.2.2.2.2.2.2.2.2.2.2.2.1 == 0) && true))) then (K true) else (K (n_.1 == 11)))
def ref03_node_r15_p : Bool := ref03_node_r15_q n_ (fun y => y)
def ref03_node_r16_q (K : Bool → β) : β := (bif (ref03_in n_.2.2.2.2.2.2.1 (1 : Int) (32767 : Int)) then (bif (ref03_in n_.2.2.2.2.2.2.2.1 (0 : Int) (31 : Int)) then (K (ref03_in n_.2.2.2.2.2.2.2.2.1 (-128 : Int) (127 : Int))) else (K false)) else (K false))
def ref03_node_r16_p : Bool := ref03_node_r16_q n_ (fun y => y)
def ref03_node_r17_q (K : Bool → β) : β := (bif (ref03_in n_.1 (1 : Int) (12 : Int)) then (bif (many == (ref03_node_j2_p n_)) then (bif (ref03_node_j5_p n_) then (bif (ref03_node_j10_p n_) then (bif (ref03_node_j13_p n_) then (bif (ref03_node_r15_p n_) then (K (ref03_node_r16_p n_)) else (K false)) else (K false)) else (K false)) else (K false)) else (K false)) else (K false))
def ref03_node_r17_p : Bool := ref03_node_r17_q n_ many (fun y => y)
/-- quilt/quiltref03.node -/
def ref03_node_q (K : Bool → β) : β := (K (ref03_node_r17_p n_ many))
def ref03_node : Bool := ref03_node_q n_ many (fun y => y)
end
def ref03_keeps_r1_q {β : Type} (op : Int) (K : Bool → β) : β := (bif (op == 4) then (K true) else (bif (op == 5) then (K true) else (bif (op == 8) then (K true) else (bif (op == 9) then (K true) else (bif (op == 10) then (K true) else (K (op == 11)))))))
def ref03_keeps_r1_p (op : Int) : Bool := ref03_keeps_r1_q op (fun y => y)
/-- quilt/quiltref03.keeps -/
def ref03_keeps_q {β : Type} (op : Int) (K : Bool → β) : β := (K (ref03_keeps_r1_p op))
def ref03_keeps (op : Int) : Bool := ref03_keeps_q op (fun y => y)
def ref02_May_r1_q {β : Type} (s_ : I3) (K : Bool → β) : β := (bif (decide (s_.1 < 1)) then (K true) else (bif (decide (s_.1 > 16)) then (K true) else (bif (decide (s_.2.1 < 1)) then (K true) else (bif (decide (s_.2.1 > 16)) then (K true) else (bif (decide (s_.2.2 < 1)) then (K true) else (K (decide (s_.2.2 > 8))))))))
def ref02_May_r1_p (s_ : I3) : Bool := ref02_May_r1_q s_ (fun y => y)
/-- quilt/quiltref02.May -/
def ref02_May_q {β : Type} (s_ : I3) (K : Int → β) : β := (bif (ref02_May_r1_p s_) then (K (10 : Int)) else (K (0 : Int)))
def ref02_May (s_ : I3) : Int := ref02_May_q s_ (fun y => y)
section
variable {α β : Type} (size : Int) (k_ : Int) (stride : Int) (pad : Int) (s786 : (Int × Int)) (y787 : (Int × Int)) (k : St → Option α) (q : Kont α)
def ref02_Out_r1_q (K : Bool → β) : β := (bif (decide (size < 1)) then (K true) else (bif (decide (size > 64)) then (K true) else (bif (decide (k_ < 1)) then (K true) else (bif (decide (k_ > 16)) then (K true) else (bif (decide (stride < 1)) then (K true) else (bif (decide (stride > 16)) then (K true) else (bif (decide (pad < 0)) then (K true) else (K (decide (pad > 16))))))))))
def ref02_Out_r1_p : Bool := ref02_Out_r1_q size k_ stride pad (fun y => y)
def ref02_Out_l5_p : Option ((Int × Int) ⊕ (Int × Int)) := (bif (decide ((IntKind.wrap .i64 (s786.2 + k_)) ≤ (IntKind.wrap .i64 (size + pad)))) then (some (Sum.inl ((IntKind.wrap .i64 (s786.1 + 1)), (IntKind.wrap .i64 (s786.2 + stride))))) else (some (Sum.inr s786)))
/-- quilt/quiltref02.Out -/
def ref02_Out : Option Int := (bif (ref02_Out_r1_p size k_ stride pad) then (some (0 : Int)) else (Option.bind (iterN (ref02_Out_l5_p size k_ stride pad) LL ((0 : Int), (IntKind.wrap .i64 (0 - pad)))) (fun y787 : (Int × Int) => (some y787.1))))
end
/-- quilt/quiltref02.Size -/
def ref02_Size_q {β : Type} (s_ : I3) (K : Int → β) : β := (bif ((ref02_May s_) != 0) then (K (0 : Int)) else (K (IntKind.wrap .i64 ((IntKind.wrap .i64 (s_.1 * s_.2.1)) * s_.2.2))))
def ref02_Size (s_ : I3) : Int := ref02_Size_q s_ (fun y => y)
section
variable {α β : Type} (n_ : Node) (l_ : (List I4)) (k : St → Option α) (q : Kont α)
def ref03_made_r1_p : Option Unit := (bif (decide ((0 : Int) < (l_.length : Int))) then (some ()) else none)
def ref03_made_j3_q (K : Bool → β) : β := (bif (n_.1 == 1) then (K (n_.1 == 1)) else (bif (n_.1 == 2) then (K (n_.1 == 2)) else (bif (n_.1 == 4) then (K (n_.1 == 4)) else (K (n_.1 == 5)))))
def ref03_made_j3_p : Bool := ref03_made_j3_q n_ (fun y => y)
def ref03_made_j8_q (K : Int → β) : β := (bif (n_.1 == 1) then (K n_.2.2.2.2.2.1) else (K ((gt l_ (0 : Int) dI4).2.2.1)))
def ref03_made_j8_p : Int := ref03_made_j8_q n_ l_ (fun y => y)
def ref03_made_r10_p : Option (Int × Int) := (Option.bind (ref02_Out ((gt l_ (0 : Int) dI4).1) n_.2.2.1 n_.2.2.2.1 n_.2.2.2.2.1) (fun y788 : Int => (Option.bind (ref02_Out ((gt l_ (0 : Int) dI4).2.1) n_.2.2.1 n_.2.2.2.1 n_.2.2.2.2.1) (fun y789 : Int => (some (y788, y789))))))
def ref03_made_j13_q (K : Bool → β) : β := (bif (n_.1 == 6) then (K (n_.1 == 6)) else (K (n_.1 == 7)))
def ref03_made_j13_p : Bool := ref03_made_j13_q n_ (fun y => y)
def ref03_made_r15_p : Option Bool := (bif (decide ((1 : Int) < (l_.length : Int))) then (some (!((((gt l_ (1 : Int) dI4).1) == ((gt l_ (0 : Int) dI4).1)) && ((((gt l_ (1 : Int) dI4).2.1) == ((gt l_ (0 : Int) dI4).2.1)) && ((((gt l_ (1 : Int) dI4).2.2.1) == ((gt l_ (0 : Int) dI4).2.2.1)) && true))))) else none)
def ref03_made_r20_p : Option Bool := (bif (decide ((1 : Int) < (l_.length : Int))) then (bif (((gt l_ (1 : Int) dI4).1) != ((gt l_ (0 : Int) dI4).1)) then (some true) else (bif (decide ((1 : Int) < (l_.length : Int))) then (some (((gt l_ (1 : Int) dI4).2.1) != ((gt l_ (0 : Int) dI4).2.1))) else none)) else none)
def ref03_made_r22_p : Option Unit := (bif (decide ((1 : Int) < (l_.length : Int))) then (some ()) else none)
def ref03_made_r24_q (K : Bool → β) : β := (K ((ref02_Size (n_.2.2.2.2.2.2.2.2.2.1, n_.2.2.2.2.2.2.2.2.2.2.1, n_.2.2.2.2.2.2.2.2.2.2.2.1)) != (ref02_Size ((gt l_ (0 : Int) dI4).1, (gt l_ (0 : Int) dI4).2.1, (gt l_ (0 : Int) dI4).2.2.1))))
def ref03_made_r24_p : Bool := ref03_made_r24_q n_ l_ (fun y => y)
def ref03_made_j2_p : Option (Unit ⊕ (Int × Int × Int)) := (bif (ref03_made_j3_p n_) then (Option.bind (ref03_made_r10_p n_ l_) (fun y790 : (Int × Int) => (some (Sum.inr (y790.1, y790.2, (ref03_made_j8_p n_ l_)))))) else (bif (n_.1 == 3) then (some (Sum.inr ((1 : Int), (1 : Int), n_.2.2.2.2.2.1))) else (bif (ref03_made_j13_p n_) then (Option.bind (ref03_made_r15_p l_) (fun y792 : Bool => (bif y792 then (some (Sum.inr ((0 : Int), (0 : Int), (0 : Int)))) else (some (Sum.inl ()))))) else (bif (n_.1 == 9) then (some (Sum.inr ((IntKind.wrap .i64 (((gt l_ (0 : Int) dI4).1) + 2)), (IntKind.wrap .i64 (((gt l_ (0 : Int) dI4).2.1) + 2)), (gt l_ (0 : Int) dI4).2.2.1))) else (bif (n_.1 == 10) then (Option.bind (ref03_made_r20_p l_) (fun y794 : Bool => (bif y794 then (some (Sum.inr ((0 : Int), (0 : Int), (0 : Int)))) else (Option.bind (ref03_made_r22_p l_) (fun y795 : Unit => (some (Sum.inr ((gt l_ (0 : Int) dI4).1, (gt l_ (0 : Int) dI4).2.1, (IntKind.wrap .i64 (((gt l_ (0 : Int) dI4).2.2.1) + ((gt l_ (1 : Int) dI4).2.2.1))))))))))) else (bif (n_.1 == 11) then (bif (ref03_made_r24_p n_ l_) then (some (Sum.inr ((0 : Int), (0 : Int), (0 : Int)))) else (some (Sum.inr (n_.2.2.2.2.2.2.2.2.2.1, n_.2.2.2.2.2.2.2.2.2.2.1, n_.2.2.2.2.2.2.2.2.2.2.2.1)))) else (some (Sum.inl ()))))))))
/-- quilt/quiltref03.made -/
def ref03_made : Option I3 := (Option.bind (ref03_made_r1_p l_) (fun y773 : Unit => (Option.bind (ref03_made_j2_p n_ l_) (either (fun y798 : Unit => (some ((gt l_ (0 : Int) dI4).1, (gt l_ (0 : Int) dI4).2.1, (gt l_ (0 : Int) dI4).2.2.1))) (fun y799 : (Int × Int × Int) => (some y799))))))
end
section
variable {α β : Type} (n_ : Node) (s_ : I3) (k : St → Option α)
def ref03_many_r3_q (K : Int → β) : β := (K (IntKind.wrap .i64 ((IntKind.wrap .i64 ((IntKind.wrap .i64 (n_.2.2.1 * n_.2.2.1)) * s_.2.2)) * n_.2.2.2.2.2.1)))
def ref03_many_r3_p : Int := ref03_many_r3_q n_ s_ (fun y => y)
/-- quilt/quiltref03.many -/
def ref03_many_q (K : (Int × Int) → β) : β := (bif (n_.1 == 1) then (K ((ref03_many_r3_p n_ s_), n_.2.2.2.2.2.1)) else (bif (n_.1 == 2) then (K ((IntKind.wrap .i64 ((IntKind.wrap .i64 (n_.2.2.1 * n_.2.2.1)) * s_.2.2)), s_.2.2)) else (bif (n_.1 == 3) then (K ((IntKind.wrap .i64 ((ref02_Size s_) * n_.2.2.2.2.2.1)), n_.2.2.2.2.2.1)) else (bif (n_.1 == 12) then (K ((256 : Int), (0 : Int))) else (K ((0 : Int), (0 : Int)))))))
def ref03_many : (Int × Int) := ref03_many_q n_ s_ (fun y => y)
end
section
variable {α β : Type} (n_ : Node) (l_ : (List I4)) (s750 : Int) (s768 : Int) (y800 : I3) (y803 : (Int × Int)) (s817 : Int) (k : St → Option α) (q : Kont α)
def ref03_Value_r6_p : Option Bool := (bif (ref03_keeps n_.1) then (bif (decide ((0 : Int) ≤ s750)) then (bif (decide (s750 < (l_.length : Int))) then (some (((gt l_ s750 dI4).2.2.2) != n_.2.2.2.2.2.2.2.2.1)) else none) else none) else (some false))
def ref03_Value_l4_p : Option (Int ⊕ (Int ⊕ Unit)) := (bif (decide (s750 < (l_.length : Int))) then (Option.bind (ref03_Value_r6_p n_ l_ s750) (fun y752 : Bool => (bif y752 then (some (Sum.inr (Sum.inr ()))) else (some (Sum.inl (IntKind.wrap .i64 (s750 + 1))))))) else (some (Sum.inr (Sum.inl s750))))
def ref03_Value_r11_p : Option Bool := (bif (decide ((0 : Int) ≤ s768)) then (bif (decide (s768 < (l_.length : Int))) then (some ((ref02_May ((gt l_ s768 dI4).1, (gt l_ s768 dI4).2.1, (gt l_ s768 dI4).2.2.1)) != 0)) else none) else none)
def ref03_Value_l9_p : Option (Int ⊕ (Int ⊕ Unit)) := (bif (decide (s768 < (l_.length : Int))) then (Option.bind (ref03_Value_r11_p l_ s768) (fun y770 : Bool => (bif y770 then (some (Sum.inr (Sum.inr ()))) else (some (Sum.inl (IntKind.wrap .i64 (s768 + 1))))))) else (some (Sum.inr (Sum.inl s768))))
def ref03_Value_r16_p : Option (Int × Int) := (bif (decide ((0 : Int) < (l_.length : Int))) then (some (ref03_many n_ ((gt l_ (0 : Int) dI4).1, (gt l_ (0 : Int) dI4).2.1, (gt l_ (0 : Int) dI4).2.2.1))) else none)
def ref03_Value_r17_q (K : Bool → β) : β := (bif ((n_.2.2.2.2.2.2.2.2.2.2.2.2.1.length : Int) != y803.1) then (K true) else (K ((n_.2.2.2.2.2.2.2.2.2.2.2.2.2.length : Int) != y803.2)))
def ref03_Value_r17_p : Bool := ref03_Value_r17_q n_ y803 (fun y => y)
def ref03_Value_r22_p : Option Bool := (bif (decide ((0 : Int) ≤ s817)) then (bif (decide (s817 < (n_.2.2.2.2.2.2.2.2.2.2.2.2.2.length : Int))) then (some (!(ref03_in (IntKind.wrap .i64 (gt n_.2.2.2.2.2.2.2.2.2.2.2.2.2 s817 (0 : Int))) (-16777216 : Int) (16777216 : Int)))) else none) else none)
def ref03_Value_l20_p : Option (Int ⊕ (Int ⊕ Unit)) := (bif (decide (s817 < (n_.2.2.2.2.2.2.2.2.2.2.2.2.2.length : Int))) then (Option.bind (ref03_Value_r22_p n_ s817) (fun y819 : Bool => (bif y819 then (some (Sum.inr (Sum.inr ()))) else (some (Sum.inl (IntKind.wrap .i64 (s817 + 1))))))) else (some (Sum.inr (Sum.inl s817))))
/-- quilt/quiltref03.Value -/
def ref03_Value : Option (I4 × Int) := (bif (!(ref03_node n_ (l_.length : Int))) then (some (((0 : Int), (0 : Int), (0 : Int), (0 : Int)), (11 : Int))) else (Option.bind (iterN (ref03_Value_l4_p n_ l_) LL (0 : Int)) (either (fun y753 : Int => (Option.bind (iterN (ref03_Value_l9_p l_) LL (0 : Int)) (either (fun y771 : Int => (Option.bind (ref03_made n_ l_) (fun y800 : I3 => (bif ((ref02_May y800) != 0) then (some (((0 : Int), (0 : Int), (0 : Int), (0 : Int)), (10 : Int))) else (Option.bind (ref03_Value_r16_p n_ l_) (fun y803 : (Int × Int) => (bif (ref03_Value_r17_p n_ y803) then (some (((0 : Int), (0 : Int), (0 : Int), (0 : Int)), (12 : Int))) else (Option.bind (iterN (ref03_Value_l20_p n_) LL (0 : Int)) (either (fun y820 : Int => (some ((y800.1, y800.2.1, y800.2.2, n_.2.2.2.2.2.2.2.2.1), (0 : Int)))) (fun y821 : Unit => (some (((0 : Int), (0 : Int), (0 : Int), (0 : Int)), (12 : Int))))))))))))) (fun y772 : Unit => (some (((0 : Int), (0 : Int), (0 : Int), (0 : Int)), (10 : Int))))))) (fun y754 : Unit => (some (((0 : Int), (0 : Int), (0 : Int), (0 : Int)), (11 : Int)))))))
end
end Go.V.P
