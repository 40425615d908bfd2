/- What functions compute. -/
import Derived.Test.YtadljnfiehmmgaaTi5
namespace Go.V.P
open Go.RowKit Go.V Go.Proofs
set_option linter.unusedVariables false
set_option maxRecDepth 100000
section
variable {α β : Type} (n_ : Node) (in_ : (List I4)) (rows : Int) (y1176 : (Int × Int)) (y1177 : (I3 × Int)) (k : St → Option α)
noncomputable abbrev C70 := codeOf E.P 19
noncomputable abbrev P70 := @preK α E 19 cp69 ce1
abbrev S70_0 : St := ⟨[(1, rl tsI4 in_), (2, ri rows), (3, rC tsNode n_), (6, rF 0), (8, ri y1176.1), (9, ri y1176.2)], [[di 0, di 0, di 0, di 0, di 0, di 0, di 0]], [], 63⟩
theorem ref16_Bufs_r1 : P70 2 C70 ⟨[(0, rA tsNode n_), (1, rl tsI4 in_), (2, ri rows)], [], [], 63⟩ k = Option.bind (ref16_Need n_ in_ rows) fun y1176 : (Int × Int) => k (S70_0 n_ in_ rows y1176) := by kernel_rfl
theorem ref16_Bufs_f1000003 : P70 1 C70.r.r.l (S70_0 n_ in_ rows y1176) k = k ⟨[(1, rl tsI4 in_), (2, ri rows), (3, rC tsNode n_), (6, rF 0), (8, ri y1176.1), (9, ri y1176.2), (23, rb (y1176.2 != 0))], [[di 0, di 0, di 0, di 0, di 0, di 0, di 0]], [], 63⟩ := by kernel_rfl
theorem ref16_Bufs_fz : P70 1 C70.r.r.l.r.t (S70_0 n_ in_ rows y1176) k = k ⟨[(6, rF 0), (7, ri y1176.2)], [[di 0, di 0, di 0, di 0, di 0, di 0, di 0]], [], 63⟩ := by kernel_rfl
abbrev S70_1 : St := ⟨[(1, rl tsI4 in_), (2, ri rows), (3, rC tsNode n_), (6, rF 0), (8, ri y1176.1)], [[di 0, di 0, di 0, di 0, di 0, di 0, di 0]], [], 63⟩
theorem ref16_Bufs_f1000005 : P70 1 C70.r.r.r.l (S70_1 n_ in_ rows y1176) k = k ⟨[(1, rl tsI4 in_), (2, ri rows), (3, rC tsNode n_), (6, rF 0), (8, ri y1176.1), (27, rb (decide (y1176.1 > 1024)))], [[di 0, di 0, di 0, di 0, di 0, di 0, di 0]], [], 63⟩ := by kernel_rfl
theorem ref16_Bufs_fzx1 : P70 1 C70.r.r.r.l.r.t (S70_1 n_ in_ rows y1176) k = k ⟨[(6, rF 0), (7, ri 26)], [[di 0, di 0, di 0, di 0, di 0, di 0, di 0]], [], 63⟩ := by kernel_rfl
abbrev S70_2 : St := ⟨[(6, rF 0), (8, ri y1176.1), (10, rF 1)], [[di 0, di 0, di 0, di 0, di 0, di 0, di 0], (tsI3.leaves y1177.1)], [], 63⟩
theorem ref16_Bufs_r6 : P70 1 C70.r.r.r.r (S70_1 n_ in_ rows y1176) k = Option.bind (ref15_Most n_ in_ rows) fun y1177 : (I3 × Int) => k (S70_2 y1176 y1177) := by kernel_rfl
def ref16_Bufs_r9_q (K : Int → β) : β := (K (IntKind.wrap .i64 ((IntKind.wrap .i64 ((2 : Int) * y1177.1.1)) + (IntKind.wrap .i64 ((2 : Int) * y1177.1.2.1)))))
def ref16_Bufs_r9_p : Int := ref16_Bufs_r9_q y1177 (fun y => y)
theorem ref16_Bufs_r9_n (K : Int → β) : ref16_Bufs_r9_q y1177 K = K (ref16_Bufs_r9_p y1177) := rfl
abbrev S70_3 : St := ⟨[(6, rF 0), (8, ri y1176.1), (10, rF 1), (12, ri y1177.1.1), (13, ri y1177.1.2.1), (14, ri (ref16_Bufs_r9_p y1177))], [[di 0, di 0, di 0, di 0, di 0, di 0, di 0], (tsI3.leaves y1177.1)], [], 63⟩
theorem ref16_Bufs_r9 : P70 3 C70.r.r.r.r.r (S70_2 y1176 y1177) k = k (S70_3 y1176 y1177) := Eq.trans (by kernel_rfl) (ref16_Bufs_r9_n y1177 (fun y1178 : Int => k ⟨[(6, rF 0), (8, ri y1176.1), (10, rF 1), (12, ri y1177.1.1), (13, ri y1177.1.2.1), (14, ri y1178)], [[di 0, di 0, di 0, di 0, di 0, di 0, di 0], (tsI3.leaves y1177.1)], [], 63⟩))
theorem ref16_Bufs_fzx2 : P70 1 C70.r.r.r.r.r.r.r.r (S70_3 y1176 y1177) k = k ⟨[(6, rF 0), (7, ri 0)], [[di 0, di y1177.1.1, di (IntKind.wrap .i64 ((2 : Int) * y1177.1.1)), di (IntKind.wrap .i64 ((IntKind.wrap .i64 ((2 : Int) * y1177.1.1)) + y1177.1.2.1)), di (ref16_Bufs_r9_p y1177), di (IntKind.wrap .i64 ((ref16_Bufs_r9_p y1177) + y1177.1.2.2)), di y1176.1], []], [], 63⟩ := by kernel_rfl
/-- quilt/quiltref16.Bufs -/
def ref16_Bufs : Option (I7 × Int) := (Option.bind (ref16_Need n_ in_ rows) (fun y1176 : (Int × Int) => (bif (y1176.2 != 0) then (some (((0 : Int), (0 : Int), (0 : Int), (0 : Int), (0 : Int), (0 : Int), (0 : Int)), y1176.2)) else (bif (decide (y1176.1 > 1024)) then (some (((0 : Int), (0 : Int), (0 : Int), (0 : Int), (0 : Int), (0 : Int), (0 : Int)), (26 : Int))) else (Option.bind (ref15_Most n_ in_ rows) (fun y1177 : (I3 × Int) => (some (((0 : Int), y1177.1.1, (IntKind.wrap .i64 ((2 : Int) * y1177.1.1)), (IntKind.wrap .i64 ((IntKind.wrap .i64 ((2 : Int) * y1177.1.1)) + y1177.1.2.1)), (ref16_Bufs_r9_p y1177), (IntKind.wrap .i64 ((ref16_Bufs_r9_p y1177) + y1177.1.2.2)), y1176.1), (0 : Int)))))))))
theorem ref16_Bufs_is : stepS E cp69 ce1 19 [rA tsNode n_, rl tsI4 in_, ri rows] = Option.bind (ref16_Bufs n_ in_ rows) (fun y : (I7 × Int) => some (.tup [rA tsI7 y.1, ri y.2] : R)) := by
  refine .trans ?_ (bind_b fun y1176 => (bif_b some_b (bif_b some_b (bind_b fun y1177 => some_b))))
  refine (stepG_is (nt := 63) (regs := [(0, rA tsNode n_), (1, rl tsI4 in_), (2, ri rows)])).trans ?_
  refine (pre2 (ref16_Bufs_r1 n_ in_ rows _)).trans (bind_g fun y1176 => ?_)
  refine .trans seq_push ?_
  refine (pre1 (ref16_Bufs_f1000003 n_ in_ rows y1176 _)).trans ?_
  refine (cond_e (b := (y1176.2 != 0)) (st' := (S70_0 n_ in_ rows y1176)) ).trans (bif_g ?_ ?_)
  · refine (pre1 (ref16_Bufs_fz n_ in_ rows y1176 _)).trans ?_
    refine (ret_eq).trans ?_
    refine seqC_ret.trans ?_
    kernel_rfl
  · refine (skip_eq).trans ?_
    refine (seqC_normal (st' := (S70_1 n_ in_ rows y1176))).trans ?_
    refine .trans seq_push ?_
    refine (pre1 (ref16_Bufs_f1000005 n_ in_ rows y1176 _)).trans ?_
    refine (cond_e (b := (decide (y1176.1 > 1024))) (st' := (S70_1 n_ in_ rows y1176)) ).trans (bif_g ?_ ?_)
    · refine (pre1 (ref16_Bufs_fzx1 n_ in_ rows y1176 _)).trans ?_
      refine (ret_eq).trans ?_
      refine seqC_ret.trans ?_
      kernel_rfl
    · refine (skip_eq).trans ?_
      refine (seqC_normal (st' := (S70_1 n_ in_ rows y1176))).trans ?_
      refine (pre1 (ref16_Bufs_r6 n_ in_ rows y1176 _)).trans (bind_g fun y1177 => ?_)
      refine (pre3 (ref16_Bufs_r9 y1176 y1177 _)).trans ?_
      refine (pre1 (ref16_Bufs_fzx2 y1176 y1177 _)).trans ?_
      refine (ret_eq).trans ?_
      kernel_rfl
noncomputable def cp70 : CallP := withC cp69 19 [(.agg tsNode), (pL tsI4), pI] (.tup [(.agg tsI7), pI]) (fun y : (I7 × Int) => (y.1, y.2, ())) (fun x => ref16_Bufs x.1 x.2.1 x.2.2.1)
theorem cp70_ok : PureOK E cp70 := conS eok cp69_ok ce1_ok fun x => Eq.mp (by kernel_rfl) (ref16_Bufs_is x.1 x.2.1 x.2.2.1)
end
section
variable {α β : Type} (n_ : Node) (in_ : (List I4)) (rows : Int) (y741 : Bool) (y742 : Node) (y743 : (List I4)) (y744 : (Int × Int)) (y1095 : (Int × Int)) (y1096 : (Int × Int)) (y1128 : (Int × Int)) (y1175 : (I7 × Int)) (y1179 : (I7 × Int)) (k : St → Option α)
noncomputable abbrev C71 := codeOf E.P 4
noncomputable abbrev P71 := @preK α E 4 cp70 ce1
abbrev S71_0 : St := ⟨[(1, rl tsI4 in_), (2, ri rows), (3, rF 0), (7, rb y741)], [(tsNode.leaves n_)], [], 96⟩
theorem law16_TileAll_r1 : P71 2 C71 ⟨[(0, rA tsNode n_), (1, rl tsI4 in_), (2, ri rows)], [], [], 96⟩ k = Option.bind law16_shown fun y741 : Bool => k (S71_0 n_ in_ rows y741) := by kernel_rfl
abbrev S71_1 : St := ⟨[(1, rl tsI4 in_), (2, ri rows), (3, rF 0), (7, rb y741)], [(tsNode.leaves y742)], [], 96⟩
theorem law16_TileAll_r2 : P71 1 C71.r.r (S71_0 n_ in_ rows y741) k = Option.bind (law16_few n_) fun y742 : Node => k (S71_1 in_ rows y741 y742) := by kernel_rfl
abbrev S71_2 : St := ⟨[(1, rl tsI4 y743), (2, ri rows), (3, rF 0), (7, rb y741)], [(tsNode.leaves y742)], [], 96⟩
theorem law16_TileAll_r3 : P71 1 C71.r.r.r (S71_1 in_ rows y741 y742) k = Option.bind (law16_some in_) fun y743 : (List I4) => k (S71_2 rows y741 y742 y743) := by kernel_rfl
abbrev S71_3 : St := ⟨[(1, rl tsI4 y743), (2, ri rows), (3, rF 0), (7, rb y741), (8, ri y744.1), (9, ri y744.2)], [(tsNode.leaves y742)], [], 96⟩
theorem law16_TileAll_r4 : P71 1 C71.r.r.r.r (S71_2 rows y741 y742 y743) k = Option.bind (tile_Need y742 y743 rows) fun y744 : (Int × Int) => k (S71_3 rows y741 y742 y743 y744) := by kernel_rfl
abbrev S71_4 : St := ⟨[(1, rl tsI4 y743), (2, ri rows), (3, rF 0), (7, rb y741), (8, ri y744.1), (9, ri y744.2), (10, ri y1095.1), (11, ri y1095.2)], [(tsNode.leaves y742)], [], 96⟩
theorem law16_TileAll_r5 : P71 1 C71.r.r.r.r.r (S71_3 rows y741 y742 y743 y744) k = Option.bind (ref16_Need y742 y743 rows) fun y1095 : (Int × Int) => k (S71_4 rows y741 y742 y743 y744 y1095) := by kernel_rfl
abbrev S71_5 : St := ⟨[(1, rl tsI4 y743), (2, ri rows), (3, rF 0), (7, rb y741), (8, ri y744.1), (9, ri y744.2), (10, ri y1095.1), (11, ri y1095.2), (12, ri y1096.1), (13, ri y1096.2)], [(tsNode.leaves y742)], [], 96⟩
theorem law16_TileAll_r6 : P71 1 C71.r.r.r.r.r.r (S71_4 rows y741 y742 y743 y744 y1095) k = Option.bind (tile_Best y742 y743) fun y1096 : (Int × Int) => k (S71_5 rows y741 y742 y743 y744 y1095 y1096) := by kernel_rfl
abbrev S71_6 : St := ⟨[(1, rl tsI4 y743), (2, ri rows), (3, rF 0), (7, rb y741), (8, ri y744.1), (9, ri y744.2), (10, ri y1095.1), (11, ri y1095.2), (12, ri y1096.1), (13, ri y1096.2), (14, ri y1128.1), (15, ri y1128.2)], [(tsNode.leaves y742)], [], 96⟩
theorem law16_TileAll_r7 : P71 1 C71.r.r.r.r.r.r.r (S71_5 rows y741 y742 y743 y744 y1095 y1096) k = Option.bind (ref16_Best y742 y743) fun y1128 : (Int × Int) => k (S71_6 rows y741 y742 y743 y744 y1095 y1096 y1128) := by kernel_rfl
abbrev S71_7 : St := ⟨[(1, rl tsI4 y743), (2, ri rows), (3, rF 0), (7, rb y741), (8, ri y744.1), (9, ri y744.2), (10, ri y1095.1), (11, ri y1095.2), (12, ri y1096.1), (13, ri y1096.2), (14, ri y1128.1), (15, ri y1128.2), (16, rF 1), (17, ri y1175.2)], [(tsNode.leaves y742), (tsI7.leaves y1175.1)], [], 96⟩
theorem law16_TileAll_r8 : P71 1 C71.r.r.r.r.r.r.r.r (S71_6 rows y741 y742 y743 y744 y1095 y1096 y1128) k = Option.bind (tile_Bufs y742 y743 rows) fun y1175 : (I7 × Int) => k (S71_7 rows y741 y742 y743 y744 y1095 y1096 y1128 y1175) := by kernel_rfl
abbrev S71_8 : St := ⟨[(7, rb y741), (8, ri y744.1), (9, ri y744.2), (10, ri y1095.1), (11, ri y1095.2), (12, ri y1096.1), (13, ri y1096.2), (14, ri y1128.1), (15, ri y1128.2), (16, rF 1), (17, ri y1175.2), (18, rF 2), (19, ri y1179.2)], [[], (tsI7.leaves y1175.1), (tsI7.leaves y1179.1)], [], 96⟩
theorem law16_TileAll_r9 : P71 1 C71.r.r.r.r.r.r.r.r.r (S71_7 rows y741 y742 y743 y744 y1095 y1096 y1128 y1175) k = Option.bind (ref16_Bufs y742 y743 rows) fun y1179 : (I7 × Int) => k (S71_8 y741 y744 y1095 y1096 y1128 y1175 y1179) := by kernel_rfl
def law16_TileAll_r10_q (K : Bool → β) : β := (bif y741 then (bif (y744.1 == y1095.1) then (bif (y744.2 == y1095.2) then (bif (y1096.1 == y1128.1) then (bif (y1096.2 == y1128.2) then (bif ((y1175.1.1 == y1179.1.1) && ((y1175.1.2.1 == y1179.1.2.1) && ((y1175.1.2.2.1 == y1179.1.2.2.1) && ((y1175.1.2.2.2.1 == y1179.1.2.2.2.1) && ((y1175.1.2.2.2.2.1 == y1179.1.2.2.2.2.1) && ((y1175.1.2.2.2.2.2.1 == y1179.1.2.2.2.2.2.1) && ((y1175.1.2.2.2.2.2.2 == y1179.1.2.2.2.2.2.2) && true))))))) then (K (y1175.2 == y1179.2)) else (K false)) else (K false)) else (K false)) else (K false)) else (K false)) else (K false))
def law16_TileAll_r10_p : Bool := law16_TileAll_r10_q y741 y744 y1095 y1096 y1128 y1175 y1179 (fun y => y)
theorem law16_TileAll_r10_n (K : Bool → β) : law16_TileAll_r10_q y741 y744 y1095 y1096 y1128 y1175 y1179 K = K (law16_TileAll_r10_p y741 y744 y1095 y1096 y1128 y1175 y1179) := (bif_k K (bif_k K (bif_k K (bif_k K (bif_k K (bif_k K rfl rfl) rfl) rfl) rfl) rfl) rfl)
theorem law16_TileAll_r10 : P71 1 C71.r.r.r.r.r.r.r.r.r.r (S71_8 y741 y744 y1095 y1096 y1128 y1175 y1179) k = k ⟨[(6, rb (law16_TileAll_r10_p y741 y744 y1095 y1096 y1128 y1175 y1179))], [[], [], []], [], 96⟩ := Eq.trans (by kernel_rfl) (law16_TileAll_r10_n y741 y744 y1095 y1096 y1128 y1175 y1179 (fun y1180 : Bool => k ⟨[(6, rb y1180)], [[], [], []], [], 96⟩))
/-- quilt/quiltlaw16.TileAll -/
def law16_TileAll : Option Bool := (Option.bind law16_shown (fun y741 : Bool => (Option.bind (law16_few n_) (fun y742 : Node => (Option.bind (law16_some in_) (fun y743 : (List I4) => (Option.bind (tile_Need y742 y743 rows) (fun y744 : (Int × Int) => (Option.bind (ref16_Need y742 y743 rows) (fun y1095 : (Int × Int) => (Option.bind (tile_Best y742 y743) (fun y1096 : (Int × Int) => (Option.bind (ref16_Best y742 y743) (fun y1128 : (Int × Int) => (Option.bind (tile_Bufs y742 y743 rows) (fun y1175 : (I7 × Int) => (Option.bind (ref16_Bufs y742 y743 rows) (fun y1179 : (I7 × Int) => (some (law16_TileAll_r10_p y741 y744 y1095 y1096 y1128 y1175 y1179))))))))))))))))))))
theorem law16_TileAll_is : stepS E cp70 ce1 4 [rA tsNode n_, rl tsI4 in_, ri rows] = Option.bind (law16_TileAll n_ in_ rows) (fun y : Bool => some (rb y : R)) := by
  refine .trans ?_ (bind_b fun y741 => (bind_b fun y742 => (bind_b fun y743 => (bind_b fun y744 => (bind_b fun y1095 => (bind_b fun y1096 => (bind_b fun y1128 => (bind_b fun y1175 => (bind_b fun y1179 => some_b)))))))))
  refine (stepG_is (nt := 96) (regs := [(0, rA tsNode n_), (1, rl tsI4 in_), (2, ri rows)])).trans ?_
  refine (pre2 (law16_TileAll_r1 n_ in_ rows _)).trans (bind_g fun y741 => ?_)
  refine (pre1 (law16_TileAll_r2 n_ in_ rows y741 _)).trans (bind_g fun y742 => ?_)
  refine (pre1 (law16_TileAll_r3 in_ rows y741 y742 _)).trans (bind_g fun y743 => ?_)
  refine (pre1 (law16_TileAll_r4 rows y741 y742 y743 _)).trans (bind_g fun y744 => ?_)
  refine (pre1 (law16_TileAll_r5 rows y741 y742 y743 y744 _)).trans (bind_g fun y1095 => ?_)
  refine (pre1 (law16_TileAll_r6 rows y741 y742 y743 y744 y1095 _)).trans (bind_g fun y1096 => ?_)
  refine (pre1 (law16_TileAll_r7 rows y741 y742 y743 y744 y1095 y1096 _)).trans (bind_g fun y1128 => ?_)
  refine (pre1 (law16_TileAll_r8 rows y741 y742 y743 y744 y1095 y1096 y1128 _)).trans (bind_g fun y1175 => ?_)
  refine (pre1 (law16_TileAll_r9 rows y741 y742 y743 y744 y1095 y1096 y1128 y1175 _)).trans (bind_g fun y1179 => ?_)
  refine (pre1 (law16_TileAll_r10 y741 y744 y1095 y1096 y1128 y1175 y1179 _)).trans ?_
  refine (ret_eq).trans ?_
  kernel_rfl
noncomputable def cp71 : CallP := withC cp70 4 [(.agg tsNode), (pL tsI4), pI] (.one pB) (fun y : Bool => y) (fun x => law16_TileAll x.1 x.2.1 x.2.2.1)
theorem cp71_ok : PureOK E cp71 := conS eok cp70_ok ce1_ok fun x => Eq.mp (by kernel_rfl) (law16_TileAll_is x.1 x.2.1 x.2.2.1)
theorem law16_TileAll_walk (ht : law16_TileAll n_ in_ rows = some true) (w : World) (vs : List Value) (hrd : ∀ γ : Gh, Free γ → rdRs w γ [argR true tsNode n_, argR false (.one (.sl tsI4)) in_, argR false (.one (.int .i64)) rows] vs) : Calls E.P 4 vs.toArray w fun e w' => e = .returned (.bool true) ∧ Below w.heap.size w w' :=
  walk_true (E := E) (stepS_ok eok cp70_ok ce1_ok) (show stepS E cp70 ce1 4 [rA tsNode n_, rl tsI4 in_, ri rows] = some (.one (.g .bool true)) from by rw [law16_TileAll_is, ht]; rfl) w fun γ hγ => Eq.mp (by kernel_rfl) (hrd γ hγ)
end
section
variable {α β : Type} (n_ : Node) (in_ : (List I4)) (y1181 : Bool) (y1182 : Node) (y1183 : (List I4)) (y1184 : (I4 × Int)) (y1185 : (Int × Int)) (s1227 : Int) (y1235 : (Int × Int)) (y1236 : (I7 × Int)) (k : St → Option α) (q : Kont α)
noncomputable abbrev C72 := codeOf E.P 5
noncomputable abbrev P72 := @preK α E 5 cp71 ce1
noncomputable abbrev R72 := @runCode α E 5 cp71 ce1
abbrev S72_0 : St := ⟨[(1, rl tsI4 in_), (2, rF 0), (5, rb y1181)], [(tsNode.leaves n_)], [], 130⟩
theorem law16_TileFits_r1 : P72 2 C72 ⟨[(0, rA tsNode n_), (1, rl tsI4 in_)], [], [], 130⟩ k = Option.bind law16_shown fun y1181 : Bool => k (S72_0 n_ in_ y1181) := by kernel_rfl
abbrev S72_1 : St := ⟨[(1, rl tsI4 in_), (2, rF 0), (5, rb y1181)], [(tsNode.leaves y1182)], [], 130⟩
theorem law16_TileFits_r2 : P72 1 C72.r.r (S72_0 n_ in_ y1181) k = Option.bind (law16_few n_) fun y1182 : Node => k (S72_1 in_ y1181 y1182) := by kernel_rfl
abbrev S72_2 : St := ⟨[(1, rl tsI4 y1183), (2, rF 0), (5, rb y1181)], [(tsNode.leaves y1182)], [], 130⟩
theorem law16_TileFits_r3 : P72 1 C72.r.r.r (S72_1 in_ y1181 y1182) k = Option.bind (law16_some in_) fun y1183 : (List I4) => k (S72_2 y1181 y1182 y1183) := by kernel_rfl
abbrev S72_3 : St := ⟨[(1, rl tsI4 y1183), (2, rF 0), (5, rb y1181), (6, rF 1), (7, ri y1184.2)], [(tsNode.leaves y1182), (tsI4.leaves y1184.1)], [], 130⟩
theorem law16_TileFits_r4 : P72 1 C72.r.r.r.r (S72_2 y1181 y1182 y1183) k = Option.bind (ref03_Value y1182 y1183) fun y1184 : (I4 × Int) => k (S72_3 y1181 y1182 y1183 y1184) := by kernel_rfl
abbrev S72_4 : St := ⟨[(1, rl tsI4 y1183), (2, rF 0), (5, rb y1181), (6, rF 1), (7, ri y1184.2), (8, ri y1185.1), (9, ri y1185.2)], [(tsNode.leaves y1182), (tsI4.leaves y1184.1)], [], 130⟩
theorem law16_TileFits_r5 : P72 1 C72.r.r.r.r.r (S72_3 y1181 y1182 y1183 y1184) k = Option.bind (tile_Best y1182 y1183) fun y1185 : (Int × Int) => k (S72_4 y1181 y1182 y1183 y1184 y1185) := by kernel_rfl
theorem law16_TileFits_f1000007 : P72 1 C72.r.r.r.r.r.r.l (S72_4 y1181 y1182 y1183 y1184 y1185) k = k ⟨[(1, rl tsI4 y1183), (2, rF 0), (5, rb y1181), (6, rF 1), (7, ri y1184.2), (8, ri y1185.1), (9, ri y1185.2), (34, rb (y1184.2 != 0))], [(tsNode.leaves y1182), (tsI4.leaves y1184.1)], [], 130⟩ := by kernel_rfl
def law16_TileFits_r7_q (K : Bool → β) : β := (bif y1181 then (bif (y1185.2 == y1184.2) then (K (y1185.1 == 0)) else (K false)) else (K false))
def law16_TileFits_r7_p : Bool := law16_TileFits_r7_q y1181 y1184 y1185 (fun y => y)
theorem law16_TileFits_r7_n (K : Bool → β) : law16_TileFits_r7_q y1181 y1184 y1185 K = K (law16_TileFits_r7_p y1181 y1184 y1185) := (bif_k K (bif_k K rfl rfl) rfl)
theorem law16_TileFits_r7 : P72 1 C72.r.r.r.r.r.r.l.r.t (S72_4 y1181 y1182 y1183 y1184 y1185) k = k ⟨[(4, rb (law16_TileFits_r7_p y1181 y1184 y1185))], [[], []], [], 130⟩ := Eq.trans (by kernel_rfl) (law16_TileFits_r7_n y1181 y1184 y1185 (fun y1187 : Bool => k ⟨[(4, rb y1187)], [[], []], [], 130⟩))
def law16_TileFits_r8_p : Option Bool := (bif (y1185.2 != 0) then (some true) else (bif (decide (y1185.1 < 0)) then (some true) else (bif (decide (y1185.1 > y1184.1.1)) then (some true) else (Option.bind (ref15_Npu y1182.1) (fun y1190 : Bool => (bif (!y1190) then (some (y1185.1 != 0)) else (some false)))))))
abbrev S72_5 : St := ⟨[(1, rl tsI4 y1183), (2, rF 0), (5, rb y1181), (6, rF 1), (8, ri y1185.1), (9, ri y1185.2)], [(tsNode.leaves y1182), (tsI4.leaves y1184.1)], [], 130⟩
theorem law16_TileFits_r8 : P72 1 C72.r.r.r.r.r.r.r.l (S72_5 y1181 y1182 y1183 y1184 y1185) k = Option.bind (law16_TileFits_r8_p y1182 y1184 y1185) (fun y1191 : Bool => k ⟨[(1, rl tsI4 y1183), (2, rF 0), (5, rb y1181), (6, rF 1), (8, ri y1185.1), (67, rb y1191)], [(tsNode.leaves y1182), (tsI4.leaves y1184.1)], [], 130⟩) := .trans (by kernel_rfl) (bif_b some_b (bif_b some_b (bif_b some_b (bind_b fun y1190 => (bif_b some_b some_b)))))
abbrev S72_6 : St := ⟨[(1, rl tsI4 y1183), (2, rF 0), (5, rb y1181), (6, rF 1), (8, ri y1185.1)], [(tsNode.leaves y1182), (tsI4.leaves y1184.1)], [], 130⟩
theorem law16_TileFits_fz : P72 1 C72.r.r.r.r.r.r.r.l.r.t (S72_6 y1181 y1182 y1183 y1184 y1185) k = k ⟨[(4, rb false)], [[], []], [], 130⟩ := by kernel_rfl
abbrev S72_7 : St := ⟨[(1, rl tsI4 y1183), (2, rF 0), (5, rb y1181), (6, rF 1), (8, ri y1185.1), (10, ri 1)], [(tsNode.leaves y1182), (tsI4.leaves y1184.1)], [], 130⟩
theorem law16_TileFits_f11 : P72 1 C72.r.r.r.r.r.r.r.r.l (S72_6 y1181 y1182 y1183 y1184 y1185) k = k (S72_7 y1181 y1182 y1183 y1184 y1185) := by kernel_rfl
def law16_TileFits_r11_p : Option Bool := (bif (decide (s1227 ≤ y1184.1.1)) then (Option.bind (ref15_Npu y1182.1) (fun y1230 : Bool => (some y1230))) else (some false))
abbrev S72_8 : St := ⟨[(1, rl tsI4 y1183), (2, rF 0), (5, rb y1181), (6, rF 1), (8, ri y1185.1), (10, ri s1227)], [(tsNode.leaves y1182), (tsI4.leaves y1184.1)], [], 130⟩
theorem law16_TileFits_r11 : P72 1 C72.r.r.r.r.r.r.r.r.l.r.b.b.l (S72_8 y1181 y1182 y1183 y1184 y1185 s1227) k = Option.bind (law16_TileFits_r11_p y1182 y1184 s1227) (fun y1231 : Bool => k ⟨[(1, rl tsI4 y1183), (2, rF 0), (5, rb y1181), (6, rF 1), (8, ri y1185.1), (10, ri s1227), (77, rb y1231)], [(tsNode.leaves y1182), (tsI4.leaves y1184.1)], [], 130⟩) := .trans (by kernel_rfl) (bif_b (bind_b fun y1230 => some_b) some_b)
abbrev S72_9 : St := ⟨[(1, rl tsI4 y1183), (2, rF 0), (5, rb y1181), (6, rF 1), (8, ri y1185.1), (10, ri s1227), (11, ri y1235.1), (12, ri y1235.2)], [(tsNode.leaves y1182), (tsI4.leaves y1184.1)], [], 130⟩
theorem law16_TileFits_r13 : P72 1 C72.r.r.r.r.r.r.r.r.l.r.b.b.r.l.b (S72_8 y1181 y1182 y1183 y1184 y1185 s1227) k = Option.bind (tile_Need y1182 y1183 s1227) fun y1235 : (Int × Int) => k (S72_9 y1181 y1182 y1183 y1184 y1185 s1227 y1235) := by kernel_rfl
abbrev S72_10 : St := ⟨[(1, rl tsI4 y1183), (2, rF 0), (5, rb y1181), (6, rF 1), (8, ri y1185.1), (10, ri s1227), (11, ri y1235.1), (12, ri y1235.2), (14, ri y1236.2)], [(tsNode.leaves y1182), (tsI4.leaves y1184.1), []], [], 130⟩
theorem law16_TileFits_r14 : P72 1 C72.r.r.r.r.r.r.r.r.l.r.b.b.r.l.b.r (S72_9 y1181 y1182 y1183 y1184 y1185 s1227 y1235) k = Option.bind (tile_Bufs y1182 y1183 s1227) fun y1236 : (I7 × Int) => k (S72_10 y1181 y1182 y1183 y1184 y1185 s1227 y1235 y1236) := by kernel_rfl
def law16_TileFits_r16_q (K : Bool → β) : β := (bif (y1235.2 != 0) then (K true) else (bif (s1227 == y1185.1) then (bif (!(decide (y1235.1 ≤ 1024))) then (K true) else (bif (decide (s1227 > y1185.1)) then (bif (decide (y1235.1 ≤ 1024)) then (K true) else (bif (!((y1236.2 == 0) == (decide (y1235.1 ≤ 1024)))) then (K true) else (bif (y1236.2 != 0) then (K (y1236.2 != 26)) else (K false)))) else (bif (!((y1236.2 == 0) == (decide (y1235.1 ≤ 1024)))) then (K true) else (bif (y1236.2 != 0) then (K (y1236.2 != 26)) else (K false))))) else (bif (decide (s1227 > y1185.1)) then (bif (decide (y1235.1 ≤ 1024)) then (K true) else (bif (!((y1236.2 == 0) == (decide (y1235.1 ≤ 1024)))) then (K true) else (bif (y1236.2 != 0) then (K (y1236.2 != 26)) else (K false)))) else (bif (!((y1236.2 == 0) == (decide (y1235.1 ≤ 1024)))) then (K true) else (bif (y1236.2 != 0) then (K (y1236.2 != 26)) else (K false))))))
def law16_TileFits_r16_p : Bool := law16_TileFits_r16_q y1185 s1227 y1235 y1236 (fun y => y)
theorem law16_TileFits_r16_n (K : Bool → β) : law16_TileFits_r16_q y1185 s1227 y1235 y1236 K = K (law16_TileFits_r16_p y1185 s1227 y1235 y1236) := (bif_k K rfl (bif_k K (bif_k K rfl (bif_k K (bif_k K rfl (bif_k K rfl (bif_k K rfl rfl))) (bif_k K rfl (bif_k K rfl rfl)))) (bif_k K (bif_k K rfl (bif_k K rfl (bif_k K rfl rfl))) (bif_k K rfl (bif_k K rfl rfl)))))
theorem law16_TileFits_r16 : P72 2 C72.r.r.r.r.r.r.r.r.l.r.b.b.r.l.b.r.r (S72_10 y1181 y1182 y1183 y1184 y1185 s1227 y1235 y1236) k = k ⟨[(1, rl tsI4 y1183), (2, rF 0), (5, rb y1181), (6, rF 1), (8, ri y1185.1), (10, ri s1227), (128, rb (law16_TileFits_r16_p y1185 s1227 y1235 y1236))], [(tsNode.leaves y1182), (tsI4.leaves y1184.1), []], [], 130⟩ := Eq.trans (by kernel_rfl) (law16_TileFits_r16_n y1185 s1227 y1235 y1236 (fun y1237 : Bool => k ⟨[(1, rl tsI4 y1183), (2, rF 0), (5, rb y1181), (6, rF 1), (8, ri y1185.1), (10, ri s1227), (128, rb y1237)], [(tsNode.leaves y1182), (tsI4.leaves y1184.1), []], [], 130⟩))
abbrev S72_11 : St := ⟨[(1, rl tsI4 y1183), (2, rF 0), (5, rb y1181), (6, rF 1), (8, ri y1185.1), (10, ri s1227)], [(tsNode.leaves y1182), (tsI4.leaves y1184.1), []], [], 130⟩
abbrev S72_12 : St := ⟨[(4, rb false)], [[], [], []], [], 130⟩
theorem law16_TileFits_fzx1 : P72 1 C72.r.r.r.r.r.r.r.r.l.r.b.b.r.l.b.r.r.r.r.t (S72_11 y1181 y1182 y1183 y1184 y1185 s1227) k = k S72_12 := by kernel_rfl
theorem law16_TileFits_r12 : R72 C72.r.r.r.r.r.r.r.r.l.r.b.b.r.r (S72_11 y1181 y1182 y1183 y1184 y1185 s1227) q = q .normal ⟨[(1, rl tsI4 y1183), (2, rF 0), (5, rb y1181), (6, rF 1), (8, ri y1185.1), (10, ri (IntKind.wrap .i64 (s1227 + 1)))], [(tsNode.leaves y1182), (tsI4.leaves y1184.1), []], [], 130⟩ := by kernel_rfl
def law16_TileFits_l11_p : Option (Int ⊕ (Int ⊕ Unit)) := (Option.bind (law16_TileFits_r11_p y1182 y1184 s1227) (fun y1231 : Bool => (bif y1231 then (Option.bind (tile_Need y1182 y1183 s1227) (fun y1235 : (Int × Int) => (Option.bind (tile_Bufs y1182 y1183 s1227) (fun y1236 : (I7 × Int) => (bif (law16_TileFits_r16_p y1185 s1227 y1235 y1236) then (some (Sum.inr (Sum.inr ()))) else (some (Sum.inl (IntKind.wrap .i64 (s1227 + 1))))))))) else (some (Sum.inr (Sum.inl s1227))))))
abbrev S72_13 (y1238 : Int) : St := ⟨[(1, rl tsI4 y1183), (2, rF 0), (5, rb y1181), (6, rF 1), (8, ri y1185.1), (10, ri y1238)], [(tsNode.leaves y1182), (tsI4.leaves y1184.1)], [], 130⟩
theorem law16_TileFits_l11_b : R72 C72.r.r.r.r.r.r.r.r.l.r.b.b (S72_8 y1181 y1182 y1183 y1184 y1185 s1227) (loopKont 2 q) = Option.bind (law16_TileFits_l11_p y1182 y1183 y1184 y1185 s1227) (either (fun y : Int => q .normal ⟨[(1, rl tsI4 y1183), (2, rF 0), (5, rb y1181), (6, rF 1), (8, ri y1185.1), (10, ri y)], [(tsNode.leaves y1182), (tsI4.leaves y1184.1)], [], 130⟩) (either (fun y1238 : Int => q (.exit 0) (S72_13 y1181 y1182 y1183 y1184 y1185 y1238)) (fun y1239 : Unit => q .ret S72_12))) := by
  refine .trans ?_ (bind_b fun y1231 => (bif_b (bind_b fun y1235 => (bind_b fun y1236 => (bif_b e3_2 e3_0))) e3_1))
  refine .trans seq_push ?_
  refine (pre1 (law16_TileFits_r11 y1181 y1182 y1183 y1184 y1185 s1227 _)).trans (bind_g fun y1231 => ?_)
  refine (cond_e (b := y1231) (st' := (S72_8 y1181 y1182 y1183 y1184 y1185 s1227)) ).trans (bif_g ?_ ?_)
  · refine (skip_eq).trans ?_
    refine (seqC_normal (st' := (S72_8 y1181 y1182 y1183 y1184 y1185 s1227))).trans ?_
    refine .trans seq_push ?_
    refine (block_push (id := 1)).trans ?_
    refine (pre1 (law16_TileFits_r13 y1181 y1182 y1183 y1184 y1185 s1227 _)).trans (bind_g fun y1235 => ?_)
    refine (pre1 (law16_TileFits_r14 y1181 y1182 y1183 y1184 y1185 s1227 y1235 _)).trans (bind_g fun y1236 => ?_)
    refine (pre2 (law16_TileFits_r16 y1181 y1182 y1183 y1184 y1185 s1227 y1235 y1236 _)).trans ?_
    refine (cond_e (b := (law16_TileFits_r16_p y1185 s1227 y1235 y1236)) (st' := (S72_11 y1181 y1182 y1183 y1184 y1185 s1227)) ).trans (bif_g ?_ ?_)
    · refine (pre1 (law16_TileFits_fzx1 y1181 y1182 y1183 y1184 y1185 s1227 _)).trans ?_
      refine (ret_eq).trans ?_
      refine block_ret.trans ?_
      refine seqC_ret.trans ?_
      kernel_rfl
    · refine (skip_eq).trans ?_
      refine block_normal.trans ?_
      refine (seqC_normal (st' := (S72_11 y1181 y1182 y1183 y1184 y1185 s1227))).trans ?_
      refine (law16_TileFits_r12 y1181 y1182 y1183 y1184 y1185 s1227 _).trans ?_
      kernel_rfl
  · refine ((exit_eq (j := 0))).trans ?_
    refine seqC_exit.trans ?_
    kernel_rfl
theorem law16_TileFits_l11 : R72 C72.r.r.r.r.r.r.r.r.l.r.b (S72_7 y1181 y1182 y1183 y1184 y1185) q = Option.bind (iterN (law16_TileFits_l11_p y1182 y1183 y1184 y1185) LL (1 : Int)) (either (fun y1238 : Int => q (.exit 0) (S72_13 y1181 y1182 y1183 y1184 y1185 y1238)) (fun y1239 : Unit => q .ret S72_12)) :=
  Eq.trans (by kernel_rfl) (loop_iter2 (S := fun s1227 : Int => (S72_8 y1181 y1182 y1183 y1184 y1185 s1227)) (Y1 := fun y1238 : Int => ((.exit 0), (S72_13 y1181 y1182 y1183 y1184 y1185 y1238))) (Y2 := fun y1239 : Unit => (.ret, S72_12)) (fun s q => law16_TileFits_l11_b y1181 y1182 y1183 y1184 y1185 s q) (fun z => rfl) (fun z => rfl) LL (1 : Int))
theorem law16_TileFits_fzx2 : P72 1 C72.r.r.r.r.r.r.r.r.r ⟨[(5, rb y1181)], [(tsNode.leaves y1182), (tsI4.leaves y1184.1)], [], 130⟩ k = k ⟨[(4, rb y1181)], [(tsNode.leaves y1182), (tsI4.leaves y1184.1)], [], 130⟩ := by kernel_rfl
/-- quilt/quiltlaw16.TileFits -/
def law16_TileFits : Option Bool := (Option.bind law16_shown (fun y1181 : Bool => (Option.bind (law16_few n_) (fun y1182 : Node => (Option.bind (law16_some in_) (fun y1183 : (List I4) => (Option.bind (ref03_Value y1182 y1183) (fun y1184 : (I4 × Int) => (Option.bind (tile_Best y1182 y1183) (fun y1185 : (Int × Int) => (bif (y1184.2 != 0) then (some (law16_TileFits_r7_p y1181 y1184 y1185)) else (Option.bind (law16_TileFits_r8_p y1182 y1184 y1185) (fun y1191 : Bool => (bif y1191 then (some false) else (Option.bind (iterN (law16_TileFits_l11_p y1182 y1183 y1184 y1185) LL (1 : Int)) (either (fun y1238 : Int => (some y1181)) (fun y1239 : Unit => (some false))))))))))))))))))
theorem law16_TileFits_is : stepS E cp71 ce1 5 [rA tsNode n_, rl tsI4 in_] = Option.bind (law16_TileFits n_ in_) (fun y : Bool => some (rb y : R)) := by
  refine .trans ?_ (bind_b fun y1181 => (bind_b fun y1182 => (bind_b fun y1183 => (bind_b fun y1184 => (bind_b fun y1185 => (bif_b some_b (bind_b fun y1191 => (bif_b some_b (bind_b (either_b (fun y1238 => some_b) (fun y1239 => some_b)))))))))))
  refine (stepG_is (nt := 130) (regs := [(0, rA tsNode n_), (1, rl tsI4 in_)])).trans ?_
  refine (pre2 (law16_TileFits_r1 n_ in_ _)).trans (bind_g fun y1181 => ?_)
  refine (pre1 (law16_TileFits_r2 n_ in_ y1181 _)).trans (bind_g fun y1182 => ?_)
  refine (pre1 (law16_TileFits_r3 in_ y1181 y1182 _)).trans (bind_g fun y1183 => ?_)
  refine (pre1 (law16_TileFits_r4 y1181 y1182 y1183 _)).trans (bind_g fun y1184 => ?_)
  refine (pre1 (law16_TileFits_r5 y1181 y1182 y1183 y1184 _)).trans (bind_g fun y1185 => ?_)
  refine .trans seq_push ?_
  refine (pre1 (law16_TileFits_f1000007 y1181 y1182 y1183 y1184 y1185 _)).trans ?_
  refine (cond_e (b := (y1184.2 != 0)) (st' := (S72_4 y1181 y1182 y1183 y1184 y1185)) ).trans (bif_g ?_ ?_)
  · refine (pre1 (law16_TileFits_r7 y1181 y1182 y1183 y1184 y1185 _)).trans ?_
    refine (ret_eq).trans ?_
    refine seqC_ret.trans ?_
    kernel_rfl
  · refine (skip_eq).trans ?_
    refine (seqC_normal (st' := (S72_5 y1181 y1182 y1183 y1184 y1185))).trans ?_
    refine .trans seq_push ?_
    refine (pre1 (law16_TileFits_r8 y1181 y1182 y1183 y1184 y1185 _)).trans (bind_g fun y1191 => ?_)
    refine (cond_e (b := y1191) (st' := (S72_6 y1181 y1182 y1183 y1184 y1185)) ).trans (bif_g ?_ ?_)
    · refine (pre1 (law16_TileFits_fz y1181 y1182 y1183 y1184 y1185 _)).trans ?_
      refine (ret_eq).trans ?_
      refine seqC_ret.trans ?_
      kernel_rfl
    · refine (skip_eq).trans ?_
      refine (seqC_normal (st' := (S72_6 y1181 y1182 y1183 y1184 y1185))).trans ?_
      refine .trans seq_push ?_
      refine (pre1 (law16_TileFits_f11 y1181 y1182 y1183 y1184 y1185 _)).trans ?_
      refine (block_push (id := 0)).trans ?_
      refine (law16_TileFits_l11 y1181 y1182 y1183 y1184 y1185 _).trans (bind_g (either_g (fun y1238 => ?_) (fun y1239 => ?_)))
      · refine block_same.trans ?_
        refine (seqC_normal (st' := ⟨[(5, rb y1181)], [(tsNode.leaves y1182), (tsI4.leaves y1184.1)], [], 130⟩)).trans ?_
        refine (pre1 (law16_TileFits_fzx2 y1181 y1182 y1184 _)).trans ?_
        refine (ret_eq).trans ?_
        kernel_rfl
      · refine block_ret.trans ?_
        refine seqC_ret.trans ?_
        kernel_rfl
noncomputable def cp72 : CallP := withC cp71 5 [(.agg tsNode), (pL tsI4)] (.one pB) (fun y : Bool => y) (fun x => law16_TileFits x.1 x.2.1)
theorem cp72_ok : PureOK E cp72 := conS eok cp71_ok ce1_ok fun x => Eq.mp (by kernel_rfl) (law16_TileFits_is x.1 x.2.1)
theorem law16_TileFits_walk (ht : law16_TileFits n_ in_ = some true) (w : World) (vs : List Value) (hrd : ∀ γ : Gh, Free γ → rdRs w γ [argR true tsNode n_, argR false (.one (.sl tsI4)) in_] vs) : Calls E.P 5 vs.toArray w fun e w' => e = .returned (.bool true) ∧ Below w.heap.size w w' :=
  walk_true (E := E) (stepS_ok eok cp71_ok ce1_ok) (show stepS E cp71 ce1 5 [rA tsNode n_, rl tsI4 in_] = some (.one (.g .bool true)) from by rw [law16_TileFits_is, ht]; rfl) w fun γ hγ => Eq.mp (by kernel_rfl) (hrd γ hγ)
end
section
variable {α β : Type} (n_ : Node) (in_ : (List I4)) (rows : Int) (y1240 : Bool) (y1241 : Node) (y1242 : (List I4)) (y1243 : (I4 × Int)) (y1245 : (I7 × Int)) (y1246 : (I3 × Int)) (s1262 : Int) (k : St → Option α) (q : Kont α)
noncomputable abbrev C73 := codeOf E.P 6
noncomputable abbrev P73 := @preK α E 6 cp72 ce1
noncomputable abbrev R73 := @runCode α E 6 cp72 ce1
abbrev S73_0 : St := ⟨[(1, rl tsI4 in_), (2, rk .u8 rows), (3, rF 0), (7, rb y1240)], [(tsNode.leaves n_)], [], 134⟩
theorem law16_TileApart_r1 : P73 2 C73 ⟨[(0, rA tsNode n_), (1, rl tsI4 in_), (2, rk .u8 rows)], [], [], 134⟩ k = Option.bind law16_shown fun y1240 : Bool => k (S73_0 n_ in_ rows y1240) := by kernel_rfl
abbrev S73_1 : St := ⟨[(1, rl tsI4 in_), (2, rk .u8 rows), (3, rF 0), (7, rb y1240)], [(tsNode.leaves y1241)], [], 134⟩
theorem law16_TileApart_r2 : P73 1 C73.r.r (S73_0 n_ in_ rows y1240) k = Option.bind (law16_few n_) fun y1241 : Node => k (S73_1 in_ rows y1240 y1241) := by kernel_rfl
abbrev S73_2 : St := ⟨[(1, rl tsI4 y1242), (2, rk .u8 rows), (3, rF 0), (7, rb y1240)], [(tsNode.leaves y1241)], [], 134⟩
theorem law16_TileApart_r3 : P73 1 C73.r.r.r (S73_1 in_ rows y1240 y1241) k = Option.bind (law16_some in_) fun y1242 : (List I4) => k (S73_2 rows y1240 y1241 y1242) := by kernel_rfl
abbrev S73_3 : St := ⟨[(1, rl tsI4 y1242), (2, rk .u8 rows), (3, rF 0), (7, rb y1240), (8, rF 1), (9, ri y1243.2)], [(tsNode.leaves y1241), (tsI4.leaves y1243.1)], [], 134⟩
theorem law16_TileApart_r4 : P73 1 C73.r.r.r.r (S73_2 rows y1240 y1241 y1242) k = Option.bind (ref03_Value y1241 y1242) fun y1243 : (I4 × Int) => k (S73_3 rows y1240 y1241 y1242 y1243) := by kernel_rfl
theorem law16_TileApart_f1000006 : P73 1 C73.r.r.r.r.r.l (S73_3 rows y1240 y1241 y1242 y1243) k = k ⟨[(1, rl tsI4 y1242), (2, rk .u8 rows), (3, rF 0), (7, rb y1240), (8, rF 1), (30, rb (y1243.2 != 0))], [(tsNode.leaves y1241), (tsI4.leaves y1243.1)], [], 134⟩ := by kernel_rfl
abbrev S73_4 : St := ⟨[(1, rl tsI4 y1242), (2, rk .u8 rows), (3, rF 0), (7, rb y1240), (8, rF 1)], [(tsNode.leaves y1241), (tsI4.leaves y1243.1)], [], 134⟩
theorem law16_TileApart_fz : P73 1 C73.r.r.r.r.r.l.r.t (S73_4 rows y1240 y1241 y1242 y1243) k = k ⟨[(6, rb y1240)], [[], []], [], 134⟩ := by kernel_rfl
def law16_TileApart_r7_p : Option Unit := (bif (y1243.1.1 == 0) then none else (some ()))
abbrev S73_5 : St := ⟨[(1, rl tsI4 y1242), (3, rF 0), (7, rb y1240), (10, ri (IntKind.wrap .i64 ((1 : Int) + (Int.tmod (IntKind.wrap .i64 rows) y1243.1.1))))], [(tsNode.leaves y1241), []], [], 134⟩
theorem law16_TileApart_r7 : P73 1 C73.r.r.r.r.r.r (S73_4 rows y1240 y1241 y1242 y1243) k = Option.bind (law16_TileApart_r7_p y1243) (fun y1244 : Unit => k (S73_5 rows y1240 y1241 y1242 y1243)) := .trans (by kernel_rfl) (bif_b none_b some_b)
abbrev S73_6 : St := ⟨[(1, rl tsI4 y1242), (3, rF 0), (7, rb y1240), (10, ri (IntKind.wrap .i64 ((1 : Int) + (Int.tmod (IntKind.wrap .i64 rows) y1243.1.1)))), (11, rF 2), (12, ri y1245.2)], [(tsNode.leaves y1241), [], (tsI7.leaves y1245.1)], [], 134⟩
theorem law16_TileApart_r8 : P73 1 C73.r.r.r.r.r.r.r (S73_5 rows y1240 y1241 y1242 y1243) k = Option.bind (tile_Bufs y1241 y1242 (IntKind.wrap .i64 ((1 : Int) + (Int.tmod (IntKind.wrap .i64 rows) y1243.1.1)))) fun y1245 : (I7 × Int) => k (S73_6 rows y1240 y1241 y1242 y1243 y1245) := by kernel_rfl
abbrev S73_7 : St := ⟨[(7, rb y1240), (11, rF 2), (12, ri y1245.2), (13, rF 3)], [[], [], (tsI7.leaves y1245.1), (tsI3.leaves y1246.1)], [], 134⟩
theorem law16_TileApart_r9 : P73 1 C73.r.r.r.r.r.r.r.r (S73_6 rows y1240 y1241 y1242 y1243 y1245) k = Option.bind (ref15_Most y1241 y1242 (IntKind.wrap .i64 ((1 : Int) + (Int.tmod (IntKind.wrap .i64 rows) y1243.1.1)))) fun y1246 : (I3 × Int) => k (S73_7 y1240 y1245 y1246) := by kernel_rfl
theorem law16_TileApart_f1000011 : P73 1 C73.r.r.r.r.r.r.r.r.r.l (S73_7 y1240 y1245 y1246) k = k ⟨[(7, rb y1240), (11, rF 2), (12, ri y1245.2), (13, rF 3), (54, rb (y1245.2 != 0))], [[], [], (tsI7.leaves y1245.1), (tsI3.leaves y1246.1)], [], 134⟩ := by kernel_rfl
def law16_TileApart_r11_q (K : Bool → β) : β := (bif y1240 then (bif (y1245.2 == 26) then (K ((y1245.1.1 == 0) && ((y1245.1.2.1 == 0) && ((y1245.1.2.2.1 == 0) && ((y1245.1.2.2.2.1 == 0) && ((y1245.1.2.2.2.2.1 == 0) && ((y1245.1.2.2.2.2.2.1 == 0) && ((y1245.1.2.2.2.2.2.2 == 0) && true)))))))) else (K false)) else (K false))
def law16_TileApart_r11_p : Bool := law16_TileApart_r11_q y1240 y1245 (fun y => y)
theorem law16_TileApart_r11_n (K : Bool → β) : law16_TileApart_r11_q y1240 y1245 K = K (law16_TileApart_r11_p y1240 y1245) := (bif_k K (bif_k K rfl rfl) rfl)
theorem law16_TileApart_r11 : P73 1 C73.r.r.r.r.r.r.r.r.r.l.r.t (S73_7 y1240 y1245 y1246) k = k ⟨[(6, rb (law16_TileApart_r11_p y1240 y1245))], [[], [], [], []], [], 134⟩ := Eq.trans (by kernel_rfl) (law16_TileApart_r11_n y1240 y1245 (fun y1248 : Bool => k ⟨[(6, rb y1248)], [[], [], [], []], [], 134⟩))
def law16_TileApart_r12_q (K : (List Int) → β) : β := (K [y1245.1.1, y1245.1.2.1, y1245.1.2.2.1, y1245.1.2.2.2.1, y1245.1.2.2.2.2.1, y1245.1.2.2.2.2.2.1, y1245.1.2.2.2.2.2.2])
def law16_TileApart_r12_p : (List Int) := law16_TileApart_r12_q y1245 (fun y => y)
theorem law16_TileApart_r12_n (K : (List Int) → β) : law16_TileApart_r12_q y1245 K = K (law16_TileApart_r12_p y1245) := rfl
abbrev S73_8 : St := ⟨[(7, rb y1240), (11, rF 2), (13, rF 3)], [[], [], (tsI7.leaves y1245.1), (tsI3.leaves y1246.1)], [], 134⟩
abbrev S73_9 : St := ⟨[(7, rb y1240), (11, rF 2), (13, rF 3), (15, .one (.ow (.one (.int .i64)) (law16_TileApart_r12_p y1245) (.v 15)))], [[], [], (tsI7.leaves y1245.1), (tsI3.leaves y1246.1)], [], 134⟩
theorem law16_TileApart_r12 : P73 1 C73.r.r.r.r.r.r.r.r.r.r (S73_8 y1240 y1245 y1246) k = k (S73_9 y1240 y1245 y1246) := Eq.trans (by kernel_rfl) (law16_TileApart_r12_n y1245 (fun y1249 : (List Int) => k ⟨[(7, rb y1240), (11, rF 2), (13, rF 3), (15, .one (.ow (.one (.int .i64)) y1249 (.v 15)))], [[], [], (tsI7.leaves y1245.1), (tsI3.leaves y1246.1)], [], 134⟩))
def law16_TileApart_r13_q (K : (List Int) → β) : β := (K [y1246.1.1, y1246.1.1, y1246.1.2.1, y1246.1.2.1, y1246.1.2.2, y1246.1.2.2])
def law16_TileApart_r13_p : (List Int) := law16_TileApart_r13_q y1246 (fun y => y)
theorem law16_TileApart_r13_n (K : (List Int) → β) : law16_TileApart_r13_q y1246 K = K (law16_TileApart_r13_p y1246) := rfl
abbrev S73_10 : St := ⟨[(7, rb y1240), (11, rF 2), (15, .one (.ow (.one (.int .i64)) (law16_TileApart_r12_p y1245) (.v 15))), (16, .one (.ow (.one (.int .i64)) (law16_TileApart_r13_p y1246) (.v 16)))], [[], [], (tsI7.leaves y1245.1), []], [], 134⟩
theorem law16_TileApart_r13 : P73 1 C73.r.r.r.r.r.r.r.r.r.r.r (S73_9 y1240 y1245 y1246) k = k (S73_10 y1240 y1245 y1246) := Eq.trans (by kernel_rfl) (law16_TileApart_r13_n y1246 (fun y1250 : (List Int) => k ⟨[(7, rb y1240), (11, rF 2), (15, .one (.ow (.one (.int .i64)) (law16_TileApart_r12_p y1245) (.v 15))), (16, .one (.ow (.one (.int .i64)) y1250 (.v 16)))], [[], [], (tsI7.leaves y1245.1), []], [], 134⟩))
abbrev S73_11 : St := ⟨[(7, rb y1240), (11, rF 2), (15, .one (.ow (.one (.int .i64)) (law16_TileApart_r12_p y1245) (.v 15))), (16, .one (.ow (.one (.int .i64)) (law16_TileApart_r13_p y1246) (.v 16))), (17, ri 0)], [[], [], (tsI7.leaves y1245.1), []], [], 134⟩
theorem law16_TileApart_f15 : P73 1 C73.r.r.r.r.r.r.r.r.r.r.r.r.l (S73_10 y1240 y1245 y1246) k = k (S73_11 y1240 y1245 y1246) := by kernel_rfl
abbrev S73_12 : St := ⟨[(7, rb y1240), (11, rF 2), (15, .one (.ow (.one (.int .i64)) (law16_TileApart_r12_p y1245) (.v 15))), (16, .one (.ow (.one (.int .i64)) (law16_TileApart_r13_p y1246) (.v 16))), (17, ri s1262)], [[], [], (tsI7.leaves y1245.1), []], [], 134⟩
theorem law16_TileApart_fzx1 : P73 1 C73.r.r.r.r.r.r.r.r.r.r.r.r.l.r.b.b.l (S73_12 y1240 y1245 y1246 s1262) k = k ⟨[(7, rb y1240), (11, rF 2), (15, .one (.ow (.one (.int .i64)) (law16_TileApart_r12_p y1245) (.v 15))), (16, .one (.ow (.one (.int .i64)) (law16_TileApart_r13_p y1246) (.v 16))), (17, ri s1262), (104, rb (decide (s1262 < 6)))], [[], [], (tsI7.leaves y1245.1), []], [], 134⟩ := by kernel_rfl
def law16_TileApart_r17_p : Option Bool := (bif (decide ((0 : Int) ≤ (IntKind.wrap .i64 (s1262 + 1)))) then (bif (decide ((IntKind.wrap .i64 (s1262 + 1)) < ((law16_TileApart_r12_p y1245).length : Int))) then (bif (decide ((0 : Int) ≤ s1262)) then (bif (decide (s1262 < ((law16_TileApart_r12_p y1245).length : Int))) then (bif (decide ((0 : Int) ≤ s1262)) then (bif (decide (s1262 < ((law16_TileApart_r13_p y1246).length : Int))) then (some ((gt (law16_TileApart_r12_p y1245) (IntKind.wrap .i64 (s1262 + 1)) (0 : Int)) != (IntKind.wrap .i64 ((gt (law16_TileApart_r12_p y1245) s1262 (0 : Int)) + (gt (law16_TileApart_r13_p y1246) s1262 (0 : Int)))))) else none) else none) else none) else none) else none) else none)
theorem law16_TileApart_r17 : P73 1 C73.r.r.r.r.r.r.r.r.r.r.r.r.l.r.b.b.r.l.b (S73_12 y1240 y1245 y1246 s1262) k = Option.bind (law16_TileApart_r17_p y1245 y1246 s1262) (fun y1264 : Bool => k ⟨[(7, rb y1240), (11, rF 2), (15, .one (.ow (.one (.int .i64)) (law16_TileApart_r12_p y1245) (.v 15))), (16, .one (.ow (.one (.int .i64)) (law16_TileApart_r13_p y1246) (.v 16))), (17, ri s1262), (121, rb y1264)], [[], [], (tsI7.leaves y1245.1), []], [], 134⟩) := .trans (by kernel_rfl) (bif_b (bif_b (bif_b (bif_b (bif_b (bif_b some_b none_b) none_b) none_b) none_b) none_b) none_b)
abbrev S73_13 : St := ⟨[(6, rb false)], [[], [], [], []], [], 134⟩
theorem law16_TileApart_fzx2 : P73 1 C73.r.r.r.r.r.r.r.r.r.r.r.r.l.r.b.b.r.l.b.r.t (S73_12 y1240 y1245 y1246 s1262) k = k S73_13 := by kernel_rfl
theorem law16_TileApart_r16 : R73 C73.r.r.r.r.r.r.r.r.r.r.r.r.l.r.b.b.r.r (S73_12 y1240 y1245 y1246 s1262) q = q .normal ⟨[(7, rb y1240), (11, rF 2), (15, .one (.ow (.one (.int .i64)) (law16_TileApart_r12_p y1245) (.v 15))), (16, .one (.ow (.one (.int .i64)) (law16_TileApart_r13_p y1246) (.v 16))), (17, ri (IntKind.wrap .i64 (s1262 + 1)))], [[], [], (tsI7.leaves y1245.1), []], [], 134⟩ := by kernel_rfl
def law16_TileApart_l15_p : Option (Int ⊕ (Int ⊕ Unit)) := (bif (decide (s1262 < 6)) then (Option.bind (law16_TileApart_r17_p y1245 y1246 s1262) (fun y1264 : Bool => (bif y1264 then (some (Sum.inr (Sum.inr ()))) else (some (Sum.inl (IntKind.wrap .i64 (s1262 + 1))))))) else (some (Sum.inr (Sum.inl s1262))))
abbrev S73_14 (y1265 : Int) : St := ⟨[(7, rb y1240), (11, rF 2), (15, .one (.ow (.one (.int .i64)) (law16_TileApart_r12_p y1245) (.v 15))), (16, .one (.ow (.one (.int .i64)) (law16_TileApart_r13_p y1246) (.v 16))), (17, ri y1265)], [[], [], (tsI7.leaves y1245.1), []], [], 134⟩
theorem law16_TileApart_l15_b : R73 C73.r.r.r.r.r.r.r.r.r.r.r.r.l.r.b.b (S73_12 y1240 y1245 y1246 s1262) (loopKont 4 q) = Option.bind (law16_TileApart_l15_p y1245 y1246 s1262) (either (fun y : Int => q .normal ⟨[(7, rb y1240), (11, rF 2), (15, .one (.ow (.one (.int .i64)) (law16_TileApart_r12_p y1245) (.v 15))), (16, .one (.ow (.one (.int .i64)) (law16_TileApart_r13_p y1246) (.v 16))), (17, ri y)], [[], [], (tsI7.leaves y1245.1), []], [], 134⟩) (either (fun y1265 : Int => q (.exit 0) (S73_14 y1240 y1245 y1246 y1265)) (fun y1266 : Unit => q .ret S73_13))) := by
  refine .trans ?_ (bif_b (bind_b fun y1264 => (bif_b e3_2 e3_0)) e3_1)
  refine .trans seq_push ?_
  refine (pre1 (law16_TileApart_fzx1 y1240 y1245 y1246 s1262 _)).trans ?_
  refine (cond_e (b := (decide (s1262 < 6))) (st' := (S73_12 y1240 y1245 y1246 s1262)) ).trans (bif_g ?_ ?_)
  · refine (skip_eq).trans ?_
    refine (seqC_normal (st' := (S73_12 y1240 y1245 y1246 s1262))).trans ?_
    refine .trans seq_push ?_
    refine (block_push (id := 1)).trans ?_
    refine (pre1 (law16_TileApart_r17 y1240 y1245 y1246 s1262 _)).trans (bind_g fun y1264 => ?_)
    refine (cond_e (b := y1264) (st' := (S73_12 y1240 y1245 y1246 s1262)) ).trans (bif_g ?_ ?_)
    · refine (pre1 (law16_TileApart_fzx2 y1240 y1245 y1246 s1262 _)).trans ?_
      refine (ret_eq).trans ?_
      refine block_ret.trans ?_
      refine seqC_ret.trans ?_
      kernel_rfl
    · refine (skip_eq).trans ?_
      refine block_normal.trans ?_
      refine (seqC_normal (st' := (S73_12 y1240 y1245 y1246 s1262))).trans ?_
      refine (law16_TileApart_r16 y1240 y1245 y1246 s1262 _).trans ?_
      kernel_rfl
  · refine ((exit_eq (j := 0))).trans ?_
    refine seqC_exit.trans ?_
    kernel_rfl
theorem law16_TileApart_l15 : R73 C73.r.r.r.r.r.r.r.r.r.r.r.r.l.r.b (S73_11 y1240 y1245 y1246) q = Option.bind (iterN (law16_TileApart_l15_p y1245 y1246) LL (0 : Int)) (either (fun y1265 : Int => q (.exit 0) (S73_14 y1240 y1245 y1246 y1265)) (fun y1266 : Unit => q .ret S73_13)) :=
  Eq.trans (by kernel_rfl) (loop_iter2 (S := fun s1262 : Int => (S73_12 y1240 y1245 y1246 s1262)) (Y1 := fun y1265 : Int => ((.exit 0), (S73_14 y1240 y1245 y1246 y1265))) (Y2 := fun y1266 : Unit => (.ret, S73_13)) (fun s q => law16_TileApart_l15_b y1240 y1245 y1246 s q) (fun z => rfl) (fun z => rfl) LL (0 : Int))
def law16_TileApart_r19_p : Option Bool := (bif y1240 then (bif (decide ((0 : Int) < ((law16_TileApart_r12_p y1245).length : Int))) then (bif ((gt (law16_TileApart_r12_p y1245) (0 : Int) (0 : Int)) == 0) then (some (decide (y1245.1.2.2.2.2.2.2 ≤ 1024))) else (some false)) else none) else (some false))
abbrev S73_15 : St := ⟨[(7, rb y1240), (11, rF 2), (15, .one (.ow (.one (.int .i64)) (law16_TileApart_r12_p y1245) (.v 15)))], [[], [], (tsI7.leaves y1245.1), []], [], 134⟩
theorem law16_TileApart_r19 : P73 1 C73.r.r.r.r.r.r.r.r.r.r.r.r.r (S73_15 y1240 y1245) k = Option.bind (law16_TileApart_r19_p y1240 y1245) (fun y1267 : Bool => k ⟨[(6, rb y1267)], [[], [], [], []], [], 134⟩) := .trans (by kernel_rfl) (bif_b (bif_b (bif_b some_b some_b) none_b) some_b)
/-- quilt/quiltlaw16.TileApart -/
def law16_TileApart : Option Bool := (Option.bind law16_shown (fun y1240 : Bool => (Option.bind (law16_few n_) (fun y1241 : Node => (Option.bind (law16_some in_) (fun y1242 : (List I4) => (Option.bind (ref03_Value y1241 y1242) (fun y1243 : (I4 × Int) => (bif (y1243.2 != 0) then (some y1240) else (Option.bind (law16_TileApart_r7_p y1243) (fun y1244 : Unit => (Option.bind (tile_Bufs y1241 y1242 (IntKind.wrap .i64 ((1 : Int) + (Int.tmod (IntKind.wrap .i64 rows) y1243.1.1)))) (fun y1245 : (I7 × Int) => (Option.bind (ref15_Most y1241 y1242 (IntKind.wrap .i64 ((1 : Int) + (Int.tmod (IntKind.wrap .i64 rows) y1243.1.1)))) (fun y1246 : (I3 × Int) => (bif (y1245.2 != 0) then (some (law16_TileApart_r11_p y1240 y1245)) else (Option.bind (iterN (law16_TileApart_l15_p y1245 y1246) LL (0 : Int)) (either (fun y1265 : Int => (Option.bind (law16_TileApart_r19_p y1240 y1245) (fun y1267 : Bool => (some y1267)))) (fun y1266 : Unit => (some false))))))))))))))))))))
theorem law16_TileApart_is : stepS E cp72 ce1 6 [rA tsNode n_, rl tsI4 in_, rk .u8 rows] = Option.bind (law16_TileApart n_ in_ rows) (fun y : Bool => some (rb y : R)) := by
  refine .trans ?_ (bind_b fun y1240 => (bind_b fun y1241 => (bind_b fun y1242 => (bind_b fun y1243 => (bif_b some_b (bind_b fun y1244 => (bind_b fun y1245 => (bind_b fun y1246 => (bif_b some_b (bind_b (either_b (fun y1265 => (bind_b fun y1267 => some_b)) (fun y1266 => some_b))))))))))))
  refine (stepG_is (nt := 134) (regs := [(0, rA tsNode n_), (1, rl tsI4 in_), (2, rk .u8 rows)])).trans ?_
  refine (pre2 (law16_TileApart_r1 n_ in_ rows _)).trans (bind_g fun y1240 => ?_)
  refine (pre1 (law16_TileApart_r2 n_ in_ rows y1240 _)).trans (bind_g fun y1241 => ?_)
  refine (pre1 (law16_TileApart_r3 in_ rows y1240 y1241 _)).trans (bind_g fun y1242 => ?_)
  refine (pre1 (law16_TileApart_r4 rows y1240 y1241 y1242 _)).trans (bind_g fun y1243 => ?_)
  refine .trans seq_push ?_
  refine (pre1 (law16_TileApart_f1000006 rows y1240 y1241 y1242 y1243 _)).trans ?_
  refine (cond_e (b := (y1243.2 != 0)) (st' := (S73_4 rows y1240 y1241 y1242 y1243)) ).trans (bif_g ?_ ?_)
  · refine (pre1 (law16_TileApart_fz rows y1240 y1241 y1242 y1243 _)).trans ?_
    refine (ret_eq).trans ?_
    refine seqC_ret.trans ?_
    kernel_rfl
  · refine (skip_eq).trans ?_
    refine (seqC_normal (st' := (S73_4 rows y1240 y1241 y1242 y1243))).trans ?_
    refine (pre1 (law16_TileApart_r7 rows y1240 y1241 y1242 y1243 _)).trans (bind_g fun y1244 => ?_)
    refine (pre1 (law16_TileApart_r8 rows y1240 y1241 y1242 y1243 _)).trans (bind_g fun y1245 => ?_)
    refine (pre1 (law16_TileApart_r9 rows y1240 y1241 y1242 y1243 y1245 _)).trans (bind_g fun y1246 => ?_)
    refine .trans seq_push ?_
    refine (pre1 (law16_TileApart_f1000011 y1240 y1245 y1246 _)).trans ?_
    refine (cond_e (b := (y1245.2 != 0)) (st' := (S73_7 y1240 y1245 y1246)) ).trans (bif_g ?_ ?_)
    · refine (pre1 (law16_TileApart_r11 y1240 y1245 y1246 _)).trans ?_
      refine (ret_eq).trans ?_
      refine seqC_ret.trans ?_
      kernel_rfl
    · refine (skip_eq).trans ?_
      refine (seqC_normal (st' := (S73_8 y1240 y1245 y1246))).trans ?_
      refine (pre1 (law16_TileApart_r12 y1240 y1245 y1246 _)).trans ?_
      refine (pre1 (law16_TileApart_r13 y1240 y1245 y1246 _)).trans ?_
      refine .trans seq_push ?_
      refine (pre1 (law16_TileApart_f15 y1240 y1245 y1246 _)).trans ?_
      refine (block_push (id := 0)).trans ?_
      refine (law16_TileApart_l15 y1240 y1245 y1246 _).trans (bind_g (either_g (fun y1265 => ?_) (fun y1266 => ?_)))
      · refine block_same.trans ?_
        refine (seqC_normal (st' := (S73_15 y1240 y1245))).trans ?_
        refine (pre1 (law16_TileApart_r19 y1240 y1245 _)).trans (bind_g fun y1267 => ?_)
        refine (ret_eq).trans ?_
        kernel_rfl
      · refine block_ret.trans ?_
        refine seqC_ret.trans ?_
        kernel_rfl
noncomputable def cp73 : CallP := withC cp72 6 [(.agg tsNode), (pL tsI4), (.one (.g (.int .u8)))] (.one pB) (fun y : Bool => y) (fun x => law16_TileApart x.1 x.2.1 x.2.2.1)
theorem cp73_ok : PureOK E cp73 := conS eok cp72_ok ce1_ok fun x => Eq.mp (by kernel_rfl) (law16_TileApart_is x.1 x.2.1 x.2.2.1)
theorem law16_TileApart_walk (ht : law16_TileApart n_ in_ rows = some true) (w : World) (vs : List Value) (hrd : ∀ γ : Gh, Free γ → rdRs w γ [argR true tsNode n_, argR false (.one (.sl tsI4)) in_, argR false (.one (.int .u8)) rows] vs) : Calls E.P 6 vs.toArray w fun e w' => e = .returned (.bool true) ∧ Below w.heap.size w w' :=
  walk_true (E := E) (stepS_ok eok cp72_ok ce1_ok) (show stepS E cp72 ce1 6 [rA tsNode n_, rl tsI4 in_, rk .u8 rows] = some (.one (.g .bool true)) from by rw [law16_TileApart_is, ht]; rfl) w fun γ hγ => Eq.mp (by kernel_rfl) (hrd γ hγ)
end
section
variable {α β : Type} (n_ : Node) (in_ : (List I4)) (rows : Int) (y1268 : Bool) (y1269 : (List I4)) (y1270 : Node) (y1271 : (I4 × Int)) (y1275 : (Int × Int)) (y1276 : (I7 × Int)) (y1279 : (Int × Int)) (y1280 : (I7 × Int)) (y1281 : (I3 × Int)) (y1282 : (Int × Int)) (y1283 : (I7 × Int)) (k : St → Option α)
noncomputable abbrev C74 := codeOf E.P 7
noncomputable abbrev P74 := @preK α E 7 cp73 ce1
abbrev S74_0 : St := ⟨[(1, rl tsI4 in_), (2, rk .u8 rows), (3, rF 0), (7, rb y1268)], [(tsNode.leaves n_)], [], 162⟩
theorem law16_TileSizes_r1 : P74 2 C74 ⟨[(0, rA tsNode n_), (1, rl tsI4 in_), (2, rk .u8 rows)], [], [], 162⟩ k = Option.bind law16_shown fun y1268 : Bool => k (S74_0 n_ in_ rows y1268) := by kernel_rfl
abbrev S74_1 : St := ⟨[(1, rl tsI4 y1269), (2, rk .u8 rows), (3, rF 0), (7, rb y1268)], [(tsNode.leaves n_)], [], 162⟩
theorem law16_TileSizes_r2 : P74 1 C74.r.r (S74_0 n_ in_ rows y1268) k = Option.bind (law16_some in_) fun y1269 : (List I4) => k (S74_1 n_ rows y1268 y1269) := by kernel_rfl
abbrev S74_2 : St := ⟨[(1, rl tsI4 y1269), (2, rk .u8 rows), (3, rF 0), (7, rb y1268)], [(tsNode.leaves y1270)], [], 162⟩
theorem law16_TileSizes_r3 : P74 1 C74.r.r.r (S74_1 n_ rows y1268 y1269) k = Option.bind (law16_few n_) fun y1270 : Node => k (S74_2 rows y1268 y1269 y1270) := by kernel_rfl
abbrev S74_3 : St := ⟨[(1, rl tsI4 y1269), (2, rk .u8 rows), (3, rF 0), (7, rb y1268), (8, rF 1), (9, ri y1271.2)], [(tsNode.leaves y1270), (tsI4.leaves y1271.1)], [], 162⟩
theorem law16_TileSizes_r4 : P74 1 C74.r.r.r.r (S74_2 rows y1268 y1269 y1270) k = Option.bind (ref03_Value y1270 y1269) fun y1271 : (I4 × Int) => k (S74_3 rows y1268 y1269 y1270 y1271) := by kernel_rfl
theorem law16_TileSizes_f1000006 : P74 1 C74.r.r.r.r.r.l (S74_3 rows y1268 y1269 y1270 y1271) k = k ⟨[(1, rl tsI4 y1269), (2, rk .u8 rows), (3, rF 0), (7, rb y1268), (8, rF 1), (9, ri y1271.2), (38, rb (y1271.2 != 0))], [(tsNode.leaves y1270), (tsI4.leaves y1271.1)], [], 162⟩ := by kernel_rfl
abbrev S74_4 : St := ⟨[(1, rl tsI4 y1269), (3, rF 0), (7, rb y1268), (9, ri y1271.2), (11, ri y1275.2)], [(tsNode.leaves y1270), []], [], 162⟩
theorem law16_TileSizes_r6 : P74 1 C74.r.r.r.r.r.l.r.t (S74_3 rows y1268 y1269 y1270 y1271) k = Option.bind (tile_Need y1270 y1269 (1 : Int)) fun y1275 : (Int × Int) => k (S74_4 y1268 y1269 y1270 y1271 y1275) := by kernel_rfl
theorem law16_TileSizes_r7 : P74 1 C74.r.r.r.r.r.l.r.t.r (S74_4 y1268 y1269 y1270 y1271 y1275) k = Option.bind (tile_Bufs y1270 y1269 (1 : Int)) fun y1276 : (I7 × Int) => k ⟨[(7, rb y1268), (9, ri y1271.2), (11, ri y1275.2), (13, ri y1276.2)], [[], [], []], [], 162⟩ := by kernel_rfl
def law16_TileSizes_r8_q (K : Bool → β) : β := (bif y1268 then (bif (y1275.2 == y1271.2) then (K (y1276.2 == y1271.2)) else (K false)) else (K false))
def law16_TileSizes_r8_p : Bool := law16_TileSizes_r8_q y1268 y1271 y1275 y1276 (fun y => y)
theorem law16_TileSizes_r8_n (K : Bool → β) : law16_TileSizes_r8_q y1268 y1271 y1275 y1276 K = K (law16_TileSizes_r8_p y1268 y1271 y1275 y1276) := (bif_k K (bif_k K rfl rfl) rfl)
theorem law16_TileSizes_r8 : P74 1 C74.r.r.r.r.r.l.r.t.r.r ⟨[(7, rb y1268), (9, ri y1271.2), (11, ri y1275.2), (13, ri y1276.2)], [[], [], []], [], 162⟩ k = k ⟨[(6, rb (law16_TileSizes_r8_p y1268 y1271 y1275 y1276))], [[], [], []], [], 162⟩ := Eq.trans (by kernel_rfl) (law16_TileSizes_r8_n y1268 y1271 y1275 y1276 (fun y1277 : Bool => k ⟨[(6, rb y1277)], [[], [], []], [], 162⟩))
def law16_TileSizes_r9_p : Option Unit := (bif (y1271.1.1 == 0) then none else (some ()))
abbrev S74_5 : St := ⟨[(1, rl tsI4 y1269), (2, rk .u8 rows), (3, rF 0), (7, rb y1268), (8, rF 1)], [(tsNode.leaves y1270), (tsI4.leaves y1271.1)], [], 162⟩
abbrev S74_6 : St := ⟨[(1, rl tsI4 y1269), (3, rF 0), (7, rb y1268), (8, rF 1), (14, ri (IntKind.wrap .i64 ((1 : Int) + (Int.tmod (IntKind.wrap .i64 rows) y1271.1.1))))], [(tsNode.leaves y1270), (tsI4.leaves y1271.1)], [], 162⟩
theorem law16_TileSizes_r9 : P74 1 C74.r.r.r.r.r.r (S74_5 rows y1268 y1269 y1270 y1271) k = Option.bind (law16_TileSizes_r9_p y1271) (fun y1278 : Unit => k (S74_6 rows y1268 y1269 y1270 y1271)) := .trans (by kernel_rfl) (bif_b none_b some_b)
abbrev S74_7 : St := ⟨[(1, rl tsI4 y1269), (3, rF 0), (7, rb y1268), (8, rF 1), (14, ri (IntKind.wrap .i64 ((1 : Int) + (Int.tmod (IntKind.wrap .i64 rows) y1271.1.1)))), (15, ri y1279.1), (16, ri y1279.2)], [(tsNode.leaves y1270), (tsI4.leaves y1271.1)], [], 162⟩
theorem law16_TileSizes_r10 : P74 1 C74.r.r.r.r.r.r.r (S74_6 rows y1268 y1269 y1270 y1271) k = Option.bind (tile_Need y1270 y1269 (IntKind.wrap .i64 ((1 : Int) + (Int.tmod (IntKind.wrap .i64 rows) y1271.1.1)))) fun y1279 : (Int × Int) => k (S74_7 rows y1268 y1269 y1270 y1271 y1279) := by kernel_rfl
abbrev S74_8 : St := ⟨[(1, rl tsI4 y1269), (3, rF 0), (7, rb y1268), (8, rF 1), (14, ri (IntKind.wrap .i64 ((1 : Int) + (Int.tmod (IntKind.wrap .i64 rows) y1271.1.1)))), (15, ri y1279.1), (16, ri y1279.2), (17, rF 2), (18, ri y1280.2)], [(tsNode.leaves y1270), (tsI4.leaves y1271.1), (tsI7.leaves y1280.1)], [], 162⟩
theorem law16_TileSizes_r11 : P74 1 C74.r.r.r.r.r.r.r.r (S74_7 rows y1268 y1269 y1270 y1271 y1279) k = Option.bind (tile_Bufs y1270 y1269 (IntKind.wrap .i64 ((1 : Int) + (Int.tmod (IntKind.wrap .i64 rows) y1271.1.1)))) fun y1280 : (I7 × Int) => k (S74_8 rows y1268 y1269 y1270 y1271 y1279 y1280) := by kernel_rfl
abbrev S74_9 : St := ⟨[(1, rl tsI4 y1269), (3, rF 0), (7, rb y1268), (8, rF 1), (15, ri y1279.1), (16, ri y1279.2), (17, rF 2), (18, ri y1280.2), (19, rF 3)], [(tsNode.leaves y1270), (tsI4.leaves y1271.1), (tsI7.leaves y1280.1), (tsI3.leaves y1281.1)], [], 162⟩
theorem law16_TileSizes_r12 : P74 1 C74.r.r.r.r.r.r.r.r.r (S74_8 rows y1268 y1269 y1270 y1271 y1279 y1280) k = Option.bind (ref15_Most y1270 y1269 (IntKind.wrap .i64 ((1 : Int) + (Int.tmod (IntKind.wrap .i64 rows) y1271.1.1)))) fun y1281 : (I3 × Int) => k (S74_9 y1268 y1269 y1270 y1271 y1279 y1280 y1281) := by kernel_rfl
abbrev S74_10 : St := ⟨[(1, rl tsI4 y1269), (3, rF 0), (7, rb y1268), (15, ri y1279.1), (16, ri y1279.2), (17, rF 2), (18, ri y1280.2), (19, rF 3), (22, ri y1282.2)], [(tsNode.leaves y1270), [], (tsI7.leaves y1280.1), (tsI3.leaves y1281.1)], [], 162⟩
theorem law16_TileSizes_r13 : P74 1 C74.r.r.r.r.r.r.r.r.r.r (S74_9 y1268 y1269 y1270 y1271 y1279 y1280 y1281) k = Option.bind (tile_Need y1270 y1269 (IntKind.wrap .i64 (y1271.1.1 + 1))) fun y1282 : (Int × Int) => k (S74_10 y1268 y1269 y1270 y1279 y1280 y1281 y1282) := by kernel_rfl
abbrev S74_11 : St := ⟨[(7, rb y1268), (15, ri y1279.1), (16, ri y1279.2), (17, rF 2), (18, ri y1280.2), (19, rF 3), (22, ri y1282.2), (24, ri y1283.2)], [[], [], (tsI7.leaves y1280.1), (tsI3.leaves y1281.1), []], [], 162⟩
theorem law16_TileSizes_r14 : P74 1 C74.r.r.r.r.r.r.r.r.r.r.r (S74_10 y1268 y1269 y1270 y1279 y1280 y1281 y1282) k = Option.bind (tile_Bufs y1270 y1269 (0 : Int)) fun y1283 : (I7 × Int) => k (S74_11 y1268 y1279 y1280 y1281 y1282 y1283) := by kernel_rfl
def law16_TileSizes_r16_q (K : Bool → β) : β := (bif y1268 then (bif (y1279.2 == 0) then (bif (y1279.1 == (IntKind.wrap .i64 ((2 : Int) * (IntKind.wrap .i64 ((IntKind.wrap .i64 (y1281.1.1 + y1281.1.2.1)) + y1281.1.2.2))))) then (bif ((Int.tmod y1279.1 (2 : Int)) == 0) then (bif ((y1280.2 == 0) == (decide (y1279.1 ≤ 1024))) then (bif (!(decide (y1279.1 ≤ 1024))) then (bif (decide (y1279.1 ≤ 1024)) then (bif (y1282.2 == 1) then (K (y1283.2 == 1)) else (K false)) else (bif (y1280.2 == 26) then (bif (y1282.2 == 1) then (K (y1283.2 == 1)) else (K false)) else (K false))) else (bif (y1280.1.2.2.2.2.2.2 == y1279.1) then (bif (decide (y1279.1 ≤ 1024)) then (bif (y1282.2 == 1) then (K (y1283.2 == 1)) else (K false)) else (bif (y1280.2 == 26) then (bif (y1282.2 == 1) then (K (y1283.2 == 1)) else (K false)) else (K false))) else (K false))) else (K false)) else (K false)) else (K false)) else (K false)) else (K false))
def law16_TileSizes_r16_p : Bool := law16_TileSizes_r16_q y1268 y1279 y1280 y1281 y1282 y1283 (fun y => y)
theorem law16_TileSizes_r16_n (K : Bool → β) : law16_TileSizes_r16_q y1268 y1279 y1280 y1281 y1282 y1283 K = K (law16_TileSizes_r16_p y1268 y1279 y1280 y1281 y1282 y1283) := (bif_k K (bif_k K (bif_k K (bif_k K (bif_k K (bif_k K (bif_k K (bif_k K rfl rfl) (bif_k K (bif_k K rfl rfl) rfl)) (bif_k K (bif_k K (bif_k K rfl rfl) (bif_k K (bif_k K rfl rfl) rfl)) rfl)) rfl) rfl) rfl) rfl) rfl)
theorem law16_TileSizes_r16 : P74 2 C74.r.r.r.r.r.r.r.r.r.r.r.r (S74_11 y1268 y1279 y1280 y1281 y1282 y1283) k = k ⟨[(6, rb (law16_TileSizes_r16_p y1268 y1279 y1280 y1281 y1282 y1283))], [[], [], [], [], []], [], 162⟩ := Eq.trans (by kernel_rfl) (law16_TileSizes_r16_n y1268 y1279 y1280 y1281 y1282 y1283 (fun y1284 : Bool => k ⟨[(6, rb y1284)], [[], [], [], [], []], [], 162⟩))
/-- quilt/quiltlaw16.TileSizes -/
def law16_TileSizes : Option Bool := (Option.bind law16_shown (fun y1268 : Bool => (Option.bind (law16_some in_) (fun y1269 : (List I4) => (Option.bind (law16_few n_) (fun y1270 : Node => (Option.bind (ref03_Value y1270 y1269) (fun y1271 : (I4 × Int) => (bif (y1271.2 != 0) then (Option.bind (tile_Need y1270 y1269 (1 : Int)) (fun y1275 : (Int × Int) => (Option.bind (tile_Bufs y1270 y1269 (1 : Int)) (fun y1276 : (I7 × Int) => (some (law16_TileSizes_r8_p y1268 y1271 y1275 y1276)))))) else (Option.bind (law16_TileSizes_r9_p y1271) (fun y1278 : Unit => (Option.bind (tile_Need y1270 y1269 (IntKind.wrap .i64 ((1 : Int) + (Int.tmod (IntKind.wrap .i64 rows) y1271.1.1)))) (fun y1279 : (Int × Int) => (Option.bind (tile_Bufs y1270 y1269 (IntKind.wrap .i64 ((1 : Int) + (Int.tmod (IntKind.wrap .i64 rows) y1271.1.1)))) (fun y1280 : (I7 × Int) => (Option.bind (ref15_Most y1270 y1269 (IntKind.wrap .i64 ((1 : Int) + (Int.tmod (IntKind.wrap .i64 rows) y1271.1.1)))) (fun y1281 : (I3 × Int) => (Option.bind (tile_Need y1270 y1269 (IntKind.wrap .i64 (y1271.1.1 + 1))) (fun y1282 : (Int × Int) => (Option.bind (tile_Bufs y1270 y1269 (0 : Int)) (fun y1283 : (I7 × Int) => (some (law16_TileSizes_r16_p y1268 y1279 y1280 y1281 y1282 y1283)))))))))))))))))))))))
theorem law16_TileSizes_is : stepS E cp73 ce1 7 [rA tsNode n_, rl tsI4 in_, rk .u8 rows] = Option.bind (law16_TileSizes n_ in_ rows) (fun y : Bool => some (rb y : R)) := by
  refine .trans ?_ (bind_b fun y1268 => (bind_b fun y1269 => (bind_b fun y1270 => (bind_b fun y1271 => (bif_b (bind_b fun y1275 => (bind_b fun y1276 => some_b)) (bind_b fun y1278 => (bind_b fun y1279 => (bind_b fun y1280 => (bind_b fun y1281 => (bind_b fun y1282 => (bind_b fun y1283 => some_b)))))))))))
  refine (stepG_is (nt := 162) (regs := [(0, rA tsNode n_), (1, rl tsI4 in_), (2, rk .u8 rows)])).trans ?_
  refine (pre2 (law16_TileSizes_r1 n_ in_ rows _)).trans (bind_g fun y1268 => ?_)
  refine (pre1 (law16_TileSizes_r2 n_ in_ rows y1268 _)).trans (bind_g fun y1269 => ?_)
  refine (pre1 (law16_TileSizes_r3 n_ rows y1268 y1269 _)).trans (bind_g fun y1270 => ?_)
  refine (pre1 (law16_TileSizes_r4 rows y1268 y1269 y1270 _)).trans (bind_g fun y1271 => ?_)
  refine .trans seq_push ?_
  refine (pre1 (law16_TileSizes_f1000006 rows y1268 y1269 y1270 y1271 _)).trans ?_
  refine (cond_e (b := (y1271.2 != 0)) (st' := (S74_3 rows y1268 y1269 y1270 y1271)) ).trans (bif_g ?_ ?_)
  · refine (pre1 (law16_TileSizes_r6 rows y1268 y1269 y1270 y1271 _)).trans (bind_g fun y1275 => ?_)
    refine (pre1 (law16_TileSizes_r7 y1268 y1269 y1270 y1271 y1275 _)).trans (bind_g fun y1276 => ?_)
    refine (pre1 (law16_TileSizes_r8 y1268 y1271 y1275 y1276 _)).trans ?_
    refine (ret_eq).trans ?_
    refine seqC_ret.trans ?_
    kernel_rfl
  · refine (skip_eq).trans ?_
    refine (seqC_normal (st' := (S74_5 rows y1268 y1269 y1270 y1271))).trans ?_
    refine (pre1 (law16_TileSizes_r9 rows y1268 y1269 y1270 y1271 _)).trans (bind_g fun y1278 => ?_)
    refine (pre1 (law16_TileSizes_r10 rows y1268 y1269 y1270 y1271 _)).trans (bind_g fun y1279 => ?_)
    refine (pre1 (law16_TileSizes_r11 rows y1268 y1269 y1270 y1271 y1279 _)).trans (bind_g fun y1280 => ?_)
    refine (pre1 (law16_TileSizes_r12 rows y1268 y1269 y1270 y1271 y1279 y1280 _)).trans (bind_g fun y1281 => ?_)
    refine (pre1 (law16_TileSizes_r13 y1268 y1269 y1270 y1271 y1279 y1280 y1281 _)).trans (bind_g fun y1282 => ?_)
    refine (pre1 (law16_TileSizes_r14 y1268 y1269 y1270 y1279 y1280 y1281 y1282 _)).trans (bind_g fun y1283 => ?_)
    refine (pre2 (law16_TileSizes_r16 y1268 y1279 y1280 y1281 y1282 y1283 _)).trans ?_
    refine (ret_eq).trans ?_
    kernel_rfl
noncomputable def cp74 : CallP := withC cp73 7 [(.agg tsNode), (pL tsI4), (.one (.g (.int .u8)))] (.one pB) (fun y : Bool => y) (fun x => law16_TileSizes x.1 x.2.1 x.2.2.1)
theorem cp74_ok : PureOK E cp74 := conS eok cp73_ok ce1_ok fun x => Eq.mp (by kernel_rfl) (law16_TileSizes_is x.1 x.2.1 x.2.2.1)
theorem law16_TileSizes_walk (ht : law16_TileSizes n_ in_ rows = some true) (w : World) (vs : List Value) (hrd : ∀ γ : Gh, Free γ → rdRs w γ [argR true tsNode n_, argR false (.one (.sl tsI4)) in_, argR false (.one (.int .u8)) rows] vs) : Calls E.P 7 vs.toArray w fun e w' => e = .returned (.bool true) ∧ Below w.heap.size w w' :=
  walk_true (E := E) (stepS_ok eok cp73_ok ce1_ok) (show stepS E cp73 ce1 7 [rA tsNode n_, rl tsI4 in_, rk .u8 rows] = some (.one (.g .bool true)) from by rw [law16_TileSizes_is, ht]; rfl) w fun γ hγ => Eq.mp (by kernel_rfl) (hrd γ hγ)
end
end Go.V.P
