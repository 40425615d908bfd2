/- What functions compute. -/
import Derived.Test.YtelfooangijedaaHaEnv
namespace Go.V.P
open Go.RowKit Go.V Go.Proofs
set_option linter.unusedVariables false
set_option maxRecDepth 100000
section
variable {α β : Type} (h_ : Int) (rows : Int) (s9 : ((List I2) × Int)) (y12 : ((List I2) × Int)) (k : St → Option α) (q : Kont α)
noncomputable abbrev C0 := codeOf E.P 15
noncomputable abbrev P0 := @preK α E 15 cpA noE
noncomputable abbrev R0 := @runCode α E 15 cpA noE
abbrev S0_0 : St := ⟨[(0, ri h_), (1, ri rows)], [], [], 34⟩
theorem halo_Tiles_f1 : P0 1 C0 (S0_0 h_ rows) k = k (S0_0 h_ rows) := by kernel_rfl
def halo_Tiles_r1_q (K : Bool → β) : β := (bif (decide ((min h_ rows) < 1)) then (K true) else (K (decide ((max h_ rows) > 16))))
def halo_Tiles_r1_p : Bool := halo_Tiles_r1_q h_ rows (fun y => y)
theorem halo_Tiles_r1_n (K : Bool → β) : halo_Tiles_r1_q h_ rows K = K (halo_Tiles_r1_p h_ rows) := (bif_k K rfl rfl)
theorem halo_Tiles_r1 : P0 1 C0.r.l (S0_0 h_ rows) k = k ⟨[(0, ri h_), (1, ri rows), (16, rb (halo_Tiles_r1_p h_ rows))], [], [], 34⟩ := Eq.trans (by kernel_rfl) (halo_Tiles_r1_n h_ rows (fun y2 : Bool => k ⟨[(0, ri h_), (1, ri rows), (16, rb y2)], [], [], 34⟩))
theorem halo_Tiles_fz : P0 1 C0.r.l.r.t (S0_0 h_ rows) k = k ⟨[(4, .one (.ow tsI2 [] (.v 4)))], [], [], 34⟩ := by kernel_rfl
abbrev S0_1 : St := ⟨[(0, ri h_), (1, ri rows), (5, .one (.ow tsI2 [] (.v 5)))], [], [], 34⟩
theorem halo_Tiles_f4 : P0 1 C0.r.r (S0_0 h_ rows) k = k (S0_1 h_ rows) := by kernel_rfl
abbrev S0_2 : St := ⟨[(0, ri h_), (1, ri rows), (5, .one (.ow tsI2 [] (.v 5))), (6, ri 0)], [], [], 34⟩
theorem halo_Tiles_f5 : P0 1 C0.r.r.r.l (S0_1 h_ rows) k = k (S0_2 h_ rows) := by kernel_rfl
abbrev S0_3 : St := ⟨[(0, ri h_), (1, ri rows), (5, rO tsI2 s9.1 5), (6, ri s9.2)], [], [], 34⟩
theorem halo_Tiles_fzx1 : P0 1 C0.r.r.r.l.r.b.b.l (S0_3 h_ rows s9) k = k ⟨[(0, ri h_), (1, ri rows), (5, rO tsI2 s9.1 5), (6, ri s9.2), (19, rb (decide (s9.2 < h_)))], [], [], 34⟩ := by kernel_rfl
def halo_Tiles_r7_p : Option Unit := (bif (decide (s9.1.length + ([(s9.2, (min rows (IntKind.wrap .i64 (h_ - s9.2))))] : List I2).length ≤ maxL)) then (some ()) else none)
abbrev S0_4 : St := ⟨[(0, ri h_), (1, ri rows), (5, .one (.ow tsI2 (s9.1 ++ [(s9.2, (min rows (IntKind.wrap .i64 (h_ - s9.2))))]) (.v 5))), (6, ri s9.2)], [], [], 34⟩
theorem halo_Tiles_r7 : R0 C0.r.r.r.l.r.b.b.r.l.b (S0_3 h_ rows s9) q = Option.bind (halo_Tiles_r7_p h_ rows s9) (fun y11 : Unit => q .normal (S0_4 h_ rows s9)) := .trans (by kernel_rfl) (bif_b some_b none_b)
theorem halo_Tiles_r6 : R0 C0.r.r.r.l.r.b.b.r.r (S0_4 h_ rows s9) q = q .normal ⟨[(0, ri h_), (1, ri rows), (5, .one (.ow tsI2 (s9.1 ++ [(s9.2, (min rows (IntKind.wrap .i64 (h_ - s9.2))))]) (.v 5))), (6, ri (IntKind.wrap .i64 (s9.2 + rows)))], [], [], 34⟩ := by kernel_rfl
def halo_Tiles_l5_p : Option (((List I2) × Int) ⊕ ((List I2) × Int)) := (bif (decide (s9.2 < h_)) then (Option.bind (halo_Tiles_r7_p h_ rows s9) (fun y11 : Unit => (some (Sum.inl ((s9.1 ++ [(s9.2, (min rows (IntKind.wrap .i64 (h_ - s9.2))))]), (IntKind.wrap .i64 (s9.2 + rows))))))) else (some (Sum.inr s9)))
abbrev S0_5 : St := ⟨[(0, ri h_), (1, ri rows), (5, rO tsI2 y12.1 5), (6, ri y12.2)], [], [], 34⟩
theorem halo_Tiles_l5_b : R0 C0.r.r.r.l.r.b.b (S0_3 h_ rows s9) (loopKont 0 q) = Option.bind (halo_Tiles_l5_p h_ rows s9) (either (fun y : ((List I2) × Int) => q .normal ⟨[(0, ri h_), (1, ri rows), (5, rO tsI2 y.1 5), (6, ri y.2)], [], [], 34⟩) (fun y12 : ((List I2) × Int) => q (.exit 0) (S0_5 h_ rows y12))) := by
  refine .trans ?_ (bif_b (bind_b fun y11 => e2_0) e2_1)
  refine .trans seq_push ?_
  refine (pre1 (halo_Tiles_fzx1 h_ rows s9 _)).trans ?_
  refine (cond_e (b := (decide (s9.2 < h_))) (st' := (S0_3 h_ rows s9)) ).trans (bif_g ?_ ?_)
  · refine (skip_eq).trans ?_
    refine (seqC_normal (st' := (S0_3 h_ rows s9))).trans ?_
    refine .trans seq_push ?_
    refine (block_push (id := 1)).trans ?_
    refine (halo_Tiles_r7 h_ rows s9 _).trans (bind_g fun y11 => ?_)
    refine block_normal.trans ?_
    refine (seqC_normal (st' := (S0_4 h_ rows s9))).trans ?_
    refine (halo_Tiles_r6 h_ rows s9 _).trans ?_
    kernel_rfl
  · refine ((exit_eq (j := 0))).trans ?_
    refine seqC_exit.trans ?_
    kernel_rfl
theorem halo_Tiles_l5 : R0 C0.r.r.r.l.r.b (S0_2 h_ rows) q = Option.bind (iterN (halo_Tiles_l5_p h_ rows) LL ([], (0 : Int))) (fun y12 : ((List I2) × Int) => q (.exit 0) (S0_5 h_ rows y12)) :=
  Eq.trans (by kernel_rfl) (loop_iter1 (S := fun s9 : ((List I2) × Int) => (S0_3 h_ rows s9)) (Y1 := fun y12 : ((List I2) × Int) => ((.exit 0), (S0_5 h_ rows y12))) (fun s q => halo_Tiles_l5_b h_ rows s q) (fun z => rfl) LL ([], (0 : Int)))
theorem halo_Tiles_fzx2 : P0 1 C0.r.r.r.r ⟨[(5, rO tsI2 y12.1 5)], [], [], 34⟩ k = k ⟨[(4, rO tsI2 y12.1 5)], [], [], 34⟩ := by kernel_rfl
/-- quilt/halo.Tiles -/
def halo_Tiles : Option (List I2) := (bif (halo_Tiles_r1_p h_ rows) then (some []) else (Option.bind (iterN (halo_Tiles_l5_p h_ rows) LL ([], (0 : Int))) (fun y12 : ((List I2) × Int) => (some y12.1))))
theorem halo_Tiles_is : stepO E cpA noE 15 [ri h_, ri rows] = Option.bind (halo_Tiles h_ rows) (fun y : (List I2) => some (.one (.ow tsI2 y (.s 0)) : R)) := by
  refine .trans ?_ (bif_b some_b (bind_b fun y12 => some_b))
  refine (stepG_is (nt := 34) (regs := [(0, ri h_), (1, ri rows)])).trans ?_
  refine (pre1 (halo_Tiles_f1 h_ rows _)).trans ?_
  refine .trans seq_push ?_
  refine (pre1 (halo_Tiles_r1 h_ rows _)).trans ?_
  refine (cond_e (b := (halo_Tiles_r1_p h_ rows)) (st' := (S0_0 h_ rows)) ).trans (bif_g ?_ ?_)
  · refine (pre1 (halo_Tiles_fz h_ rows _)).trans ?_
    refine (ret_eq).trans ?_
    refine seqC_ret.trans ?_
    kernel_rfl
  · refine (skip_eq).trans ?_
    refine (seqC_normal (st' := (S0_0 h_ rows))).trans ?_
    refine (pre1 (halo_Tiles_f4 h_ rows _)).trans ?_
    refine .trans seq_push ?_
    refine (pre1 (halo_Tiles_f5 h_ rows _)).trans ?_
    refine (block_push (id := 0)).trans ?_
    refine (halo_Tiles_l5 h_ rows _).trans (bind_g fun y12 => ?_)
    refine block_same.trans ?_
    refine (seqC_normal (st' := ⟨[(5, rO tsI2 y12.1 5)], [], [], 34⟩)).trans ?_
    refine (pre1 (halo_Tiles_fzx2 y12 _)).trans ?_
    refine (ret_eq).trans ?_
    kernel_rfl
noncomputable def cp1 : CallP := withC cpA 15 [pI, pI] (.one (.one (.ow tsI2))) (fun y : (List I2) => y) (fun x => halo_Tiles x.1 x.2.1)
theorem cp1_ok : PureOK E cp1 := conO eok cpA_ok noE_ok fun x => Eq.mp (by kernel_rfl) (halo_Tiles_is x.1 x.2.1)
end
section
variable {α : Type} (s_ : (List Int)) (v_ : Int) (s25 : Int) (k : St → Option α) (q : Kont α)
noncomputable abbrev C1 := codeOf E.P 46
noncomputable abbrev P1 := @preK α E 46 cp1 noE
noncomputable abbrev R1 := @runCode α E 46 cp1 noE
abbrev S1_0 : St := ⟨[(0, rl (.one (.int .i64)) s_), (1, ri v_)], [], [], 19⟩
theorem slices_Indexint_int_f1 : P1 1 C1 (S1_0 s_ v_) k = k (S1_0 s_ v_) := by kernel_rfl
abbrev S1_1 : St := ⟨[(0, rl (.one (.int .i64)) s_), (1, ri v_), (7, ri (s_.length : Int)), (8, ri 0)], [], [], 19⟩
theorem slices_Indexint_int_f2 : P1 1 C1.r.l (S1_0 s_ v_) k = k (S1_1 s_ v_) := by kernel_rfl
abbrev S1_2 : St := ⟨[(0, rl (.one (.int .i64)) s_), (1, ri v_), (7, ri (s_.length : Int)), (8, ri s25)], [], [], 19⟩
theorem slices_Indexint_int_fz : P1 1 C1.r.l.r.b.b (S1_2 s_ v_ s25) k = k ⟨[(0, rl (.one (.int .i64)) s_), (1, ri v_), (7, ri (s_.length : Int)), (8, ri s25), (9, rb (decide (s25 < (s_.length : Int))))], [], [], 19⟩ := by kernel_rfl
def slices_Indexint_int_r4_p : Option Unit := (bif (decide ((0 : Int) ≤ s25)) then (bif (decide (s25 < (s_.length : Int))) then (some ()) else none) else none)
theorem slices_Indexint_int_r4 : P1 2 C1.r.l.r.b.b.r.r.l.b (S1_2 s_ v_ s25) k = Option.bind (slices_Indexint_int_r4_p s_ s25) (fun y27 : Unit => k ⟨[(0, rl (.one (.int .i64)) s_), (1, ri v_), (5, ri s25), (7, ri (s_.length : Int)), (8, ri s25), (16, rb (v_ == (gt s_ s25 (0 : Int))))], [], [], 19⟩) := .trans (by kernel_rfl) (bif_b (bif_b some_b none_b) none_b)
abbrev S1_3 : St := ⟨[(0, rl (.one (.int .i64)) s_), (1, ri v_), (5, ri s25), (7, ri (s_.length : Int)), (8, ri s25)], [], [], 19⟩
theorem slices_Indexint_int_fzx1 : P1 1 C1.r.l.r.b.b.r.r.l.b.r.r.t (S1_3 s_ v_ s25) k = k ⟨[(4, ri s25)], [], [], 19⟩ := by kernel_rfl
theorem slices_Indexint_int_r6 : R1 C1.r.l.r.b.b.r.r.r (S1_2 s_ v_ s25) q = q .normal ⟨[(0, rl (.one (.int .i64)) s_), (1, ri v_), (7, ri (s_.length : Int)), (8, ri (IntKind.wrap .i64 (s25 + 1)))], [], [], 19⟩ := by kernel_rfl
def slices_Indexint_int_l2_p : Option (Int ⊕ (Int ⊕ Int)) := (bif (decide (s25 < (s_.length : Int))) then (Option.bind (slices_Indexint_int_r4_p s_ s25) (fun y27 : Unit => (bif (v_ == (gt s_ s25 (0 : Int))) then (some (Sum.inr (Sum.inr s25))) else (some (Sum.inl (IntKind.wrap .i64 (s25 + 1))))))) else (some (Sum.inr (Sum.inl s25))))
abbrev S1_4 (y28 : Int) : St := ⟨[(0, rl (.one (.int .i64)) s_), (1, ri v_), (7, ri (s_.length : Int)), (8, ri y28)], [], [], 19⟩
theorem slices_Indexint_int_l2_b : R1 C1.r.l.r.b.b (S1_2 s_ v_ s25) (loopKont 0 q) = Option.bind (slices_Indexint_int_l2_p s_ v_ s25) (either (fun y : Int => q .normal ⟨[(0, rl (.one (.int .i64)) s_), (1, ri v_), (7, ri (s_.length : Int)), (8, ri y)], [], [], 19⟩) (either (fun y28 : Int => q (.exit 0) (S1_4 s_ v_ y28)) (fun y29 : Int => q .ret ⟨[(4, ri y29)], [], [], 19⟩))) := by
  refine .trans ?_ (bif_b (bind_b fun y27 => (bif_b e3_2 e3_0)) e3_1)
  refine (pre1 (slices_Indexint_int_fz s_ v_ s25 _)).trans ?_
  refine .trans seq_push ?_
  refine (cond_e (b := (decide (s25 < (s_.length : Int)))) (st' := (S1_2 s_ v_ s25)) ).trans (bif_g ?_ ?_)
  · refine (skip_eq).trans ?_
    refine (seqC_normal (st' := (S1_2 s_ v_ s25))).trans ?_
    refine .trans seq_push ?_
    refine (block_push (id := 1)).trans ?_
    refine (pre2 (slices_Indexint_int_r4 s_ v_ s25 _)).trans (bind_g fun y27 => ?_)
    refine (cond_e (b := (v_ == (gt s_ s25 (0 : Int)))) (st' := (S1_3 s_ v_ s25)) ).trans (bif_g ?_ ?_)
    · refine (pre1 (slices_Indexint_int_fzx1 s_ v_ s25 _)).trans ?_
      refine (ret_eq).trans ?_
      refine block_ret.trans ?_
      refine seqC_ret.trans ?_
      kernel_rfl
    · refine (skip_eq).trans ?_
      refine block_normal.trans ?_
      refine (seqC_normal (st' := (S1_2 s_ v_ s25))).trans ?_
      refine (slices_Indexint_int_r6 s_ v_ s25 _).trans ?_
      kernel_rfl
  · refine ((exit_eq (j := 0))).trans ?_
    refine seqC_exit.trans ?_
    kernel_rfl
theorem slices_Indexint_int_l2 : R1 C1.r.l.r.b (S1_1 s_ v_) q = Option.bind (iterN (slices_Indexint_int_l2_p s_ v_) LL (0 : Int)) (either (fun y28 : Int => q (.exit 0) (S1_4 s_ v_ y28)) (fun y29 : Int => q .ret ⟨[(4, ri y29)], [], [], 19⟩)) :=
  Eq.trans (by kernel_rfl) (loop_iter2 (S := fun s25 : Int => (S1_2 s_ v_ s25)) (Y1 := fun y28 : Int => ((.exit 0), (S1_4 s_ v_ y28))) (Y2 := fun y29 : Int => (.ret, ⟨[(4, ri y29)], [], [], 19⟩)) (fun s q => slices_Indexint_int_l2_b s_ v_ s q) (fun z => rfl) (fun z => rfl) LL (0 : Int))
theorem slices_Indexint_int_fzx2 : P1 1 C1.r.r ⟨[], [], [], 19⟩ k = k ⟨[(4, ri (-1 : Int))], [], [], 19⟩ := by kernel_rfl
/-- slices.Index[[]int,int] -/
def slices_Indexint_int : Option Int := (Option.bind (iterN (slices_Indexint_int_l2_p s_ v_) LL (0 : Int)) (either (fun y28 : Int => (some (-1 : Int))) (fun y29 : Int => (some y29))))
theorem slices_Indexint_int_is : stepS E cp1 noE 46 [rl (.one (.int .i64)) s_, ri v_] = Option.bind (slices_Indexint_int s_ v_) (fun y : Int => some (ri y : R)) := by
  refine .trans ?_ (bind_b (either_b (fun y28 => some_b) (fun y29 => some_b)))
  refine (stepG_is (nt := 19) (regs := [(0, rl (.one (.int .i64)) s_), (1, ri v_)])).trans ?_
  refine (pre1 (slices_Indexint_int_f1 s_ v_ _)).trans ?_
  refine .trans seq_push ?_
  refine (pre1 (slices_Indexint_int_f2 s_ v_ _)).trans ?_
  refine (block_push (id := 0)).trans ?_
  refine (slices_Indexint_int_l2 s_ v_ _).trans (bind_g (either_g (fun y28 => ?_) (fun y29 => ?_)))
  · refine block_same.trans ?_
    refine (seqC_normal (st' := ⟨[], [], [], 19⟩)).trans ?_
    refine (pre1 (slices_Indexint_int_fzx2 _)).trans ?_
    refine (ret_eq).trans ?_
    kernel_rfl
  · refine block_ret.trans ?_
    refine seqC_ret.trans ?_
    kernel_rfl
noncomputable def cp2 : CallP := withC cp1 46 [(.one (.g (.sl (.one (.int .i64))))), pI] (.one pI) (fun y : Int => y) (fun x => slices_Indexint_int x.1 x.2.1)
theorem cp2_ok : PureOK E cp2 := conS eok cp1_ok noE_ok fun x => Eq.mp (by kernel_rfl) (slices_Indexint_int_is x.1 x.2.1)
end
section
variable {α : Type} (s_ : (List Int)) (v_ : Int) (k : St → Option α)
noncomputable abbrev C2 := codeOf E.P 30
noncomputable abbrev P2 := @preK α E 30 cp2 noE
theorem slices_Containsint_int_r1 : P2 2 C2 ⟨[(0, rl (.one (.int .i64)) s_), (1, ri v_)], [], [], 9⟩ k = Option.bind (slices_Indexint_int s_ v_) fun y30 : Int => k ⟨[(4, rb (decide (y30 ≥ 0)))], [], [], 9⟩ := by kernel_rfl
/-- slices.Contains[[]int,int] -/
def slices_Containsint_int : Option Bool := (Option.bind (slices_Indexint_int s_ v_) (fun y30 : Int => (some (decide (y30 ≥ 0)))))
theorem slices_Containsint_int_is : stepS E cp2 noE 30 [rl (.one (.int .i64)) s_, ri v_] = Option.bind (slices_Containsint_int s_ v_) (fun y : Bool => some (rb y : R)) := by
  refine .trans ?_ (bind_b fun y30 => some_b)
  refine (stepG_is (nt := 9) (regs := [(0, rl (.one (.int .i64)) s_), (1, ri v_)])).trans ?_
  refine (pre2 (slices_Containsint_int_r1 s_ v_ _)).trans (bind_g fun y30 => ?_)
  refine (ret_eq).trans ?_
  kernel_rfl
noncomputable def cp3 : CallP := withC cp2 30 [(.one (.g (.sl (.one (.int .i64))))), pI] (.one pB) (fun y : Bool => y) (fun x => slices_Containsint_int x.1 x.2.1)
theorem cp3_ok : PureOK E cp3 := conS eok cp2_ok noE_ok fun x => Eq.mp (by kernel_rfl) (slices_Containsint_int_is x.1 x.2.1)
end
noncomputable abbrev C3 := codeOf E.P 17
noncomputable abbrev P3 {α : Type} := @preK α E 17 cp3 noE
def halo_Npu_r2_p (op : Int) : Option Bool := (bif (decide (op ≥ 1)) then (bif (decide (op ≤ 12)) then (Option.bind (slices_Containsint_int [(3 : Int), (9 : Int), (10 : Int), (11 : Int)] op) (fun y31 : Bool => (some (!y31)))) else (some false)) else (some false))
theorem halo_Npu_r2 {α : Type} (op : Int) (k : St → Option α) : P3 3 C3 ⟨[(0, ri op)], [], [], 17⟩ k = Option.bind (halo_Npu_r2_p op) (fun y32 : Bool => k ⟨[(2, rb y32)], [[]], [], 17⟩) := .trans (by kernel_rfl) (bif_b (bif_b (bind_b fun y31 => some_b) some_b) some_b)
/-- quilt/halo.Npu -/
def halo_Npu (op : Int) : Option Bool := (Option.bind (halo_Npu_r2_p op) (fun y32 : Bool => (some y32)))
theorem halo_Npu_is (op : Int) : stepS E cp3 noE 17 [ri op] = Option.bind (halo_Npu op) (fun y : Bool => some (rb y : R)) := by
  refine .trans ?_ (bind_b fun y32 => some_b)
  refine (stepG_is (nt := 17) (regs := [(0, ri op)])).trans ?_
  refine (pre3 (halo_Npu_r2 op _)).trans (bind_g fun y32 => ?_)
  refine (ret_eq).trans ?_
  kernel_rfl
noncomputable def cp4 : CallP := withC cp3 17 [pI] (.one pB) (fun y : Bool => y) (fun x => halo_Npu x.1)
theorem cp4_ok : PureOK E cp4 := conS eok cp3_ok noE_ok fun x => Eq.mp (by kernel_rfl) (halo_Npu_is x.1)
noncomputable abbrev C4 := codeOf E.P 7
noncomputable abbrev P4 {α : Type} := @preK α E 7 cp4 noE
theorem law15_shown_r1 {α : Type} (k : St → Option α) : P4 2 C4 ⟨[], [], [], 27⟩ k = Option.bind (halo_Tiles (5 : Int) (2 : Int)) fun y13 : (List I2) => k ⟨[(1, rO tsI2 y13 1)], [], [], 27⟩ := by kernel_rfl
def law15_shown_r2_p (y13 : (List I2)) : Option Bool := (bif ((y13.length : Int) == 3) then (bif (decide ((0 : Int) < (y13.length : Int))) then (bif ((((gt y13 (0 : Int) dI2).1) == 0) && ((((gt y13 (0 : Int) dI2).2) == 2) && true)) then (bif (decide ((2 : Int) < (y13.length : Int))) then (bif ((((gt y13 (2 : Int) dI2).1) == 4) && ((((gt y13 (2 : Int) dI2).2) == 1) && true)) then (Option.bind (halo_Npu (1 : Int)) (fun y33 : Bool => (bif y33 then (Option.bind (halo_Npu (3 : Int)) (fun y34 : Bool => (some (!y34)))) else (some false)))) else (some false)) else none) else (some false)) else none) else (some false))
theorem law15_shown_r2 {α : Type} (y13 : (List I2)) (k : St → Option α) : P4 1 C4.r.r ⟨[(1, rO tsI2 y13 1)], [], [], 27⟩ k = Option.bind (law15_shown_r2_p y13) (fun y35 : Bool => k ⟨[(0, rb y35)], [], [], 27⟩) := .trans (by kernel_rfl) (bif_b (bif_b (bif_b (bif_b (bif_b (bind_b fun y33 => (bif_b (bind_b fun y34 => some_b) some_b)) some_b) none_b) some_b) none_b) some_b)
/-- quilt/quiltlaw15.shown -/
def law15_shown : Option Bool := (Option.bind (halo_Tiles (5 : Int) (2 : Int)) (fun y13 : (List I2) => (Option.bind (law15_shown_r2_p y13) (fun y35 : Bool => (some y35)))))
theorem law15_shown_is : stepS E cp4 noE 7 [] = Option.bind (law15_shown) (fun y : Bool => some (rb y : R)) := by
  refine .trans ?_ (bind_b fun y13 => (bind_b fun y35 => some_b))
  refine (stepG_is (nt := 27) (regs := [])).trans ?_
  refine (pre2 (law15_shown_r1 _)).trans (bind_g fun y13 => ?_)
  refine (pre1 (law15_shown_r2 y13 _)).trans (bind_g fun y35 => ?_)
  refine (ret_eq).trans ?_
  kernel_rfl
noncomputable def cp5 : CallP := withC cp4 7 [] (.one pB) (fun y : Bool => y) (fun x => law15_shown)
theorem cp5_ok : PureOK E cp5 := conS eok cp4_ok noE_ok fun x => Eq.mp (by kernel_rfl) (law15_shown_is)
section
variable {α : Type} (n_ : Node) (y38 : (List Int)) (y40 : (List Int)) (y42 : (List Int)) (k : St → Option α) (q : Kont α)
noncomputable abbrev C5 := codeOf E.P 9
noncomputable abbrev P5 := @preK α E 9 cp5 noE
noncomputable abbrev R5 := @runCode α E 9 cp5 noE
noncomputable abbrev Q5 := @seqC α E 9 cp5 noE
abbrev S5_0 : St := ⟨[(1, rF 0), (2, rF 1)], [(tsNode.leaves n_), [di 0, dl (.one (.int .i64)) [], di 0, di 0, di 0, di 0, di 0, di 0, di 0, di 0, di 0, di 0, dl (.one (.int .i8)) [], dl (.one (.int .i32)) []]], [], 28⟩
theorem law15_few_f1 : P5 1 C5 ⟨[(0, rA tsNode n_)], [], [], 28⟩ k = k (S5_0 n_) := by kernel_rfl
theorem law15_few_f1000002 : P5 1 C5.r.l (S5_0 n_) k = k ⟨[(1, rF 0), (2, rF 1), (6, rb (decide ((n_.2.1.length : Int) > 20)))], [(tsNode.leaves n_), [di 0, dl (.one (.int .i64)) [], di 0, di 0, di 0, di 0, di 0, di 0, di 0, di 0, di 0, di 0, dl (.one (.int .i8)) [], dl (.one (.int .i32)) []]], [], 28⟩ := by kernel_rfl
def law15_few_r2_p : Option Unit := (bif (decide ((20 : Int) ≤ (n_.2.1.length : Int))) then (some ()) else none)
abbrev S5_1 : St := ⟨[(1, rF 0), (2, rF 1)], [[di n_.1, dl (.one (.int .i64)) ((n_.2.1.take (Int.toNat (20 : Int))).drop (Int.toNat (0 : Int))), di n_.2.2.1, di n_.2.2.2.1, di n_.2.2.2.2.1, di n_.2.2.2.2.2.1, di n_.2.2.2.2.2.2.1, di n_.2.2.2.2.2.2.2.1, di n_.2.2.2.2.2.2.2.2.1, di n_.2.2.2.2.2.2.2.2.2.1, di n_.2.2.2.2.2.2.2.2.2.2.1, di n_.2.2.2.2.2.2.2.2.2.2.2.1, dl (.one (.int .i8)) n_.2.2.2.2.2.2.2.2.2.2.2.2.1, dl (.one (.int .i32)) n_.2.2.2.2.2.2.2.2.2.2.2.2.2], [di 0, dl (.one (.int .i64)) [], di 0, di 0, di 0, di 0, di 0, di 0, di 0, di 0, di 0, di 0, dl (.one (.int .i8)) [], dl (.one (.int .i32)) []]], [], 28⟩
theorem law15_few_r2 : R5 C5.r.l.r.t (S5_0 n_) q = Option.bind (law15_few_r2_p n_) (fun y37 : Unit => q .normal (S5_1 n_)) := .trans (by kernel_rfl) (bif_b some_b none_b)
def law15_few_j1_p : Option (List Int) := (bif (decide ((n_.2.1.length : Int) > 20)) then (Option.bind (law15_few_r2_p n_) (fun y37 : Unit => (some ((n_.2.1.take (Int.toNat (20 : Int))).drop (Int.toNat (0 : Int)))))) else (some n_.2.1))
abbrev S5_2 : St := ⟨[(1, rF 0), (2, rF 1)], [[di n_.1, dl (.one (.int .i64)) y38, di n_.2.2.1, di n_.2.2.2.1, di n_.2.2.2.2.1, di n_.2.2.2.2.2.1, di n_.2.2.2.2.2.2.1, di n_.2.2.2.2.2.2.2.1, di n_.2.2.2.2.2.2.2.2.1, di n_.2.2.2.2.2.2.2.2.2.1, di n_.2.2.2.2.2.2.2.2.2.2.1, di n_.2.2.2.2.2.2.2.2.2.2.2.1, dl (.one (.int .i8)) n_.2.2.2.2.2.2.2.2.2.2.2.2.1, dl (.one (.int .i32)) n_.2.2.2.2.2.2.2.2.2.2.2.2.2], [di 0, dl (.one (.int .i64)) [], di 0, di 0, di 0, di 0, di 0, di 0, di 0, di 0, di 0, di 0, dl (.one (.int .i8)) [], dl (.one (.int .i32)) []]], [], 28⟩
theorem law15_few_j1 : R5 C5.r.l (S5_0 n_) (Q5 C5.r.r q) = Option.bind (law15_few_j1_p n_) (fun y38 : (List Int) => R5 C5.r.r (S5_2 n_ y38) q) := by
  refine .trans ?_ (bif_b (bind_b fun y37 => some_b) some_b)
  refine (pre1 (law15_few_f1000002 n_ _)).trans ?_
  refine (cond_e (b := (decide ((n_.2.1.length : Int) > 20))) (st' := (S5_0 n_)) ).trans (bif_g ?_ ?_)
  · refine (law15_few_r2 n_ _).trans (bind_g fun y37 => ?_)
    refine (seqC_normal (st' := (S5_1 n_))).trans ?_
    kernel_rfl
  · refine (skip_eq).trans ?_
    refine (seqC_normal (st' := (S5_0 n_))).trans ?_
    kernel_rfl
theorem law15_few_f1000004 : P5 1 C5.r.r.l (S5_2 n_ y38) k = k ⟨[(1, rF 0), (2, rF 1), (14, rb (decide ((n_.2.2.2.2.2.2.2.2.2.2.2.2.1.length : Int) > 5000)))], [[di n_.1, dl (.one (.int .i64)) y38, di n_.2.2.1, di n_.2.2.2.1, di n_.2.2.2.2.1, di n_.2.2.2.2.2.1, di n_.2.2.2.2.2.2.1, di n_.2.2.2.2.2.2.2.1, di n_.2.2.2.2.2.2.2.2.1, di n_.2.2.2.2.2.2.2.2.2.1, di n_.2.2.2.2.2.2.2.2.2.2.1, di n_.2.2.2.2.2.2.2.2.2.2.2.1, dl (.one (.int .i8)) n_.2.2.2.2.2.2.2.2.2.2.2.2.1, dl (.one (.int .i32)) n_.2.2.2.2.2.2.2.2.2.2.2.2.2], [di 0, dl (.one (.int .i64)) [], di 0, di 0, di 0, di 0, di 0, di 0, di 0, di 0, di 0, di 0, dl (.one (.int .i8)) [], dl (.one (.int .i32)) []]], [], 28⟩ := by kernel_rfl
def law15_few_r4_p : Option (List Int) := (bif (decide ((5000 : Int) ≤ (n_.2.2.2.2.2.2.2.2.2.2.2.2.1.length : Int))) then (some ((n_.2.2.2.2.2.2.2.2.2.2.2.2.1.take (Int.toNat (5000 : Int))).drop (Int.toNat (0 : Int)))) else none)
abbrev S5_3 (y39 : (List Int)) : St := ⟨[(1, rF 0), (2, rF 1)], [[di n_.1, dl (.one (.int .i64)) y38, di n_.2.2.1, di n_.2.2.2.1, di n_.2.2.2.2.1, di n_.2.2.2.2.2.1, di n_.2.2.2.2.2.2.1, di n_.2.2.2.2.2.2.2.1, di n_.2.2.2.2.2.2.2.2.1, di n_.2.2.2.2.2.2.2.2.2.1, di n_.2.2.2.2.2.2.2.2.2.2.1, di n_.2.2.2.2.2.2.2.2.2.2.2.1, dl (.one (.int .i8)) y39, dl (.one (.int .i32)) n_.2.2.2.2.2.2.2.2.2.2.2.2.2], [di 0, dl (.one (.int .i64)) [], di 0, di 0, di 0, di 0, di 0, di 0, di 0, di 0, di 0, di 0, dl (.one (.int .i8)) [], dl (.one (.int .i32)) []]], [], 28⟩
theorem law15_few_r4 : R5 C5.r.r.l.r.t (S5_2 n_ y38) q = Option.bind (law15_few_r4_p n_) (fun y39 : (List Int) => q .normal (S5_3 n_ y38 y39)) := .trans (by kernel_rfl) (bif_b some_b none_b)
def law15_few_j3_p : Option (List Int) := (bif (decide ((n_.2.2.2.2.2.2.2.2.2.2.2.2.1.length : Int) > 5000)) then (Option.bind (law15_few_r4_p n_) (fun y39 : (List Int) => (some y39))) else (some n_.2.2.2.2.2.2.2.2.2.2.2.2.1))
abbrev S5_4 : St := ⟨[(1, rF 0), (2, rF 1)], [[di n_.1, dl (.one (.int .i64)) y38, di n_.2.2.1, di n_.2.2.2.1, di n_.2.2.2.2.1, di n_.2.2.2.2.2.1, di n_.2.2.2.2.2.2.1, di n_.2.2.2.2.2.2.2.1, di n_.2.2.2.2.2.2.2.2.1, di n_.2.2.2.2.2.2.2.2.2.1, di n_.2.2.2.2.2.2.2.2.2.2.1, di n_.2.2.2.2.2.2.2.2.2.2.2.1, dl (.one (.int .i8)) y40, dl (.one (.int .i32)) n_.2.2.2.2.2.2.2.2.2.2.2.2.2], [di 0, dl (.one (.int .i64)) [], di 0, di 0, di 0, di 0, di 0, di 0, di 0, di 0, di 0, di 0, dl (.one (.int .i8)) [], dl (.one (.int .i32)) []]], [], 28⟩
theorem law15_few_j3 : R5 C5.r.r.l (S5_2 n_ y38) (Q5 C5.r.r.r q) = Option.bind (law15_few_j3_p n_) (fun y40 : (List Int) => R5 C5.r.r.r (S5_4 n_ y38 y40) q) := by
  refine .trans ?_ (bif_b (bind_b fun y39 => some_b) some_b)
  refine (pre1 (law15_few_f1000004 n_ y38 _)).trans ?_
  refine (cond_e (b := (decide ((n_.2.2.2.2.2.2.2.2.2.2.2.2.1.length : Int) > 5000))) (st' := (S5_2 n_ y38)) ).trans (bif_g ?_ ?_)
  · refine (law15_few_r4 n_ y38 _).trans (bind_g fun y39 => ?_)
    refine (seqC_normal (st' := (S5_3 n_ y38 y39))).trans ?_
    kernel_rfl
  · refine (skip_eq).trans ?_
    refine (seqC_normal (st' := (S5_2 n_ y38))).trans ?_
    kernel_rfl
theorem law15_few_f1000006 : P5 1 C5.r.r.r.l (S5_4 n_ y38 y40) k = k ⟨[(1, rF 0), (2, rF 1), (22, rb (decide ((n_.2.2.2.2.2.2.2.2.2.2.2.2.2.length : Int) > 20)))], [[di n_.1, dl (.one (.int .i64)) y38, di n_.2.2.1, di n_.2.2.2.1, di n_.2.2.2.2.1, di n_.2.2.2.2.2.1, di n_.2.2.2.2.2.2.1, di n_.2.2.2.2.2.2.2.1, di n_.2.2.2.2.2.2.2.2.1, di n_.2.2.2.2.2.2.2.2.2.1, di n_.2.2.2.2.2.2.2.2.2.2.1, di n_.2.2.2.2.2.2.2.2.2.2.2.1, dl (.one (.int .i8)) y40, dl (.one (.int .i32)) n_.2.2.2.2.2.2.2.2.2.2.2.2.2], [di 0, dl (.one (.int .i64)) [], di 0, di 0, di 0, di 0, di 0, di 0, di 0, di 0, di 0, di 0, dl (.one (.int .i8)) [], dl (.one (.int .i32)) []]], [], 28⟩ := by kernel_rfl
def law15_few_r6_p : Option (List Int) := (bif (decide ((20 : Int) ≤ (n_.2.2.2.2.2.2.2.2.2.2.2.2.2.length : Int))) then (some ((n_.2.2.2.2.2.2.2.2.2.2.2.2.2.take (Int.toNat (20 : Int))).drop (Int.toNat (0 : Int)))) else none)
abbrev S5_5 (y41 : (List Int)) : St := ⟨[(1, rF 0), (2, rF 1)], [[di n_.1, dl (.one (.int .i64)) y38, di n_.2.2.1, di n_.2.2.2.1, di n_.2.2.2.2.1, di n_.2.2.2.2.2.1, di n_.2.2.2.2.2.2.1, di n_.2.2.2.2.2.2.2.1, di n_.2.2.2.2.2.2.2.2.1, di n_.2.2.2.2.2.2.2.2.2.1, di n_.2.2.2.2.2.2.2.2.2.2.1, di n_.2.2.2.2.2.2.2.2.2.2.2.1, dl (.one (.int .i8)) y40, dl (.one (.int .i32)) y41], [di 0, dl (.one (.int .i64)) [], di 0, di 0, di 0, di 0, di 0, di 0, di 0, di 0, di 0, di 0, dl (.one (.int .i8)) [], dl (.one (.int .i32)) []]], [], 28⟩
theorem law15_few_r6 : R5 C5.r.r.r.l.r.t (S5_4 n_ y38 y40) q = Option.bind (law15_few_r6_p n_) (fun y41 : (List Int) => q .normal (S5_5 n_ y38 y40 y41)) := .trans (by kernel_rfl) (bif_b some_b none_b)
def law15_few_j5_p : Option (List Int) := (bif (decide ((n_.2.2.2.2.2.2.2.2.2.2.2.2.2.length : Int) > 20)) then (Option.bind (law15_few_r6_p n_) (fun y41 : (List Int) => (some y41))) else (some n_.2.2.2.2.2.2.2.2.2.2.2.2.2))
abbrev S5_6 : St := ⟨[(1, rF 0), (2, rF 1)], [[di n_.1, dl (.one (.int .i64)) y38, di n_.2.2.1, di n_.2.2.2.1, di n_.2.2.2.2.1, di n_.2.2.2.2.2.1, di n_.2.2.2.2.2.2.1, di n_.2.2.2.2.2.2.2.1, di n_.2.2.2.2.2.2.2.2.1, di n_.2.2.2.2.2.2.2.2.2.1, di n_.2.2.2.2.2.2.2.2.2.2.1, di n_.2.2.2.2.2.2.2.2.2.2.2.1, dl (.one (.int .i8)) y40, dl (.one (.int .i32)) y42], [di 0, dl (.one (.int .i64)) [], di 0, di 0, di 0, di 0, di 0, di 0, di 0, di 0, di 0, di 0, dl (.one (.int .i8)) [], dl (.one (.int .i32)) []]], [], 28⟩
theorem law15_few_j5 : R5 C5.r.r.r.l (S5_4 n_ y38 y40) (Q5 C5.r.r.r.r q) = Option.bind (law15_few_j5_p n_) (fun y42 : (List Int) => R5 C5.r.r.r.r (S5_6 n_ y38 y40 y42) q) := by
  refine .trans ?_ (bif_b (bind_b fun y41 => some_b) some_b)
  refine (pre1 (law15_few_f1000006 n_ y38 y40 _)).trans ?_
  refine (cond_e (b := (decide ((n_.2.2.2.2.2.2.2.2.2.2.2.2.2.length : Int) > 20))) (st' := (S5_4 n_ y38 y40)) ).trans (bif_g ?_ ?_)
  · refine (law15_few_r6 n_ y38 y40 _).trans (bind_g fun y41 => ?_)
    refine (seqC_normal (st' := (S5_5 n_ y38 y40 y41))).trans ?_
    kernel_rfl
  · refine (skip_eq).trans ?_
    refine (seqC_normal (st' := (S5_4 n_ y38 y40))).trans ?_
    kernel_rfl
theorem law15_few_fz : P5 1 C5.r.r.r.r (S5_6 n_ y38 y40 y42) k = k ⟨[(2, rF 1)], [[], [di n_.1, dl (.one (.int .i64)) y38, di n_.2.2.1, di n_.2.2.2.1, di n_.2.2.2.2.1, di n_.2.2.2.2.2.1, di n_.2.2.2.2.2.2.1, di n_.2.2.2.2.2.2.2.1, di n_.2.2.2.2.2.2.2.2.1, di n_.2.2.2.2.2.2.2.2.2.1, di n_.2.2.2.2.2.2.2.2.2.2.1, di n_.2.2.2.2.2.2.2.2.2.2.2.1, dl (.one (.int .i8)) y40, dl (.one (.int .i32)) y42]], [], 28⟩ := by kernel_rfl
/-- quilt/quiltlaw15.few -/
def law15_few : Option Node := (Option.bind (law15_few_j1_p n_) (fun y38 : (List Int) => (Option.bind (law15_few_j3_p n_) (fun y40 : (List Int) => (Option.bind (law15_few_j5_p n_) (fun y42 : (List Int) => (some (n_.1, y38, n_.2.2.1, n_.2.2.2.1, n_.2.2.2.2.1, n_.2.2.2.2.2.1, n_.2.2.2.2.2.2.1, n_.2.2.2.2.2.2.2.1, n_.2.2.2.2.2.2.2.2.1, n_.2.2.2.2.2.2.2.2.2.1, n_.2.2.2.2.2.2.2.2.2.2.1, n_.2.2.2.2.2.2.2.2.2.2.2.1, y40, y42))))))))
theorem law15_few_is : stepS E cp5 noE 9 [rA tsNode n_] = Option.bind (law15_few n_) (fun y : Node => some (rA tsNode y : R)) := by
  refine .trans ?_ (bind_b fun y38 => (bind_b fun y40 => (bind_b fun y42 => some_b)))
  refine (stepG_is (nt := 28) (regs := [(0, rA tsNode n_)])).trans ?_
  refine (pre1 (law15_few_f1 n_ _)).trans ?_
  refine .trans seq_push ?_
  refine (law15_few_j1 n_ _).trans (bind_g fun y38 => ?_)
  refine .trans seq_push ?_
  refine (law15_few_j3 n_ y38 _).trans (bind_g fun y40 => ?_)
  refine .trans seq_push ?_
  refine (law15_few_j5 n_ y38 y40 _).trans (bind_g fun y42 => ?_)
  refine (pre1 (law15_few_fz n_ y38 y40 y42 _)).trans ?_
  refine (ret_eq).trans ?_
  kernel_rfl
noncomputable def cp6 : CallP := withC cp5 9 [(.agg tsNode)] (.one (.agg tsNode)) (fun y : Node => y) (fun x => law15_few x.1)
theorem cp6_ok : PureOK E cp6 := conS eok cp5_ok noE_ok fun x => Eq.mp (by kernel_rfl) (law15_few_is x.1)
end
noncomputable abbrev C6 := codeOf E.P 10
noncomputable abbrev P6 {α : Type} := @preK α E 10 cp6 noE
abbrev S6_0 (l_ : (List I4)) : St := ⟨[(0, rl tsI4 l_)], [], [], 9⟩
theorem law15_some_f1 {α : Type} (l_ : (List I4)) (k : St → Option α) : P6 1 C6 (S6_0 l_) k = k (S6_0 l_) := by kernel_rfl
theorem law15_some_f1000002 {α : Type} (l_ : (List I4)) (k : St → Option α) : P6 1 C6.r.l (S6_0 l_) k = k ⟨[(0, rl tsI4 l_), (5, rb (decide ((l_.length : Int) > 3)))], [], [], 9⟩ := by kernel_rfl
def law15_some_r2_p (l_ : (List I4)) : Option Unit := (bif (decide ((3 : Int) ≤ (l_.length : Int))) then (some ()) else none)
theorem law15_some_r2 {α : Type} (l_ : (List I4)) (k : St → Option α) : P6 1 C6.r.l.r.t (S6_0 l_) k = Option.bind (law15_some_r2_p l_) (fun y45 : Unit => k ⟨[(2, rl tsI4 ((l_.take (Int.toNat (3 : Int))).drop (Int.toNat (0 : Int))))], [], [], 9⟩) := .trans (by kernel_rfl) (bif_b some_b none_b)
theorem law15_some_fz {α : Type} (l_ : (List I4)) (k : St → Option α) : P6 1 C6.r.r (S6_0 l_) k = k ⟨[(2, rl tsI4 l_)], [], [], 9⟩ := by kernel_rfl
/-- quilt/quiltlaw15.some -/
def law15_some (l_ : (List I4)) : Option (List I4) := (bif (decide ((l_.length : Int) > 3)) then (Option.bind (law15_some_r2_p l_) (fun y45 : Unit => (some ((l_.take (Int.toNat (3 : Int))).drop (Int.toNat (0 : Int)))))) else (some l_))
theorem law15_some_is (l_ : (List I4)) : stepS E cp6 noE 10 [rl tsI4 l_] = Option.bind (law15_some l_) (fun y : (List I4) => some (rl tsI4 y : R)) := by
  refine .trans ?_ (bif_b (bind_b fun y45 => some_b) some_b)
  refine (stepG_is (nt := 9) (regs := [(0, rl tsI4 l_)])).trans ?_
  refine (pre1 (law15_some_f1 l_ _)).trans ?_
  refine .trans seq_push ?_
  refine (pre1 (law15_some_f1000002 l_ _)).trans ?_
  refine (cond_e (b := (decide ((l_.length : Int) > 3))) (st' := (S6_0 l_)) ).trans (bif_g ?_ ?_)
  · refine (pre1 (law15_some_r2 l_ _)).trans (bind_g fun y45 => ?_)
    refine (ret_eq).trans ?_
    refine seqC_ret.trans ?_
    kernel_rfl
  · refine (skip_eq).trans ?_
    refine (seqC_normal (st' := (S6_0 l_))).trans ?_
    refine (pre1 (law15_some_fz l_ _)).trans ?_
    refine (ret_eq).trans ?_
    kernel_rfl
noncomputable def cp7 : CallP := withC cp6 10 [(pL tsI4)] (.one (pL tsI4)) (fun y : (List I4) => y) (fun x => law15_some x.1)
theorem cp7_ok : PureOK E cp7 := conS eok cp6_ok noE_ok fun x => Eq.mp (by kernel_rfl) (law15_some_is x.1)
section
variable {α β : Type} (op : Int) (y49 : (Int × Bool × Bool × Bool × Bool × Bool × (Unit ⊕ (Unit ⊕ (Unit ⊕ (Unit ⊕ (Unit ⊕ (Unit ⊕ (Unit ⊕ Unit))))))) × (Unit ⊕ (Unit ⊕ (Unit ⊕ (Unit ⊕ Unit)))))) (k : St → Option α) (q : Kont α)
noncomputable abbrev C7 := codeOf E.P 33
noncomputable abbrev P7 := @preK α E 33 cp7 noE
noncomputable abbrev R7 := @runCode α E 33 cp7 noE
noncomputable abbrev Q7 := @seqC α E 33 cp7 noE
abbrev S7_0 : St := ⟨[(0, ri op), (2, rF 0), (4, rF 1)], [[di 0, db false, db false, db false, db false, db false, .nilFn, .nilFn], [di 1, db false, db false, db false, db false, db false, .fn 49 [], .fn 50 []]], [], 58⟩
theorem graph_of_f2 : P7 2 C7 ⟨[(0, ri op)], [], [], 58⟩ k = k (S7_0 op) := by kernel_rfl
abbrev S7_1 : St := ⟨[(2, rF 0), (4, rF 1), (6, ri op)], [[di 0, db false, db false, db false, db false, db false, .nilFn, .nilFn], [di 1, db false, db false, db false, db false, db false, .fn 49 [], .fn 50 []]], [], 58⟩
theorem graph_of_f4 : P7 1 C7.r.r.l (S7_0 op) k = k (S7_1 op) := by kernel_rfl
theorem graph_of_f1000005 : P7 1 C7.r.r.l.r.b (S7_1 op) k = k ⟨[(2, rF 0), (4, rF 1), (6, ri op), (8, rb (op == 1))], [[di 0, db false, db false, db false, db false, db false, .nilFn, .nilFn], [di 1, db false, db false, db false, db false, db false, .fn 49 [], .fn 50 []]], [], 58⟩ := by kernel_rfl
abbrev S7_2 : St := ⟨[(2, rF 0), (4, rF 1)], [[di 0, db false, db false, db false, db false, db false, .nilFn, .nilFn], [di 1, db true, db true, db false, db true, db false, .fn 51 [], .fn 50 []]], [], 58⟩
theorem graph_of_f7 : P7 2 C7.r.r.l.r.b.r.t (S7_1 op) k = k S7_2 := by kernel_rfl
abbrev S7_3 : St := ⟨[(2, rF 0), (4, rF 1)], [[di 0, db false, db false, db false, db false, db false, .nilFn, .nilFn], [di 1, db true, db true, db false, db true, db false, .fn 51 [], .fn 53 []]], [], 58⟩
theorem graph_of_r7 : R7 C7.r.r.l.r.b.r.t.r.r S7_2 q = q .normal S7_3 := by kernel_rfl
theorem graph_of_f1000009 : P7 1 C7.r.r.l.r.b.r.e (S7_1 op) k = k ⟨[(2, rF 0), (4, rF 1), (6, ri op), (15, rb (op == 2))], [[di 0, db false, db false, db false, db false, db false, .nilFn, .nilFn], [di 1, db false, db false, db false, db false, db false, .fn 49 [], .fn 50 []]], [], 58⟩ := by kernel_rfl
abbrev S7_4 : St := ⟨[(2, rF 0), (4, rF 1)], [[di 0, db false, db false, db false, db false, db false, .nilFn, .nilFn], [di 1, db true, db true, db false, db false, db false, .fn 54 [], .fn 50 []]], [], 58⟩
theorem graph_of_f10 : P7 1 C7.r.r.l.r.b.r.e.r.t (S7_1 op) k = k S7_4 := by kernel_rfl
abbrev S7_5 : St := ⟨[(2, rF 0), (4, rF 1)], [[di 0, db false, db false, db false, db false, db false, .nilFn, .nilFn], [di 1, db true, db true, db false, db false, db false, .fn 54 [], .fn 55 []]], [], 58⟩
theorem graph_of_r10 : R7 C7.r.r.l.r.b.r.e.r.t.r S7_4 q = q .normal S7_5 := by kernel_rfl
theorem graph_of_f1000012 : P7 1 C7.r.r.l.r.b.r.e.r.e (S7_1 op) k = k ⟨[(2, rF 0), (4, rF 1), (6, ri op), (21, rb (op == 3))], [[di 0, db false, db false, db false, db false, db false, .nilFn, .nilFn], [di 1, db false, db false, db false, db false, db false, .fn 49 [], .fn 50 []]], [], 58⟩ := by kernel_rfl
abbrev S7_6 : St := ⟨[(2, rF 0), (4, rF 1)], [[di 0, db false, db false, db false, db false, db false, .nilFn, .nilFn], [di 1, db false, db false, db false, db true, db false, .fn 56 [], .fn 50 []]], [], 58⟩
theorem graph_of_f14 : P7 2 C7.r.r.l.r.b.r.e.r.e.r.t (S7_1 op) k = k S7_6 := by kernel_rfl
abbrev S7_7 : St := ⟨[(2, rF 0), (4, rF 1)], [[di 0, db false, db false, db false, db false, db false, .nilFn, .nilFn], [di 1, db false, db false, db false, db true, db false, .fn 56 [], .fn 57 []]], [], 58⟩
theorem graph_of_r14 : R7 C7.r.r.l.r.b.r.e.r.e.r.t.r.r S7_6 q = q .normal S7_7 := by kernel_rfl
abbrev S7_8 : St := ⟨[(2, rF 0), (4, rF 1), (6, ri op), (26, rb (op == 4))], [[di 0, db false, db false, db false, db false, db false, .nilFn, .nilFn], [di 1, db false, db false, db false, db false, db false, .fn 49 [], .fn 50 []]], [], 58⟩
theorem graph_of_f2000016 : P7 1 C7.r.r.l.r.b.r.e.r.e.r.e.l (S7_1 op) k = k (S7_8 op) := by kernel_rfl
abbrev S7_9 : St := ⟨[(2, rF 0), (4, rF 1), (6, ri op), (26, rb (op == 5))], [[di 0, db false, db false, db false, db false, db false, .nilFn, .nilFn], [di 1, db false, db false, db false, db false, db false, .fn 49 [], .fn 50 []]], [], 58⟩
theorem graph_of_r16 : R7 C7.r.r.l.r.b.r.e.r.e.r.e.l.r.e (S7_8 op) q = q .normal (S7_9 op) := by kernel_rfl
def graph_of_j15_q (K : Bool → β) : β := (bif (op == 4) then (K (op == 4)) else (K (op == 5)))
def graph_of_j15_p : Bool := graph_of_j15_q op (fun y => y)
theorem graph_of_j15_n (K : Bool → β) : graph_of_j15_q op K = K (graph_of_j15_p op) := (bif_k K rfl rfl)
abbrev S7_10 : St := ⟨[(2, rF 0), (4, rF 1), (6, ri op), (26, rb (graph_of_j15_p op))], [[di 0, db false, db false, db false, db false, db false, .nilFn, .nilFn], [di 1, db false, db false, db false, db false, db false, .fn 49 [], .fn 50 []]], [], 58⟩
theorem graph_of_j15 : R7 C7.r.r.l.r.b.r.e.r.e.r.e.l (S7_1 op) (Q7 C7.r.r.l.r.b.r.e.r.e.r.e.r q) = R7 C7.r.r.l.r.b.r.e.r.e.r.e.r (S7_10 op) q := by
  refine Eq.trans ?_ (graph_of_j15_n op (fun y47 : Bool => R7 C7.r.r.l.r.b.r.e.r.e.r.e.r ⟨[(2, rF 0), (4, rF 1), (6, ri op), (26, rb y47)], [[di 0, db false, db false, db false, db false, db false, .nilFn, .nilFn], [di 1, db false, db false, db false, db false, db false, .fn 49 [], .fn 50 []]], [], 58⟩ q))
  unfold graph_of_j15_q
  refine (pre1 (graph_of_f2000016 op _)).trans ?_
  refine (cond_s (b := (op == 4)) ).trans (bif_g ?_ ?_)
  · refine (skip_eq).trans ?_
    refine (seqC_normal (st' := (S7_8 op))).trans ?_
    kernel_rfl
  · refine (graph_of_r16 op _).trans ?_
    refine (seqC_normal (st' := (S7_9 op))).trans ?_
    kernel_rfl
abbrev S7_11 : St := ⟨[(2, rF 0), (4, rF 1)], [[di 0, db false, db false, db false, db false, db false, .nilFn, .nilFn], [di 1, db true, db false, db false, db false, db true, .fn 54 [], .fn 50 []]], [], 58⟩
theorem graph_of_r17 : R7 C7.r.r.l.r.b.r.e.r.e.r.e.r.t (S7_10 op) q = q .normal S7_11 := by kernel_rfl
abbrev S7_12 : St := ⟨[(2, rF 0), (4, rF 1), (6, ri op), (32, rb (op == 6))], [[di 0, db false, db false, db false, db false, db false, .nilFn, .nilFn], [di 1, db false, db false, db false, db false, db false, .fn 49 [], .fn 50 []]], [], 58⟩
theorem graph_of_f2000019 : P7 1 C7.r.r.l.r.b.r.e.r.e.r.e.r.e.l (S7_10 op) k = k (S7_12 op) := by kernel_rfl
abbrev S7_13 : St := ⟨[(2, rF 0), (4, rF 1), (6, ri op), (32, rb (op == 7))], [[di 0, db false, db false, db false, db false, db false, .nilFn, .nilFn], [di 1, db false, db false, db false, db false, db false, .fn 49 [], .fn 50 []]], [], 58⟩
theorem graph_of_r19 : R7 C7.r.r.l.r.b.r.e.r.e.r.e.r.e.l.r.e (S7_12 op) q = q .normal (S7_13 op) := by kernel_rfl
def graph_of_j18_q (K : Bool → β) : β := (bif (op == 6) then (K (op == 6)) else (K (op == 7)))
def graph_of_j18_p : Bool := graph_of_j18_q op (fun y => y)
theorem graph_of_j18_n (K : Bool → β) : graph_of_j18_q op K = K (graph_of_j18_p op) := (bif_k K rfl rfl)
abbrev S7_14 : St := ⟨[(2, rF 0), (4, rF 1), (6, ri op), (32, rb (graph_of_j18_p op))], [[di 0, db false, db false, db false, db false, db false, .nilFn, .nilFn], [di 1, db false, db false, db false, db false, db false, .fn 49 [], .fn 50 []]], [], 58⟩
theorem graph_of_j18 : R7 C7.r.r.l.r.b.r.e.r.e.r.e.r.e.l (S7_10 op) (Q7 C7.r.r.l.r.b.r.e.r.e.r.e.r.e.r q) = R7 C7.r.r.l.r.b.r.e.r.e.r.e.r.e.r (S7_14 op) q := by
  refine Eq.trans ?_ (graph_of_j18_n op (fun y48 : Bool => R7 C7.r.r.l.r.b.r.e.r.e.r.e.r.e.r ⟨[(2, rF 0), (4, rF 1), (6, ri op), (32, rb y48)], [[di 0, db false, db false, db false, db false, db false, .nilFn, .nilFn], [di 1, db false, db false, db false, db false, db false, .fn 49 [], .fn 50 []]], [], 58⟩ q))
  unfold graph_of_j18_q
  refine (pre1 (graph_of_f2000019 op _)).trans ?_
  refine (cond_s (b := (op == 6)) ).trans (bif_g ?_ ?_)
  · refine (skip_eq).trans ?_
    refine (seqC_normal (st' := (S7_12 op))).trans ?_
    kernel_rfl
  · refine (graph_of_r19 op _).trans ?_
    refine (seqC_normal (st' := (S7_13 op))).trans ?_
    kernel_rfl
abbrev S7_15 : St := ⟨[(2, rF 0), (4, rF 1)], [[di 0, db false, db false, db false, db false, db false, .nilFn, .nilFn], [di 2, db false, db false, db false, db false, db false, .fn 59 [], .fn 50 []]], [], 58⟩
theorem graph_of_r20 : R7 C7.r.r.l.r.b.r.e.r.e.r.e.r.e.r.t (S7_14 op) q = q .normal S7_15 := by kernel_rfl
theorem graph_of_f1000022 : P7 1 C7.r.r.l.r.b.r.e.r.e.r.e.r.e.r.e (S7_14 op) k = k ⟨[(2, rF 0), (4, rF 1), (6, ri op), (37, rb (op == 8))], [[di 0, db false, db false, db false, db false, db false, .nilFn, .nilFn], [di 1, db false, db false, db false, db false, db false, .fn 49 [], .fn 50 []]], [], 58⟩ := by kernel_rfl
abbrev S7_16 : St := ⟨[(2, rF 0), (4, rF 1)], [[di 0, db false, db false, db false, db false, db false, .nilFn, .nilFn], [di 1, db false, db false, db false, db false, db true, .fn 49 [], .fn 50 []]], [], 58⟩
theorem graph_of_r22 : R7 C7.r.r.l.r.b.r.e.r.e.r.e.r.e.r.e.r.t (S7_1 op) q = q .normal S7_16 := by kernel_rfl
theorem graph_of_f1000024 : P7 1 C7.r.r.l.r.b.r.e.r.e.r.e.r.e.r.e.r.e (S7_1 op) k = k ⟨[(2, rF 0), (4, rF 1), (6, ri op), (40, rb (op == 9))], [[di 0, db false, db false, db false, db false, db false, .nilFn, .nilFn], [di 1, db false, db false, db false, db false, db false, .fn 49 [], .fn 50 []]], [], 58⟩ := by kernel_rfl
abbrev S7_17 : St := ⟨[(2, rF 0), (4, rF 1)], [[di 0, db false, db false, db false, db false, db false, .nilFn, .nilFn], [di 1, db false, db false, db true, db false, db true, .fn 49 [], .fn 50 []]], [], 58⟩
theorem graph_of_f25 : P7 1 C7.r.r.l.r.b.r.e.r.e.r.e.r.e.r.e.r.e.r.t (S7_1 op) k = k S7_17 := by kernel_rfl
abbrev S7_18 : St := ⟨[(2, rF 0), (4, rF 1)], [[di 0, db false, db false, db false, db false, db false, .nilFn, .nilFn], [di 1, db false, db false, db true, db false, db true, .fn 60 [], .fn 50 []]], [], 58⟩
theorem graph_of_r25 : R7 C7.r.r.l.r.b.r.e.r.e.r.e.r.e.r.e.r.e.r.t.r S7_17 q = q .normal S7_18 := by kernel_rfl
theorem graph_of_f1000027 : P7 1 C7.r.r.l.r.b.r.e.r.e.r.e.r.e.r.e.r.e.r.e (S7_1 op) k = k ⟨[(2, rF 0), (4, rF 1), (6, ri op), (45, rb (op == 10))], [[di 0, db false, db false, db false, db false, db false, .nilFn, .nilFn], [di 1, db false, db false, db false, db false, db false, .fn 49 [], .fn 50 []]], [], 58⟩ := by kernel_rfl
abbrev S7_19 : St := ⟨[(2, rF 0), (4, rF 1)], [[di 0, db false, db false, db false, db false, db false, .nilFn, .nilFn], [di 2, db false, db false, db false, db false, db true, .fn 61 [], .fn 50 []]], [], 58⟩
theorem graph_of_r27 : R7 C7.r.r.l.r.b.r.e.r.e.r.e.r.e.r.e.r.e.r.e.r.t (S7_1 op) q = q .normal S7_19 := by kernel_rfl
theorem graph_of_f1000029 : P7 1 C7.r.r.l.r.b.r.e.r.e.r.e.r.e.r.e.r.e.r.e.r.e (S7_1 op) k = k ⟨[(2, rF 0), (4, rF 1), (6, ri op), (50, rb (op == 11))], [[di 0, db false, db false, db false, db false, db false, .nilFn, .nilFn], [di 1, db false, db false, db false, db false, db false, .fn 49 [], .fn 50 []]], [], 58⟩ := by kernel_rfl
abbrev S7_20 : St := ⟨[(2, rF 0), (4, rF 1)], [[di 0, db false, db false, db false, db false, db false, .nilFn, .nilFn], [di 1, db false, db false, db false, db false, db true, .fn 62 [], .fn 50 []]], [], 58⟩
theorem graph_of_r29 : R7 C7.r.r.l.r.b.r.e.r.e.r.e.r.e.r.e.r.e.r.e.r.e.r.t (S7_1 op) q = q .normal S7_20 := by kernel_rfl
theorem graph_of_f1000031 : P7 1 C7.r.r.l.r.b.r.e.r.e.r.e.r.e.r.e.r.e.r.e.r.e.r.e (S7_1 op) k = k ⟨[(2, rF 0), (4, rF 1), (54, rb (op == 12))], [[di 0, db false, db false, db false, db false, db false, .nilFn, .nilFn], [di 1, db false, db false, db false, db false, db false, .fn 49 [], .fn 50 []]], [], 58⟩ := by kernel_rfl
abbrev S7_21 : St := ⟨[(2, rF 0), (4, rF 1)], [[di 0, db false, db false, db false, db false, db false, .nilFn, .nilFn], [di 1, db false, db false, db false, db false, db false, .fn 49 [], .fn 50 []]], [], 58⟩
abbrev S7_22 : St := ⟨[(2, rF 0), (4, rF 1)], [[di 0, db false, db false, db false, db false, db false, .nilFn, .nilFn], [di 1, db false, db false, db false, db false, db false, .fn 49 [], .fn 63 []]], [], 58⟩
theorem graph_of_r31 : R7 C7.r.r.l.r.b.r.e.r.e.r.e.r.e.r.e.r.e.r.e.r.e.r.e.r.t S7_21 q = q .normal S7_22 := by kernel_rfl
abbrev S7_23 : St := ⟨[(2, rF 0), (3, rb false)], [[di 0, db false, db false, db false, db false, db false, .nilFn, .nilFn], []], [], 58⟩
theorem graph_of_fz : P7 1 C7.r.r.l.r.b.r.e.r.e.r.e.r.e.r.e.r.e.r.e.r.e.r.e.r.e S7_21 k = k S7_23 := by kernel_rfl
def graph_of_j2_p : Option ((Int × Bool × Bool × Bool × Bool × Bool × (Unit ⊕ (Unit ⊕ (Unit ⊕ (Unit ⊕ (Unit ⊕ (Unit ⊕ (Unit ⊕ Unit))))))) × (Unit ⊕ (Unit ⊕ (Unit ⊕ (Unit ⊕ Unit))))) ⊕ Unit) := (bif (op == 1) then (some (Sum.inl ((1 : Int), true, true, false, true, false, (Sum.inr (Sum.inl ())), (Sum.inr (Sum.inl ()))))) else (bif (op == 2) then (some (Sum.inl ((1 : Int), true, true, false, false, false, (Sum.inr (Sum.inr (Sum.inl ()))), (Sum.inr (Sum.inr (Sum.inl ())))))) else (bif (op == 3) then (some (Sum.inl ((1 : Int), false, false, false, true, false, (Sum.inr (Sum.inr (Sum.inr (Sum.inl ())))), (Sum.inr (Sum.inr (Sum.inr (Sum.inl ()))))))) else (bif (graph_of_j15_p op) then (some (Sum.inl ((1 : Int), true, false, false, false, true, (Sum.inr (Sum.inr (Sum.inl ()))), (Sum.inl ())))) else (bif (graph_of_j18_p op) then (some (Sum.inl ((2 : Int), false, false, false, false, false, (Sum.inr (Sum.inr (Sum.inr (Sum.inr (Sum.inl ()))))), (Sum.inl ())))) else (bif (op == 8) then (some (Sum.inl ((1 : Int), false, false, false, false, true, (Sum.inl ()), (Sum.inl ())))) else (bif (op == 9) then (some (Sum.inl ((1 : Int), false, false, true, false, true, (Sum.inr (Sum.inr (Sum.inr (Sum.inr (Sum.inr (Sum.inl ())))))), (Sum.inl ())))) else (bif (op == 10) then (some (Sum.inl ((2 : Int), false, false, false, false, true, (Sum.inr (Sum.inr (Sum.inr (Sum.inr (Sum.inr (Sum.inr (Sum.inl ()))))))), (Sum.inl ())))) else (bif (op == 11) then (some (Sum.inl ((1 : Int), false, false, false, false, true, (Sum.inr (Sum.inr (Sum.inr (Sum.inr (Sum.inr (Sum.inr (Sum.inr ()))))))), (Sum.inl ())))) else (bif (op == 12) then (some (Sum.inl ((1 : Int), false, false, false, false, false, (Sum.inl ()), (Sum.inr (Sum.inr (Sum.inr (Sum.inr ()))))))) else (some (Sum.inr ()))))))))))))
abbrev S7_24 : St := ⟨[(2, rF 0), (4, rF 1)], [[di 0, db false, db false, db false, db false, db false, .nilFn, .nilFn], [di y49.1, db y49.2.1, db y49.2.2.1, db y49.2.2.2.1, db y49.2.2.2.2.1, db y49.2.2.2.2.2.1, Ps.enc (.alt (.fn 49 .nil) (.alt (.fn 51 .nil) (.alt (.fn 54 .nil) (.alt (.fn 56 .nil) (.alt (.fn 59 .nil) (.alt (.fn 60 .nil) (.alt (.fn 61 .nil) (.fn 62 .nil)))))))) y49.2.2.2.2.2.2.1, Ps.enc (.alt (.fn 50 .nil) (.alt (.fn 53 .nil) (.alt (.fn 55 .nil) (.alt (.fn 57 .nil) (.fn 63 .nil))))) y49.2.2.2.2.2.2.2]], [], 58⟩
theorem graph_of_j2 : R7 C7.r.r.l (S7_0 op) (Q7 C7.r.r.r q) = Option.bind (graph_of_j2_p op) (either (fun y49 : (Int × Bool × Bool × Bool × Bool × Bool × (Unit ⊕ (Unit ⊕ (Unit ⊕ (Unit ⊕ (Unit ⊕ (Unit ⊕ (Unit ⊕ Unit))))))) × (Unit ⊕ (Unit ⊕ (Unit ⊕ (Unit ⊕ Unit))))) => R7 C7.r.r.r (S7_24 y49) q) (fun y50 : Unit => q .ret S7_23)) := by
  refine .trans ?_ (bif_b e2_0 (bif_b e2_0 (bif_b e2_0 (bif_b e2_0 (bif_b e2_0 (bif_b e2_0 (bif_b e2_0 (bif_b e2_0 (bif_b e2_0 (bif_b e2_0 e2_1))))))))))
  refine (pre1 (graph_of_f4 op _)).trans ?_
  refine (block_push (id := 0)).trans ?_
  refine (pre1 (graph_of_f1000005 op _)).trans ?_
  refine (cond_e (b := (op == 1)) (st' := (S7_1 op)) ).trans (bif_g ?_ ?_)
  · refine (pre2 (graph_of_f7 op _)).trans ?_
    refine (graph_of_r7 _).trans ?_
    refine block_normal.trans ?_
    refine (seqC_normal (st' := S7_3)).trans ?_
    kernel_rfl
  · refine (pre1 (graph_of_f1000009 op _)).trans ?_
    refine (cond_e (b := (op == 2)) (st' := (S7_1 op)) ).trans (bif_g ?_ ?_)
    · refine (pre1 (graph_of_f10 op _)).trans ?_
      refine (graph_of_r10 _).trans ?_
      refine block_normal.trans ?_
      refine (seqC_normal (st' := S7_5)).trans ?_
      kernel_rfl
    · refine (pre1 (graph_of_f1000012 op _)).trans ?_
      refine (cond_e (b := (op == 3)) (st' := (S7_1 op)) ).trans (bif_g ?_ ?_)
      · refine (pre2 (graph_of_f14 op _)).trans ?_
        refine (graph_of_r14 _).trans ?_
        refine block_normal.trans ?_
        refine (seqC_normal (st' := S7_7)).trans ?_
        kernel_rfl
      · refine .trans seq_push ?_
        refine (graph_of_j15 op _).trans ?_
        refine (cond_s (b := (graph_of_j15_p op)) ).trans (bif_g ?_ ?_)
        · refine (graph_of_r17 op _).trans ?_
          refine block_normal.trans ?_
          refine (seqC_normal (st' := S7_11)).trans ?_
          kernel_rfl
        · refine .trans seq_push ?_
          refine (graph_of_j18 op _).trans ?_
          refine (cond_s (b := (graph_of_j18_p op)) ).trans (bif_g ?_ ?_)
          · refine (graph_of_r20 op _).trans ?_
            refine block_normal.trans ?_
            refine (seqC_normal (st' := S7_15)).trans ?_
            kernel_rfl
          · refine (pre1 (graph_of_f1000022 op _)).trans ?_
            refine (cond_e (b := (op == 8)) (st' := (S7_1 op)) ).trans (bif_g ?_ ?_)
            · refine (graph_of_r22 op _).trans ?_
              refine block_normal.trans ?_
              refine (seqC_normal (st' := S7_16)).trans ?_
              kernel_rfl
            · refine (pre1 (graph_of_f1000024 op _)).trans ?_
              refine (cond_e (b := (op == 9)) (st' := (S7_1 op)) ).trans (bif_g ?_ ?_)
              · refine (pre1 (graph_of_f25 op _)).trans ?_
                refine (graph_of_r25 _).trans ?_
                refine block_normal.trans ?_
                refine (seqC_normal (st' := S7_18)).trans ?_
                kernel_rfl
              · refine (pre1 (graph_of_f1000027 op _)).trans ?_
                refine (cond_e (b := (op == 10)) (st' := (S7_1 op)) ).trans (bif_g ?_ ?_)
                · refine (graph_of_r27 op _).trans ?_
                  refine block_normal.trans ?_
                  refine (seqC_normal (st' := S7_19)).trans ?_
                  kernel_rfl
                · refine (pre1 (graph_of_f1000029 op _)).trans ?_
                  refine (cond_e (b := (op == 11)) (st' := (S7_1 op)) ).trans (bif_g ?_ ?_)
                  · refine (graph_of_r29 op _).trans ?_
                    refine block_normal.trans ?_
                    refine (seqC_normal (st' := S7_20)).trans ?_
                    kernel_rfl
                  · refine (pre1 (graph_of_f1000031 op _)).trans ?_
                    refine (cond_e (b := (op == 12)) (st' := S7_21) ).trans (bif_g ?_ ?_)
                    · refine (graph_of_r31 _).trans ?_
                      refine block_normal.trans ?_
                      refine (seqC_normal (st' := S7_22)).trans ?_
                      kernel_rfl
                    · refine (pre1 (graph_of_fz _)).trans ?_
                      refine (ret_eq).trans ?_
                      refine block_ret.trans ?_
                      refine seqC_ret.trans ?_
                      kernel_rfl
theorem graph_of_fzx1 : P7 1 C7.r.r.r (S7_24 y49) k = k ⟨[(2, rF 0), (3, rb true)], [[di y49.1, db y49.2.1, db y49.2.2.1, db y49.2.2.2.1, db y49.2.2.2.2.1, db y49.2.2.2.2.2.1, Ps.enc (.alt (.fn 49 .nil) (.alt (.fn 51 .nil) (.alt (.fn 54 .nil) (.alt (.fn 56 .nil) (.alt (.fn 59 .nil) (.alt (.fn 60 .nil) (.alt (.fn 61 .nil) (.fn 62 .nil)))))))) y49.2.2.2.2.2.2.1, Ps.enc (.alt (.fn 50 .nil) (.alt (.fn 53 .nil) (.alt (.fn 55 .nil) (.alt (.fn 57 .nil) (.fn 63 .nil))))) y49.2.2.2.2.2.2.2], []], [], 58⟩ := by (rcases y49 with ⟨_, _, _, _, _, _, (_ | _ | _ | _ | _ | _ | _ | _), (_ | _ | _ | _ | _)⟩ <;> kernel_rfl)
/-- quilt/graph.of -/
def graph_of : Option ((Int × Bool × Bool × Bool × Bool × Bool × (Unit ⊕ (Unit ⊕ (Unit ⊕ (Unit ⊕ (Unit ⊕ (Unit ⊕ (Unit ⊕ (Unit ⊕ Unit)))))))) × (Unit ⊕ (Unit ⊕ (Unit ⊕ (Unit ⊕ (Unit ⊕ Unit))))) × Unit) × Bool) := (Option.bind (graph_of_j2_p op) (either (fun y49 : (Int × Bool × Bool × Bool × Bool × Bool × (Unit ⊕ (Unit ⊕ (Unit ⊕ (Unit ⊕ (Unit ⊕ (Unit ⊕ (Unit ⊕ Unit))))))) × (Unit ⊕ (Unit ⊕ (Unit ⊕ (Unit ⊕ Unit))))) => (some ((y49.1, y49.2.1, y49.2.2.1, y49.2.2.2.1, y49.2.2.2.2.1, y49.2.2.2.2.2.1, ((either (fun u51 : Unit => (Sum.inl ())) (either (fun u52 : Unit => (Sum.inr (Sum.inl ()))) (either (fun u53 : Unit => (Sum.inr (Sum.inr (Sum.inl ())))) (either (fun u54 : Unit => (Sum.inr (Sum.inr (Sum.inr (Sum.inl ()))))) (either (fun u55 : Unit => (Sum.inr (Sum.inr (Sum.inr (Sum.inr (Sum.inl ())))))) (either (fun u56 : Unit => (Sum.inr (Sum.inr (Sum.inr (Sum.inr (Sum.inr (Sum.inl ()))))))) (either (fun u57 : Unit => (Sum.inr (Sum.inr (Sum.inr (Sum.inr (Sum.inr (Sum.inr (Sum.inl ())))))))) (fun u58 : Unit => (Sum.inr (Sum.inr (Sum.inr (Sum.inr (Sum.inr (Sum.inr (Sum.inr (Sum.inl ())))))))))))))))) y49.2.2.2.2.2.2.1), ((either (fun u59 : Unit => (Sum.inl ())) (either (fun u60 : Unit => (Sum.inr (Sum.inl ()))) (either (fun u61 : Unit => (Sum.inr (Sum.inr (Sum.inl ())))) (either (fun u62 : Unit => (Sum.inr (Sum.inr (Sum.inr (Sum.inl ()))))) (fun u63 : Unit => (Sum.inr (Sum.inr (Sum.inr (Sum.inr (Sum.inl ())))))))))) y49.2.2.2.2.2.2.2), ()), true))) (fun y50 : Unit => (some (((0 : Int), false, false, false, false, false, (Sum.inr (Sum.inr (Sum.inr (Sum.inr (Sum.inr (Sum.inr (Sum.inr (Sum.inr ())))))))), (Sum.inr (Sum.inr (Sum.inr (Sum.inr (Sum.inr ()))))), ()), false)))))
theorem graph_of_is : stepS E cp7 noE 33 [ri op] = Option.bind (graph_of op) (fun y : ((Int × Bool × Bool × Bool × Bool × Bool × (Unit ⊕ (Unit ⊕ (Unit ⊕ (Unit ⊕ (Unit ⊕ (Unit ⊕ (Unit ⊕ (Unit ⊕ Unit)))))))) × (Unit ⊕ (Unit ⊕ (Unit ⊕ (Unit ⊕ (Unit ⊕ Unit))))) × Unit) × Bool) => some (Po.enc (.tup [(.aggs (.cons (.g (.int .i64)) (.cons (.g .bool) (.cons (.g .bool) (.cons (.g .bool) (.cons (.g .bool) (.cons (.g .bool) (.cons (.alt (.fn 49 .nil) (.alt (.fn 51 .nil) (.alt (.fn 54 .nil) (.alt (.fn 56 .nil) (.alt (.fn 59 .nil) (.alt (.fn 60 .nil) (.alt (.fn 61 .nil) (.alt (.fn 62 .nil) .nilFn)))))))) (.cons (.alt (.fn 50 .nil) (.alt (.fn 53 .nil) (.alt (.fn 55 .nil) (.alt (.fn 57 .nil) (.alt (.fn 63 .nil) .nilFn))))) .nil))))))))), pB]) ((fun y : ((Int × Bool × Bool × Bool × Bool × Bool × (Unit ⊕ (Unit ⊕ (Unit ⊕ (Unit ⊕ (Unit ⊕ (Unit ⊕ (Unit ⊕ (Unit ⊕ Unit)))))))) × (Unit ⊕ (Unit ⊕ (Unit ⊕ (Unit ⊕ (Unit ⊕ Unit))))) × Unit) × Bool) => (y.1, y.2, ())) y))) := by
  refine .trans ?_ (bind_b (either_b (fun y49 => some_b) (fun y50 => some_b)))
  refine (stepG_is (nt := 58) (regs := [(0, ri op)])).trans ?_
  refine (pre2 (graph_of_f2 op _)).trans ?_
  refine .trans seq_push ?_
  refine (graph_of_j2 op _).trans (bind_g (either_g (fun y49 => ?_) (fun y50 => ?_)))
  · refine (pre1 (graph_of_fzx1 y49 _)).trans ?_
    refine (ret_eq).trans ?_
    (rcases y49 with ⟨_, _, _, _, _, _, (_ | _ | _ | _ | _ | _ | _ | _), (_ | _ | _ | _ | _)⟩ <;> kernel_rfl)
  · kernel_rfl
noncomputable def cp8 : CallP := withC cp7 33 [pI] (.tup [(.aggs (.cons (.g (.int .i64)) (.cons (.g .bool) (.cons (.g .bool) (.cons (.g .bool) (.cons (.g .bool) (.cons (.g .bool) (.cons (.alt (.fn 49 .nil) (.alt (.fn 51 .nil) (.alt (.fn 54 .nil) (.alt (.fn 56 .nil) (.alt (.fn 59 .nil) (.alt (.fn 60 .nil) (.alt (.fn 61 .nil) (.alt (.fn 62 .nil) .nilFn)))))))) (.cons (.alt (.fn 50 .nil) (.alt (.fn 53 .nil) (.alt (.fn 55 .nil) (.alt (.fn 57 .nil) (.alt (.fn 63 .nil) .nilFn))))) .nil))))))))), pB]) (fun y : ((Int × Bool × Bool × Bool × Bool × Bool × (Unit ⊕ (Unit ⊕ (Unit ⊕ (Unit ⊕ (Unit ⊕ (Unit ⊕ (Unit ⊕ (Unit ⊕ Unit)))))))) × (Unit ⊕ (Unit ⊕ (Unit ⊕ (Unit ⊕ (Unit ⊕ Unit))))) × Unit) × Bool) => (y.1, y.2, ())) (fun x => graph_of x.1)
theorem cp8_ok : PureOK E cp8 := conS eok cp7_ok noE_ok fun x => Eq.mp (by kernel_rfl) (graph_of_is x.1)
end
section
variable {α β : Type} (x_ : Int) (low : Int) (high : Int) (k : St → Option α)
noncomputable abbrev C8 := codeOf E.P 41
noncomputable abbrev P8 := @preK α E 41 cp8 noE
def graph_within_r1_q (K : Bool → β) : β := (bif (decide (x_ ≥ low)) then (K (decide (x_ ≤ high))) else (K false))
def graph_within_r1_p : Bool := graph_within_r1_q x_ low high (fun y => y)
theorem graph_within_r1_n (K : Bool → β) : graph_within_r1_q x_ low high K = K (graph_within_r1_p x_ low high) := (bif_k K rfl rfl)
theorem graph_within_r1 : P8 2 C8 ⟨[(0, ri x_), (1, ri low), (2, ri high)], [], [], 15⟩ k = k ⟨[(6, rb (graph_within_r1_p x_ low high))], [], [], 15⟩ := Eq.trans (by kernel_rfl) (graph_within_r1_n x_ low high (fun y129 : Bool => k ⟨[(6, rb y129)], [], [], 15⟩))
/-- quilt/graph.within -/
def graph_within_q (K : Bool → β) : β := (K (graph_within_r1_p x_ low high))
def graph_within : Bool := graph_within_q x_ low high (fun y => y)
theorem graph_within_n (K : Bool → β) : graph_within_q x_ low high K = K (graph_within x_ low high) := rfl
theorem graph_within_is : stepS E cp8 noE 41 [ri x_, ri low, ri high] = (fun y : Bool => some (rb y : R)) (graph_within x_ low high) := by
  refine Eq.trans ?_ (graph_within_n x_ low high (fun y : Bool => some (rb y : R)))
  refine (stepG_is (nt := 15) (regs := [(0, ri x_), (1, ri low), (2, ri high)])).trans ?_
  unfold graph_within_q
  refine (pre2 (graph_within_r1 x_ low high _)).trans ?_
  refine (ret_eq).trans ?_
  kernel_rfl
noncomputable def cp9 : CallP := withC cp8 41 [pI, pI, pI] (.one pB) (fun y : Bool => y) (fun x => some (graph_within x.1 x.2.1 x.2.2.1))
theorem cp9_ok : PureOK E cp9 := conS eok cp8_ok noE_ok fun x => Eq.mp (by kernel_rfl) (graph_within_is x.1 x.2.1 x.2.2.1)
end
section
variable {α β : Type} (k_ : Int) (k_' : Bool) (k_'' : Bool) (k_''' : Bool) (k_'''' : Bool) (k_''''' : Bool) (k_'''''' : (Unit ⊕ (Unit ⊕ (Unit ⊕ (Unit ⊕ (Unit ⊕ (Unit ⊕ (Unit ⊕ (Unit ⊕ Unit))))))))) (k_''''''' : (Unit ⊕ (Unit ⊕ (Unit ⊕ (Unit ⊕ (Unit ⊕ Unit)))))) (n_ : Node) (in_ : (List I4)) (k : St → Option α) (q : Kont α)
noncomputable abbrev C9 := codeOf E.P 34
noncomputable abbrev P9 := @preK α E 34 cp9 noE
noncomputable abbrev R9 := @runCode α E 34 cp9 noE
noncomputable abbrev Q9 := @seqC α E 34 cp9 noE
def graph_kind_may_r1_q (K : Bool → β) : β := (bif ((in_.length : Int) == k_) then (bif (graph_within n_.2.2.2.2.2.2.1 (1 : Int) (32767 : Int)) then (bif (graph_within n_.2.2.2.2.2.2.2.1 (0 : Int) (31 : Int)) then (K (graph_within n_.2.2.2.2.2.2.2.2.1 (-128 : Int) (127 : Int))) else (K false)) else (K false)) else (K false))
def graph_kind_may_r1_p : Bool := graph_kind_may_r1_q k_ n_ in_ (fun y => y)
theorem graph_kind_may_r1_n (K : Bool → β) : graph_kind_may_r1_q k_ n_ in_ K = K (graph_kind_may_r1_p k_ n_ in_) := (bif_k K (bif_k K (bif_k K rfl rfl) rfl) rfl)
abbrev S9_0 : St := ⟨[(3, .one (.cell [di k_, db k_', db k_'', db k_''', db k_'''', db k_''''', Ps.enc (.alt (.fn 49 .nil) (.alt (.fn 51 .nil) (.alt (.fn 54 .nil) (.alt (.fn 56 .nil) (.alt (.fn 59 .nil) (.alt (.fn 60 .nil) (.alt (.fn 61 .nil) (.alt (.fn 62 .nil) .nilFn)))))))) k_'''''', Ps.enc (.alt (.fn 50 .nil) (.alt (.fn 53 .nil) (.alt (.fn 55 .nil) (.alt (.fn 57 .nil) (.alt (.fn 63 .nil) .nilFn))))) k_'''''''])), (4, rC tsNode n_), (7, rb (graph_kind_may_r1_p k_ n_ in_))], [], [], 106⟩
theorem graph_kind_may_r1 : P9 2 C9 ⟨[(0, .agg [di k_, db k_', db k_'', db k_''', db k_'''', db k_''''', Ps.enc (.alt (.fn 49 .nil) (.alt (.fn 51 .nil) (.alt (.fn 54 .nil) (.alt (.fn 56 .nil) (.alt (.fn 59 .nil) (.alt (.fn 60 .nil) (.alt (.fn 61 .nil) (.alt (.fn 62 .nil) .nilFn)))))))) k_'''''', Ps.enc (.alt (.fn 50 .nil) (.alt (.fn 53 .nil) (.alt (.fn 55 .nil) (.alt (.fn 57 .nil) (.alt (.fn 63 .nil) .nilFn))))) k_''''''']), (1, rA tsNode n_), (2, rl tsI4 in_)], [], [], 106⟩ k = k (S9_0 k_ k_' k_'' k_''' k_'''' k_''''' k_'''''' k_''''''' n_ in_) := Eq.trans (by (rcases k_'''''' with (_ | _ | _ | _ | _ | _ | _ | _ | _) <;> rcases k_''''''' with (_ | _ | _ | _ | _ | _) <;> kernel_rfl)) (graph_kind_may_r1_n k_ n_ in_ (fun y130 : Bool => k ⟨[(3, .one (.cell [di k_, db k_', db k_'', db k_''', db k_'''', db k_''''', Ps.enc (.alt (.fn 49 .nil) (.alt (.fn 51 .nil) (.alt (.fn 54 .nil) (.alt (.fn 56 .nil) (.alt (.fn 59 .nil) (.alt (.fn 60 .nil) (.alt (.fn 61 .nil) (.alt (.fn 62 .nil) .nilFn)))))))) k_'''''', Ps.enc (.alt (.fn 50 .nil) (.alt (.fn 53 .nil) (.alt (.fn 55 .nil) (.alt (.fn 57 .nil) (.alt (.fn 63 .nil) .nilFn))))) k_'''''''])), (4, rC tsNode n_), (7, rb y130)], [], [], 106⟩))
def graph_kind_may_r2_q (K : Bool → β) : β := (bif (graph_kind_may_r1_p k_ n_ in_) then (bif (n_.1 == 11) then (K true) else (K ((n_.2.2.2.2.2.2.2.2.2.1 == 0) && ((n_.2.2.2.2.2.2.2.2.2.2.1 == 0) && ((n_.2.2.2.2.2.2.2.2.2.2.2.1 == 0) && true))))) else (K false))
def graph_kind_may_r2_p : Bool := graph_kind_may_r2_q k_ n_ in_ (fun y => y)
theorem graph_kind_may_r2_n (K : Bool → β) : graph_kind_may_r2_q k_ n_ in_ K = K (graph_kind_may_r2_p k_ n_ in_) := (bif_k K (bif_k K rfl rfl) rfl)
abbrev S9_1 : St := ⟨[(3, .one (.cell [di k_, db k_', db k_'', db k_''', db k_'''', db k_''''', Ps.enc (.alt (.fn 49 .nil) (.alt (.fn 51 .nil) (.alt (.fn 54 .nil) (.alt (.fn 56 .nil) (.alt (.fn 59 .nil) (.alt (.fn 60 .nil) (.alt (.fn 61 .nil) (.alt (.fn 62 .nil) .nilFn)))))))) k_'''''', Ps.enc (.alt (.fn 50 .nil) (.alt (.fn 53 .nil) (.alt (.fn 55 .nil) (.alt (.fn 57 .nil) (.alt (.fn 63 .nil) .nilFn))))) k_'''''''])), (4, rC tsNode n_), (7, rb (graph_kind_may_r2_p k_ n_ in_))], [], [], 106⟩
theorem graph_kind_may_r2 : P9 1 C9.r.r (S9_0 k_ k_' k_'' k_''' k_'''' k_''''' k_'''''' k_''''''' n_ in_) k = k (S9_1 k_ k_' k_'' k_''' k_'''' k_''''' k_'''''' k_''''''' n_ in_) := Eq.trans (by (rcases k_'''''' with (_ | _ | _ | _ | _ | _ | _ | _ | _) <;> rcases k_''''''' with (_ | _ | _ | _ | _ | _) <;> kernel_rfl)) (graph_kind_may_r2_n k_ n_ in_ (fun y131 : Bool => k ⟨[(3, .one (.cell [di k_, db k_', db k_'', db k_''', db k_'''', db k_''''', Ps.enc (.alt (.fn 49 .nil) (.alt (.fn 51 .nil) (.alt (.fn 54 .nil) (.alt (.fn 56 .nil) (.alt (.fn 59 .nil) (.alt (.fn 60 .nil) (.alt (.fn 61 .nil) (.alt (.fn 62 .nil) .nilFn)))))))) k_'''''', Ps.enc (.alt (.fn 50 .nil) (.alt (.fn 53 .nil) (.alt (.fn 55 .nil) (.alt (.fn 57 .nil) (.alt (.fn 63 .nil) .nilFn))))) k_'''''''])), (4, rC tsNode n_), (7, rb y131)], [], [], 106⟩))
theorem graph_kind_may_f1000004 : P9 1 C9.r.r.r.l (S9_1 k_ k_' k_'' k_''' k_'''' k_''''' k_'''''' k_''''''' n_ in_) k = k ⟨[(3, .one (.cell [di k_, db k_', db k_'', db k_''', db k_'''', db k_''''', Ps.enc (.alt (.fn 49 .nil) (.alt (.fn 51 .nil) (.alt (.fn 54 .nil) (.alt (.fn 56 .nil) (.alt (.fn 59 .nil) (.alt (.fn 60 .nil) (.alt (.fn 61 .nil) (.alt (.fn 62 .nil) .nilFn)))))))) k_'''''', Ps.enc (.alt (.fn 50 .nil) (.alt (.fn 53 .nil) (.alt (.fn 55 .nil) (.alt (.fn 57 .nil) (.alt (.fn 63 .nil) .nilFn))))) k_'''''''])), (4, rC tsNode n_), (7, rb (graph_kind_may_r2_p k_ n_ in_)), (41, rb k_')], [], [], 106⟩ := by (rcases k_'''''' with (_ | _ | _ | _ | _ | _ | _ | _ | _) <;> rcases k_''''''' with (_ | _ | _ | _ | _ | _) <;> kernel_rfl)
def graph_kind_may_r4_q (K : Bool → β) : β := (bif (graph_kind_may_r2_p k_ n_ in_) then (bif (graph_within n_.2.2.1 (1 : Int) (3 : Int)) then (K (graph_within n_.2.2.2.1 (1 : Int) (2 : Int))) else (K false)) else (K false))
def graph_kind_may_r4_p : Bool := graph_kind_may_r4_q k_ n_ in_ (fun y => y)
theorem graph_kind_may_r4_n (K : Bool → β) : graph_kind_may_r4_q k_ n_ in_ K = K (graph_kind_may_r4_p k_ n_ in_) := (bif_k K (bif_k K rfl rfl) rfl)
abbrev S9_2 : St := ⟨[(3, .one (.cell [di k_, db k_', db k_'', db k_''', db k_'''', db k_''''', Ps.enc (.alt (.fn 49 .nil) (.alt (.fn 51 .nil) (.alt (.fn 54 .nil) (.alt (.fn 56 .nil) (.alt (.fn 59 .nil) (.alt (.fn 60 .nil) (.alt (.fn 61 .nil) (.alt (.fn 62 .nil) .nilFn)))))))) k_'''''', Ps.enc (.alt (.fn 50 .nil) (.alt (.fn 53 .nil) (.alt (.fn 55 .nil) (.alt (.fn 57 .nil) (.alt (.fn 63 .nil) .nilFn))))) k_'''''''])), (4, rC tsNode n_), (7, rb (graph_kind_may_r4_p k_ n_ in_))], [], [], 106⟩
theorem graph_kind_may_r4 : R9 C9.r.r.r.l.r.t (S9_1 k_ k_' k_'' k_''' k_'''' k_''''' k_'''''' k_''''''' n_ in_) q = q .normal (S9_2 k_ k_' k_'' k_''' k_'''' k_''''' k_'''''' k_''''''' n_ in_) := Eq.trans (by (rcases k_'''''' with (_ | _ | _ | _ | _ | _ | _ | _ | _) <;> rcases k_''''''' with (_ | _ | _ | _ | _ | _) <;> kernel_rfl)) (graph_kind_may_r4_n k_ n_ in_ (fun y132 : Bool => q .normal ⟨[(3, .one (.cell [di k_, db k_', db k_'', db k_''', db k_'''', db k_''''', Ps.enc (.alt (.fn 49 .nil) (.alt (.fn 51 .nil) (.alt (.fn 54 .nil) (.alt (.fn 56 .nil) (.alt (.fn 59 .nil) (.alt (.fn 60 .nil) (.alt (.fn 61 .nil) (.alt (.fn 62 .nil) .nilFn)))))))) k_'''''', Ps.enc (.alt (.fn 50 .nil) (.alt (.fn 53 .nil) (.alt (.fn 55 .nil) (.alt (.fn 57 .nil) (.alt (.fn 63 .nil) .nilFn))))) k_'''''''])), (4, rC tsNode n_), (7, rb y132)], [], [], 106⟩))
def graph_kind_may_r5_q (K : Bool → β) : β := (bif (graph_kind_may_r2_p k_ n_ in_) then (bif (n_.2.2.1 == 0) then (K (n_.2.2.2.1 == 0)) else (K false)) else (K false))
def graph_kind_may_r5_p : Bool := graph_kind_may_r5_q k_ n_ in_ (fun y => y)
theorem graph_kind_may_r5_n (K : Bool → β) : graph_kind_may_r5_q k_ n_ in_ K = K (graph_kind_may_r5_p k_ n_ in_) := (bif_k K (bif_k K rfl rfl) rfl)
abbrev S9_3 : St := ⟨[(3, .one (.cell [di k_, db k_', db k_'', db k_''', db k_'''', db k_''''', Ps.enc (.alt (.fn 49 .nil) (.alt (.fn 51 .nil) (.alt (.fn 54 .nil) (.alt (.fn 56 .nil) (.alt (.fn 59 .nil) (.alt (.fn 60 .nil) (.alt (.fn 61 .nil) (.alt (.fn 62 .nil) .nilFn)))))))) k_'''''', Ps.enc (.alt (.fn 50 .nil) (.alt (.fn 53 .nil) (.alt (.fn 55 .nil) (.alt (.fn 57 .nil) (.alt (.fn 63 .nil) .nilFn))))) k_'''''''])), (4, rC tsNode n_), (7, rb (graph_kind_may_r5_p k_ n_ in_))], [], [], 106⟩
theorem graph_kind_may_r5 : R9 C9.r.r.r.l.r.e (S9_1 k_ k_' k_'' k_''' k_'''' k_''''' k_'''''' k_''''''' n_ in_) q = q .normal (S9_3 k_ k_' k_'' k_''' k_'''' k_''''' k_'''''' k_''''''' n_ in_) := Eq.trans (by (rcases k_'''''' with (_ | _ | _ | _ | _ | _ | _ | _ | _) <;> rcases k_''''''' with (_ | _ | _ | _ | _ | _) <;> kernel_rfl)) (graph_kind_may_r5_n k_ n_ in_ (fun y133 : Bool => q .normal ⟨[(3, .one (.cell [di k_, db k_', db k_'', db k_''', db k_'''', db k_''''', Ps.enc (.alt (.fn 49 .nil) (.alt (.fn 51 .nil) (.alt (.fn 54 .nil) (.alt (.fn 56 .nil) (.alt (.fn 59 .nil) (.alt (.fn 60 .nil) (.alt (.fn 61 .nil) (.alt (.fn 62 .nil) .nilFn)))))))) k_'''''', Ps.enc (.alt (.fn 50 .nil) (.alt (.fn 53 .nil) (.alt (.fn 55 .nil) (.alt (.fn 57 .nil) (.alt (.fn 63 .nil) .nilFn))))) k_'''''''])), (4, rC tsNode n_), (7, rb y133)], [], [], 106⟩))
def graph_kind_may_j3_q (K : Bool → β) : β := (bif k_' then (K (graph_kind_may_r4_p k_ n_ in_)) else (K (graph_kind_may_r5_p k_ n_ in_)))
def graph_kind_may_j3_p : Bool := graph_kind_may_j3_q k_ k_' n_ in_ (fun y => y)
theorem graph_kind_may_j3_n (K : Bool → β) : graph_kind_may_j3_q k_ k_' n_ in_ K = K (graph_kind_may_j3_p k_ k_' n_ in_) := (bif_k K rfl rfl)
abbrev S9_4 : St := ⟨[(3, .one (.cell [di k_, db k_', db k_'', db k_''', db k_'''', db k_''''', Ps.enc (.alt (.fn 49 .nil) (.alt (.fn 51 .nil) (.alt (.fn 54 .nil) (.alt (.fn 56 .nil) (.alt (.fn 59 .nil) (.alt (.fn 60 .nil) (.alt (.fn 61 .nil) (.alt (.fn 62 .nil) .nilFn)))))))) k_'''''', Ps.enc (.alt (.fn 50 .nil) (.alt (.fn 53 .nil) (.alt (.fn 55 .nil) (.alt (.fn 57 .nil) (.alt (.fn 63 .nil) .nilFn))))) k_'''''''])), (4, rC tsNode n_), (7, rb (graph_kind_may_j3_p k_ k_' n_ in_))], [], [], 106⟩
theorem graph_kind_may_j3 : R9 C9.r.r.r.l (S9_1 k_ k_' k_'' k_''' k_'''' k_''''' k_'''''' k_''''''' n_ in_) (Q9 C9.r.r.r.r q) = R9 C9.r.r.r.r (S9_4 k_ k_' k_'' k_''' k_'''' k_''''' k_'''''' k_''''''' n_ in_) q := by
  refine Eq.trans ?_ (graph_kind_may_j3_n k_ k_' n_ in_ (fun y134 : Bool => R9 C9.r.r.r.r ⟨[(3, .one (.cell [di k_, db k_', db k_'', db k_''', db k_'''', db k_''''', Ps.enc (.alt (.fn 49 .nil) (.alt (.fn 51 .nil) (.alt (.fn 54 .nil) (.alt (.fn 56 .nil) (.alt (.fn 59 .nil) (.alt (.fn 60 .nil) (.alt (.fn 61 .nil) (.alt (.fn 62 .nil) .nilFn)))))))) k_'''''', Ps.enc (.alt (.fn 50 .nil) (.alt (.fn 53 .nil) (.alt (.fn 55 .nil) (.alt (.fn 57 .nil) (.alt (.fn 63 .nil) .nilFn))))) k_'''''''])), (4, rC tsNode n_), (7, rb y134)], [], [], 106⟩ q))
  unfold graph_kind_may_j3_q
  refine (pre1 (graph_kind_may_f1000004 k_ k_' k_'' k_''' k_'''' k_''''' k_'''''' k_''''''' n_ in_ _)).trans ?_
  refine (cond_e (b := k_') (st' := (S9_1 k_ k_' k_'' k_''' k_'''' k_''''' k_'''''' k_''''''' n_ in_)) (hs := by (rcases k_'''''' with (_ | _ | _ | _ | _ | _ | _ | _ | _) <;> rcases k_''''''' with (_ | _ | _ | _ | _ | _) <;> kernel_rfl))).trans (bif_g ?_ ?_)
  · refine (graph_kind_may_r4 k_ k_' k_'' k_''' k_'''' k_''''' k_'''''' k_''''''' n_ in_ _).trans ?_
    refine (seqC_normal (st' := (S9_2 k_ k_' k_'' k_''' k_'''' k_''''' k_'''''' k_''''''' n_ in_)) (hs := by (rcases k_'''''' with (_ | _ | _ | _ | _ | _ | _ | _ | _) <;> rcases k_''''''' with (_ | _ | _ | _ | _ | _) <;> kernel_rfl))).trans ?_
    (rcases k_'''''' with (_ | _ | _ | _ | _ | _ | _ | _ | _) <;> rcases k_''''''' with (_ | _ | _ | _ | _ | _) <;> kernel_rfl)
  · refine (graph_kind_may_r5 k_ k_' k_'' k_''' k_'''' k_''''' k_'''''' k_''''''' n_ in_ _).trans ?_
    refine (seqC_normal (st' := (S9_3 k_ k_' k_'' k_''' k_'''' k_''''' k_'''''' k_''''''' n_ in_)) (hs := by (rcases k_'''''' with (_ | _ | _ | _ | _ | _ | _ | _ | _) <;> rcases k_''''''' with (_ | _ | _ | _ | _ | _) <;> kernel_rfl))).trans ?_
    (rcases k_'''''' with (_ | _ | _ | _ | _ | _ | _ | _ | _) <;> rcases k_''''''' with (_ | _ | _ | _ | _ | _) <;> kernel_rfl)
theorem graph_kind_may_f1000008 : P9 1 C9.r.r.r.r.l.b (S9_4 k_ k_' k_'' k_''' k_'''' k_''''' k_'''''' k_''''''' n_ in_) k = k ⟨[(3, .one (.cell [di k_, db k_', db k_'', db k_''', db k_'''', db k_''''', Ps.enc (.alt (.fn 49 .nil) (.alt (.fn 51 .nil) (.alt (.fn 54 .nil) (.alt (.fn 56 .nil) (.alt (.fn 59 .nil) (.alt (.fn 60 .nil) (.alt (.fn 61 .nil) (.alt (.fn 62 .nil) .nilFn)))))))) k_'''''', Ps.enc (.alt (.fn 50 .nil) (.alt (.fn 53 .nil) (.alt (.fn 55 .nil) (.alt (.fn 57 .nil) (.alt (.fn 63 .nil) .nilFn))))) k_'''''''])), (4, rC tsNode n_), (7, rb (graph_kind_may_j3_p k_ k_' n_ in_)), (70, rb k_'')], [], [], 106⟩ := by (rcases k_'''''' with (_ | _ | _ | _ | _ | _ | _ | _ | _) <;> rcases k_''''''' with (_ | _ | _ | _ | _ | _) <;> kernel_rfl)
def graph_kind_may_r8_q (K : Bool → β) : β := (bif (graph_kind_may_j3_p k_ k_' n_ in_) then (K (graph_within n_.2.2.2.2.1 (0 : Int) (min (1 : Int) (IntKind.wrap .i64 (n_.2.2.1 - 1))))) else (K false))
def graph_kind_may_r8_p : Bool := graph_kind_may_r8_q k_ k_' n_ in_ (fun y => y)
theorem graph_kind_may_r8_n (K : Bool → β) : graph_kind_may_r8_q k_ k_' n_ in_ K = K (graph_kind_may_r8_p k_ k_' n_ in_) := (bif_k K rfl rfl)
abbrev S9_5 : St := ⟨[(3, .one (.cell [di k_, db k_', db k_'', db k_''', db k_'''', db k_''''', Ps.enc (.alt (.fn 49 .nil) (.alt (.fn 51 .nil) (.alt (.fn 54 .nil) (.alt (.fn 56 .nil) (.alt (.fn 59 .nil) (.alt (.fn 60 .nil) (.alt (.fn 61 .nil) (.alt (.fn 62 .nil) .nilFn)))))))) k_'''''', Ps.enc (.alt (.fn 50 .nil) (.alt (.fn 53 .nil) (.alt (.fn 55 .nil) (.alt (.fn 57 .nil) (.alt (.fn 63 .nil) .nilFn))))) k_'''''''])), (4, rC tsNode n_), (7, rb (graph_kind_may_r8_p k_ k_' n_ in_))], [], [], 106⟩
theorem graph_kind_may_r8 : R9 C9.r.r.r.r.l.b.r.t (S9_4 k_ k_' k_'' k_''' k_'''' k_''''' k_'''''' k_''''''' n_ in_) q = q .normal (S9_5 k_ k_' k_'' k_''' k_'''' k_''''' k_'''''' k_''''''' n_ in_) := Eq.trans (by (rcases k_'''''' with (_ | _ | _ | _ | _ | _ | _ | _ | _) <;> rcases k_''''''' with (_ | _ | _ | _ | _ | _) <;> kernel_rfl)) (graph_kind_may_r8_n k_ k_' n_ in_ (fun y135 : Bool => q .normal ⟨[(3, .one (.cell [di k_, db k_', db k_'', db k_''', db k_'''', db k_''''', Ps.enc (.alt (.fn 49 .nil) (.alt (.fn 51 .nil) (.alt (.fn 54 .nil) (.alt (.fn 56 .nil) (.alt (.fn 59 .nil) (.alt (.fn 60 .nil) (.alt (.fn 61 .nil) (.alt (.fn 62 .nil) .nilFn)))))))) k_'''''', Ps.enc (.alt (.fn 50 .nil) (.alt (.fn 53 .nil) (.alt (.fn 55 .nil) (.alt (.fn 57 .nil) (.alt (.fn 63 .nil) .nilFn))))) k_'''''''])), (4, rC tsNode n_), (7, rb y135)], [], [], 106⟩))
theorem graph_kind_may_f1000010 : P9 1 C9.r.r.r.r.l.b.r.e (S9_4 k_ k_' k_'' k_''' k_'''' k_''''' k_'''''' k_''''''' n_ in_) k = k ⟨[(3, .one (.cell [di k_, db k_', db k_'', db k_''', db k_'''', db k_''''', Ps.enc (.alt (.fn 49 .nil) (.alt (.fn 51 .nil) (.alt (.fn 54 .nil) (.alt (.fn 56 .nil) (.alt (.fn 59 .nil) (.alt (.fn 60 .nil) (.alt (.fn 61 .nil) (.alt (.fn 62 .nil) .nilFn)))))))) k_'''''', Ps.enc (.alt (.fn 50 .nil) (.alt (.fn 53 .nil) (.alt (.fn 55 .nil) (.alt (.fn 57 .nil) (.alt (.fn 63 .nil) .nilFn))))) k_'''''''])), (4, rC tsNode n_), (7, rb (graph_kind_may_j3_p k_ k_' n_ in_)), (83, rb k_''')], [], [], 106⟩ := by (rcases k_'''''' with (_ | _ | _ | _ | _ | _ | _ | _ | _) <;> rcases k_''''''' with (_ | _ | _ | _ | _ | _) <;> kernel_rfl)
def graph_kind_may_r10_q (K : Bool → β) : β := (bif (graph_kind_may_j3_p k_ k_' n_ in_) then (K (n_.2.2.2.2.1 == 1)) else (K false))
def graph_kind_may_r10_p : Bool := graph_kind_may_r10_q k_ k_' n_ in_ (fun y => y)
theorem graph_kind_may_r10_n (K : Bool → β) : graph_kind_may_r10_q k_ k_' n_ in_ K = K (graph_kind_may_r10_p k_ k_' n_ in_) := (bif_k K rfl rfl)
abbrev S9_6 : St := ⟨[(3, .one (.cell [di k_, db k_', db k_'', db k_''', db k_'''', db k_''''', Ps.enc (.alt (.fn 49 .nil) (.alt (.fn 51 .nil) (.alt (.fn 54 .nil) (.alt (.fn 56 .nil) (.alt (.fn 59 .nil) (.alt (.fn 60 .nil) (.alt (.fn 61 .nil) (.alt (.fn 62 .nil) .nilFn)))))))) k_'''''', Ps.enc (.alt (.fn 50 .nil) (.alt (.fn 53 .nil) (.alt (.fn 55 .nil) (.alt (.fn 57 .nil) (.alt (.fn 63 .nil) .nilFn))))) k_'''''''])), (4, rC tsNode n_), (7, rb (graph_kind_may_r10_p k_ k_' n_ in_))], [], [], 106⟩
theorem graph_kind_may_r10 : R9 C9.r.r.r.r.l.b.r.e.r.t (S9_4 k_ k_' k_'' k_''' k_'''' k_''''' k_'''''' k_''''''' n_ in_) q = q .normal (S9_6 k_ k_' k_'' k_''' k_'''' k_''''' k_'''''' k_''''''' n_ in_) := Eq.trans (by (rcases k_'''''' with (_ | _ | _ | _ | _ | _ | _ | _ | _) <;> rcases k_''''''' with (_ | _ | _ | _ | _ | _) <;> kernel_rfl)) (graph_kind_may_r10_n k_ k_' n_ in_ (fun y136 : Bool => q .normal ⟨[(3, .one (.cell [di k_, db k_', db k_'', db k_''', db k_'''', db k_''''', Ps.enc (.alt (.fn 49 .nil) (.alt (.fn 51 .nil) (.alt (.fn 54 .nil) (.alt (.fn 56 .nil) (.alt (.fn 59 .nil) (.alt (.fn 60 .nil) (.alt (.fn 61 .nil) (.alt (.fn 62 .nil) .nilFn)))))))) k_'''''', Ps.enc (.alt (.fn 50 .nil) (.alt (.fn 53 .nil) (.alt (.fn 55 .nil) (.alt (.fn 57 .nil) (.alt (.fn 63 .nil) .nilFn))))) k_'''''''])), (4, rC tsNode n_), (7, rb y136)], [], [], 106⟩))
def graph_kind_may_r6_q (K : Bool → β) : β := (bif (graph_kind_may_j3_p k_ k_' n_ in_) then (K (n_.2.2.2.2.1 == 0)) else (K false))
def graph_kind_may_r6_p : Bool := graph_kind_may_r6_q k_ k_' n_ in_ (fun y => y)
theorem graph_kind_may_r6_n (K : Bool → β) : graph_kind_may_r6_q k_ k_' n_ in_ K = K (graph_kind_may_r6_p k_ k_' n_ in_) := (bif_k K rfl rfl)
abbrev S9_7 : St := ⟨[(3, .one (.cell [di k_, db k_', db k_'', db k_''', db k_'''', db k_''''', Ps.enc (.alt (.fn 49 .nil) (.alt (.fn 51 .nil) (.alt (.fn 54 .nil) (.alt (.fn 56 .nil) (.alt (.fn 59 .nil) (.alt (.fn 60 .nil) (.alt (.fn 61 .nil) (.alt (.fn 62 .nil) .nilFn)))))))) k_'''''', Ps.enc (.alt (.fn 50 .nil) (.alt (.fn 53 .nil) (.alt (.fn 55 .nil) (.alt (.fn 57 .nil) (.alt (.fn 63 .nil) .nilFn))))) k_'''''''])), (4, rC tsNode n_), (7, rb (graph_kind_may_r6_p k_ k_' n_ in_))], [], [], 106⟩
theorem graph_kind_may_r6 : R9 C9.r.r.r.r.l.b.r.e.r.e (S9_4 k_ k_' k_'' k_''' k_'''' k_''''' k_'''''' k_''''''' n_ in_) q = q .normal (S9_7 k_ k_' k_'' k_''' k_'''' k_''''' k_'''''' k_''''''' n_ in_) := Eq.trans (by (rcases k_'''''' with (_ | _ | _ | _ | _ | _ | _ | _ | _) <;> rcases k_''''''' with (_ | _ | _ | _ | _ | _) <;> kernel_rfl)) (graph_kind_may_r6_n k_ k_' n_ in_ (fun y137 : Bool => q .normal ⟨[(3, .one (.cell [di k_, db k_', db k_'', db k_''', db k_'''', db k_''''', Ps.enc (.alt (.fn 49 .nil) (.alt (.fn 51 .nil) (.alt (.fn 54 .nil) (.alt (.fn 56 .nil) (.alt (.fn 59 .nil) (.alt (.fn 60 .nil) (.alt (.fn 61 .nil) (.alt (.fn 62 .nil) .nilFn)))))))) k_'''''', Ps.enc (.alt (.fn 50 .nil) (.alt (.fn 53 .nil) (.alt (.fn 55 .nil) (.alt (.fn 57 .nil) (.alt (.fn 63 .nil) .nilFn))))) k_'''''''])), (4, rC tsNode n_), (7, rb y137)], [], [], 106⟩))
def graph_kind_may_j7_q (K : Bool → β) : β := (bif k_'' then (K (graph_kind_may_r8_p k_ k_' n_ in_)) else (bif k_''' then (K (graph_kind_may_r10_p k_ k_' n_ in_)) else (K (graph_kind_may_r6_p k_ k_' n_ in_))))
def graph_kind_may_j7_p : Bool := graph_kind_may_j7_q k_ k_' k_'' k_''' n_ in_ (fun y => y)
theorem graph_kind_may_j7_n (K : Bool → β) : graph_kind_may_j7_q k_ k_' k_'' k_''' n_ in_ K = K (graph_kind_may_j7_p k_ k_' k_'' k_''' n_ in_) := (bif_k K rfl (bif_k K rfl rfl))
abbrev S9_8 : St := ⟨[(3, .one (.cell [di k_, db k_', db k_'', db k_''', db k_'''', db k_''''', Ps.enc (.alt (.fn 49 .nil) (.alt (.fn 51 .nil) (.alt (.fn 54 .nil) (.alt (.fn 56 .nil) (.alt (.fn 59 .nil) (.alt (.fn 60 .nil) (.alt (.fn 61 .nil) (.alt (.fn 62 .nil) .nilFn)))))))) k_'''''', Ps.enc (.alt (.fn 50 .nil) (.alt (.fn 53 .nil) (.alt (.fn 55 .nil) (.alt (.fn 57 .nil) (.alt (.fn 63 .nil) .nilFn))))) k_'''''''])), (4, rC tsNode n_), (7, rb (graph_kind_may_j7_p k_ k_' k_'' k_''' n_ in_))], [], [], 106⟩
theorem graph_kind_may_j7 : R9 C9.r.r.r.r.l (S9_4 k_ k_' k_'' k_''' k_'''' k_''''' k_'''''' k_''''''' n_ in_) (Q9 C9.r.r.r.r.r q) = R9 C9.r.r.r.r.r (S9_8 k_ k_' k_'' k_''' k_'''' k_''''' k_'''''' k_''''''' n_ in_) q := by
  refine Eq.trans ?_ (graph_kind_may_j7_n k_ k_' k_'' k_''' n_ in_ (fun y138 : Bool => R9 C9.r.r.r.r.r ⟨[(3, .one (.cell [di k_, db k_', db k_'', db k_''', db k_'''', db k_''''', Ps.enc (.alt (.fn 49 .nil) (.alt (.fn 51 .nil) (.alt (.fn 54 .nil) (.alt (.fn 56 .nil) (.alt (.fn 59 .nil) (.alt (.fn 60 .nil) (.alt (.fn 61 .nil) (.alt (.fn 62 .nil) .nilFn)))))))) k_'''''', Ps.enc (.alt (.fn 50 .nil) (.alt (.fn 53 .nil) (.alt (.fn 55 .nil) (.alt (.fn 57 .nil) (.alt (.fn 63 .nil) .nilFn))))) k_'''''''])), (4, rC tsNode n_), (7, rb y138)], [], [], 106⟩ q))
  unfold graph_kind_may_j7_q
  refine (block_push (id := 0)).trans ?_
  refine (pre1 (graph_kind_may_f1000008 k_ k_' k_'' k_''' k_'''' k_''''' k_'''''' k_''''''' n_ in_ _)).trans ?_
  refine (cond_e (b := k_'') (st' := (S9_4 k_ k_' k_'' k_''' k_'''' k_''''' k_'''''' k_''''''' n_ in_)) (hs := by (rcases k_'''''' with (_ | _ | _ | _ | _ | _ | _ | _ | _) <;> rcases k_''''''' with (_ | _ | _ | _ | _ | _) <;> kernel_rfl))).trans (bif_g ?_ ?_)
  · refine (graph_kind_may_r8 k_ k_' k_'' k_''' k_'''' k_''''' k_'''''' k_''''''' n_ in_ _).trans ?_
    refine block_normal.trans ?_
    refine (seqC_normal (st' := (S9_5 k_ k_' k_'' k_''' k_'''' k_''''' k_'''''' k_''''''' n_ in_)) (hs := by (rcases k_'''''' with (_ | _ | _ | _ | _ | _ | _ | _ | _) <;> rcases k_''''''' with (_ | _ | _ | _ | _ | _) <;> kernel_rfl))).trans ?_
    (rcases k_'''''' with (_ | _ | _ | _ | _ | _ | _ | _ | _) <;> rcases k_''''''' with (_ | _ | _ | _ | _ | _) <;> kernel_rfl)
  · refine (pre1 (graph_kind_may_f1000010 k_ k_' k_'' k_''' k_'''' k_''''' k_'''''' k_''''''' n_ in_ _)).trans ?_
    refine (cond_e (b := k_''') (st' := (S9_4 k_ k_' k_'' k_''' k_'''' k_''''' k_'''''' k_''''''' n_ in_)) (hs := by (rcases k_'''''' with (_ | _ | _ | _ | _ | _ | _ | _ | _) <;> rcases k_''''''' with (_ | _ | _ | _ | _ | _) <;> kernel_rfl))).trans (bif_g ?_ ?_)
    · refine (graph_kind_may_r10 k_ k_' k_'' k_''' k_'''' k_''''' k_'''''' k_''''''' n_ in_ _).trans ?_
      refine block_normal.trans ?_
      refine (seqC_normal (st' := (S9_6 k_ k_' k_'' k_''' k_'''' k_''''' k_'''''' k_''''''' n_ in_)) (hs := by (rcases k_'''''' with (_ | _ | _ | _ | _ | _ | _ | _ | _) <;> rcases k_''''''' with (_ | _ | _ | _ | _ | _) <;> kernel_rfl))).trans ?_
      (rcases k_'''''' with (_ | _ | _ | _ | _ | _ | _ | _ | _) <;> rcases k_''''''' with (_ | _ | _ | _ | _ | _) <;> kernel_rfl)
    · refine (graph_kind_may_r6 k_ k_' k_'' k_''' k_'''' k_''''' k_'''''' k_''''''' n_ in_ _).trans ?_
      refine block_normal.trans ?_
      refine (seqC_normal (st' := (S9_7 k_ k_' k_'' k_''' k_'''' k_''''' k_'''''' k_''''''' n_ in_)) (hs := by (rcases k_'''''' with (_ | _ | _ | _ | _ | _ | _ | _ | _) <;> rcases k_''''''' with (_ | _ | _ | _ | _ | _) <;> kernel_rfl))).trans ?_
      (rcases k_'''''' with (_ | _ | _ | _ | _ | _ | _ | _ | _) <;> rcases k_''''''' with (_ | _ | _ | _ | _ | _) <;> kernel_rfl)
theorem graph_kind_may_f1000012 : P9 1 C9.r.r.r.r.r.l (S9_8 k_ k_' k_'' k_''' k_'''' k_''''' k_'''''' k_''''''' n_ in_) k = k ⟨[(4, rC tsNode n_), (7, rb (graph_kind_may_j7_p k_ k_' k_'' k_''' n_ in_)), (93, rb k_'''')], [], [], 106⟩ := by (rcases k_'''''' with (_ | _ | _ | _ | _ | _ | _ | _ | _) <;> rcases k_''''''' with (_ | _ | _ | _ | _ | _) <;> kernel_rfl)
def graph_kind_may_r12_q (K : Bool → β) : β := (bif (graph_kind_may_j7_p k_ k_' k_'' k_''' n_ in_) then (K (graph_within n_.2.2.2.2.2.1 (1 : Int) (8 : Int))) else (K false))
def graph_kind_may_r12_p : Bool := graph_kind_may_r12_q k_ k_' k_'' k_''' n_ in_ (fun y => y)
theorem graph_kind_may_r12_n (K : Bool → β) : graph_kind_may_r12_q k_ k_' k_'' k_''' n_ in_ K = K (graph_kind_may_r12_p k_ k_' k_'' k_''' n_ in_) := (bif_k K rfl rfl)
abbrev S9_9 : St := ⟨[(4, rC tsNode n_), (7, rb (graph_kind_may_j7_p k_ k_' k_'' k_''' n_ in_))], [], [], 106⟩
theorem graph_kind_may_r12 : P9 1 C9.r.r.r.r.r.l.r.t (S9_9 k_ k_' k_'' k_''' n_ in_) k = k ⟨[(6, rb (graph_kind_may_r12_p k_ k_' k_'' k_''' n_ in_))], [], [], 106⟩ := Eq.trans (by kernel_rfl) (graph_kind_may_r12_n k_ k_' k_'' k_''' n_ in_ (fun y140 : Bool => k ⟨[(6, rb y140)], [], [], 106⟩))
def graph_kind_may_r13_q (K : Bool → β) : β := (bif (graph_kind_may_j7_p k_ k_' k_'' k_''' n_ in_) then (K (n_.2.2.2.2.2.1 == 0)) else (K false))
def graph_kind_may_r13_p : Bool := graph_kind_may_r13_q k_ k_' k_'' k_''' n_ in_ (fun y => y)
theorem graph_kind_may_r13_n (K : Bool → β) : graph_kind_may_r13_q k_ k_' k_'' k_''' n_ in_ K = K (graph_kind_may_r13_p k_ k_' k_'' k_''' n_ in_) := (bif_k K rfl rfl)
theorem graph_kind_may_r13 : P9 1 C9.r.r.r.r.r.r (S9_9 k_ k_' k_'' k_''' n_ in_) k = k ⟨[(6, rb (graph_kind_may_r13_p k_ k_' k_'' k_''' n_ in_))], [], [], 106⟩ := Eq.trans (by kernel_rfl) (graph_kind_may_r13_n k_ k_' k_'' k_''' n_ in_ (fun y141 : Bool => k ⟨[(6, rb y141)], [], [], 106⟩))
/-- (quilt/graph.kind).may -/
def graph_kind_may_q {β : Type} (k_ : Int) (k_' : Bool) (k_'' : Bool) (k_''' : Bool) (k_'''' : Bool) (k_''''' : Bool) (k_'''''' : (Unit ⊕ (Unit ⊕ (Unit ⊕ (Unit ⊕ (Unit ⊕ (Unit ⊕ (Unit ⊕ (Unit ⊕ Unit))))))))) (k_''''''' : (Unit ⊕ (Unit ⊕ (Unit ⊕ (Unit ⊕ (Unit ⊕ Unit)))))) (n_ : Node) (in_ : (List I4)) (K : Bool → β) : β := (bif k_'''' then (K (graph_kind_may_r12_p k_ k_' k_'' k_''' n_ in_)) else (K (graph_kind_may_r13_p k_ k_' k_'' k_''' n_ in_)))
def graph_kind_may : Bool := graph_kind_may_q k_ k_' k_'' k_''' k_'''' k_''''' k_'''''' k_''''''' n_ in_ (fun y => y)
theorem graph_kind_may_n (K : Bool → β) : graph_kind_may_q k_ k_' k_'' k_''' k_'''' k_''''' k_'''''' k_''''''' n_ in_ K = K (graph_kind_may k_ k_' k_'' k_''' k_'''' k_''''' k_'''''' k_''''''' n_ in_) := (bif_k K rfl rfl)
theorem graph_kind_may_is : stepS E cp9 noE 34 [.agg [di k_, db k_', db k_'', db k_''', db k_'''', db k_''''', Ps.enc (.alt (.fn 49 .nil) (.alt (.fn 51 .nil) (.alt (.fn 54 .nil) (.alt (.fn 56 .nil) (.alt (.fn 59 .nil) (.alt (.fn 60 .nil) (.alt (.fn 61 .nil) (.alt (.fn 62 .nil) .nilFn)))))))) k_'''''', Ps.enc (.alt (.fn 50 .nil) (.alt (.fn 53 .nil) (.alt (.fn 55 .nil) (.alt (.fn 57 .nil) (.alt (.fn 63 .nil) .nilFn))))) k_'''''''], rA tsNode n_, rl tsI4 in_] = (fun y : Bool => some (rb y : R)) (graph_kind_may k_ k_' k_'' k_''' k_'''' k_''''' k_'''''' k_''''''' n_ in_) := by
  refine Eq.trans ?_ (graph_kind_may_n k_ k_' k_'' k_''' k_'''' k_''''' k_'''''' k_''''''' n_ in_ (fun y : Bool => some (rb y : R)))
  refine (stepG_is (nt := 106) (regs := [(0, .agg [di k_, db k_', db k_'', db k_''', db k_'''', db k_''''', Ps.enc (.alt (.fn 49 .nil) (.alt (.fn 51 .nil) (.alt (.fn 54 .nil) (.alt (.fn 56 .nil) (.alt (.fn 59 .nil) (.alt (.fn 60 .nil) (.alt (.fn 61 .nil) (.alt (.fn 62 .nil) .nilFn)))))))) k_'''''', Ps.enc (.alt (.fn 50 .nil) (.alt (.fn 53 .nil) (.alt (.fn 55 .nil) (.alt (.fn 57 .nil) (.alt (.fn 63 .nil) .nilFn))))) k_''''''']), (1, rA tsNode n_), (2, rl tsI4 in_)]) (by (rcases k_'''''' with (_ | _ | _ | _ | _ | _ | _ | _ | _) <;> rcases k_''''''' with (_ | _ | _ | _ | _ | _) <;> kernel_rfl)) (by (rcases k_'''''' with (_ | _ | _ | _ | _ | _ | _ | _ | _) <;> rcases k_''''''' with (_ | _ | _ | _ | _ | _) <;> kernel_rfl))).trans ?_
  unfold graph_kind_may_q
  refine (pre2 (graph_kind_may_r1 k_ k_' k_'' k_''' k_'''' k_''''' k_'''''' k_''''''' n_ in_ _)).trans ?_
  refine (pre1 (graph_kind_may_r2 k_ k_' k_'' k_''' k_'''' k_''''' k_'''''' k_''''''' n_ in_ _)).trans ?_
  refine .trans seq_push ?_
  refine (graph_kind_may_j3 k_ k_' k_'' k_''' k_'''' k_''''' k_'''''' k_''''''' n_ in_ _).trans ?_
  refine .trans seq_push ?_
  refine (graph_kind_may_j7 k_ k_' k_'' k_''' k_'''' k_''''' k_'''''' k_''''''' n_ in_ _).trans ?_
  refine .trans seq_push ?_
  refine (pre1 (graph_kind_may_f1000012 k_ k_' k_'' k_''' k_'''' k_''''' k_'''''' k_''''''' n_ in_ _)).trans ?_
  refine (cond_e (b := k_'''') (st' := (S9_9 k_ k_' k_'' k_''' n_ in_)) (hs := by (rcases k_'''''' with (_ | _ | _ | _ | _ | _ | _ | _ | _) <;> rcases k_''''''' with (_ | _ | _ | _ | _ | _) <;> kernel_rfl))).trans (bif_g ?_ ?_)
  · refine (pre1 (graph_kind_may_r12 k_ k_' k_'' k_''' n_ in_ _)).trans ?_
    refine (ret_eq).trans ?_
    refine seqC_ret.trans ?_
    (rcases k_'''''' with (_ | _ | _ | _ | _ | _ | _ | _ | _) <;> rcases k_''''''' with (_ | _ | _ | _ | _ | _) <;> kernel_rfl)
  · refine (skip_eq).trans ?_
    refine (seqC_normal (st' := (S9_9 k_ k_' k_'' k_''' n_ in_)) (hs := by (rcases k_'''''' with (_ | _ | _ | _ | _ | _ | _ | _ | _) <;> rcases k_''''''' with (_ | _ | _ | _ | _ | _) <;> kernel_rfl))).trans ?_
    refine (pre1 (graph_kind_may_r13 k_ k_' k_'' k_''' n_ in_ _)).trans ?_
    refine (ret_eq).trans ?_
    (rcases k_'''''' with (_ | _ | _ | _ | _ | _ | _ | _ | _) <;> rcases k_''''''' with (_ | _ | _ | _ | _ | _) <;> kernel_rfl)
noncomputable def cp10 : CallP := withC cp9 34 [(.aggs (.cons (.g (.int .i64)) (.cons (.g .bool) (.cons (.g .bool) (.cons (.g .bool) (.cons (.g .bool) (.cons (.g .bool) (.cons (.alt (.fn 49 .nil) (.alt (.fn 51 .nil) (.alt (.fn 54 .nil) (.alt (.fn 56 .nil) (.alt (.fn 59 .nil) (.alt (.fn 60 .nil) (.alt (.fn 61 .nil) (.alt (.fn 62 .nil) .nilFn)))))))) (.cons (.alt (.fn 50 .nil) (.alt (.fn 53 .nil) (.alt (.fn 55 .nil) (.alt (.fn 57 .nil) (.alt (.fn 63 .nil) .nilFn))))) .nil))))))))), (.agg tsNode), (pL tsI4)] (.one pB) (fun y : Bool => y) (fun x => some (graph_kind_may x.1.1 x.1.2.1 x.1.2.2.1 x.1.2.2.2.1 x.1.2.2.2.2.1 x.1.2.2.2.2.2.1 x.1.2.2.2.2.2.2.1 x.1.2.2.2.2.2.2.2.1 x.2.1 x.2.2.1))
theorem cp10_ok : PureOK E cp10 := conS eok cp9_ok noE_ok fun x => Eq.mp (by kernel_rfl) (graph_kind_may_is x.1.1 x.1.2.1 x.1.2.2.1 x.1.2.2.2.1 x.1.2.2.2.2.1 x.1.2.2.2.2.2.1 x.1.2.2.2.2.2.2.1 x.1.2.2.2.2.2.2.2.1 x.2.1 x.2.2.1)
end
section
variable {α β : Type} (v_ : I4) (c1_ : Node) (k : St → Option α)
noncomputable abbrev C10 := codeOf E.P 36
noncomputable abbrev P10 := @preK α E 36 cp10 noE
theorem graph_Value_1_fz : P10 2 C10 ⟨[(0, rA tsI4 v_), (1, rC tsNode c1_)], [], [], 9⟩ k = k ⟨[(3, rb (v_.2.2.2 != c1_.2.2.2.2.2.2.2.2.1))], [], [], 9⟩ := by kernel_rfl
/-- quilt/graph.Value$1 -/
def graph_Value_1_q (K : Bool → β) : β := (K (v_.2.2.2 != c1_.2.2.2.2.2.2.2.2.1))
def graph_Value_1 : Bool := graph_Value_1_q v_ c1_ (fun y => y)
theorem graph_Value_1_n (K : Bool → β) : graph_Value_1_q v_ c1_ K = K (graph_Value_1 v_ c1_) := rfl
theorem graph_Value_1_is : stepS E cp10 noE 36 [rA tsI4 v_, rC tsNode c1_] = (fun y : Bool => some (rb y : R)) (graph_Value_1 v_ c1_) := by
  refine Eq.trans ?_ (graph_Value_1_n v_ c1_ (fun y : Bool => some (rb y : R)))
  refine (stepG_is (nt := 9) (regs := [(0, rA tsI4 v_), (1, rC tsNode c1_)])).trans ?_
  unfold graph_Value_1_q
  refine (pre2 (graph_Value_1_fz v_ c1_ _)).trans ?_
  refine (ret_eq).trans ?_
  kernel_rfl
noncomputable def cp11 : CallP := withC cp10 36 [(.agg tsI4), (.one (.cell (.cons (.g (.int .i64)) (.cons (.g (.sl (.one (.int .i64)))) (.cons (.g (.int .i64)) (.cons (.g (.int .i64)) (.cons (.g (.int .i64)) (.cons (.g (.int .i64)) (.cons (.g (.int .i64)) (.cons (.g (.int .i64)) (.cons (.g (.int .i64)) (.cons (.g (.int .i64)) (.cons (.g (.int .i64)) (.cons (.g (.int .i64)) (.cons (.g (.sl (.one (.int .i8)))) (.cons (.g (.sl (.one (.int .i32)))) .nil))))))))))))))))] (.one pB) (fun y : Bool => y) (fun x => some (graph_Value_1 x.1 (x.2.1.1, x.2.1.2.1, x.2.1.2.2.1, x.2.1.2.2.2.1, x.2.1.2.2.2.2.1, x.2.1.2.2.2.2.2.1, x.2.1.2.2.2.2.2.2.1, x.2.1.2.2.2.2.2.2.2.1, x.2.1.2.2.2.2.2.2.2.2.1, x.2.1.2.2.2.2.2.2.2.2.2.1, x.2.1.2.2.2.2.2.2.2.2.2.2.1, x.2.1.2.2.2.2.2.2.2.2.2.2.2.1, x.2.1.2.2.2.2.2.2.2.2.2.2.2.2.1, x.2.1.2.2.2.2.2.2.2.2.2.2.2.2.2.1)))
theorem cp11_ok : PureOK E cp11 := conS eok cp10_ok noE_ok fun x => Eq.mp (by kernel_rfl) (graph_Value_1_is x.1 (x.2.1.1, x.2.1.2.1, x.2.1.2.2.1, x.2.1.2.2.2.1, x.2.1.2.2.2.2.1, x.2.1.2.2.2.2.2.1, x.2.1.2.2.2.2.2.2.1, x.2.1.2.2.2.2.2.2.2.1, x.2.1.2.2.2.2.2.2.2.2.1, x.2.1.2.2.2.2.2.2.2.2.2.1, x.2.1.2.2.2.2.2.2.2.2.2.2.1, x.2.1.2.2.2.2.2.2.2.2.2.2.2.1, x.2.1.2.2.2.2.2.2.2.2.2.2.2.2.1, x.2.1.2.2.2.2.2.2.2.2.2.2.2.2.2.1))
end
end Go.V.P
