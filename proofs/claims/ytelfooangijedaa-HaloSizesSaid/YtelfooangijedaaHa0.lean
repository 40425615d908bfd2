/- What functions compute. -/
import Derived.Test.YtelfooangijedaaHaEnv
namespace Go.V.P
open Go.RowKit Go.V Go.Proofs
set_option linter.unusedVariables false
set_option maxRecDepth 100000
noncomputable abbrev C0 : Code := codeOf E.P 15
noncomputable abbrev P0 {α : Type} (n : Nat) (c : Code) (st : St) (k : St → Option α) : Option α := preK E 15 cpA noE n c st k
noncomputable abbrev R0 {α : Type} (c : Code) (st : St) (k : Kont α) : Option α := runCode E 15 cpA noE c st k
noncomputable abbrev Q0 {α : Type} (c : Code) (k : Kont α) : Kont α := seqC E 15 cpA noE c k
theorem halo_Tiles_f1 {α : Type} (h_ : Int) (rows : Int) (k : St → Option α) : P0 1 C0 ⟨[(0, ri h_), (1, ri rows)], [], [], 34⟩ k = k ⟨[(0, ri h_), (1, ri rows)], [], [], 34⟩ := by kernel_rfl
def halo_Tiles_r1_q {β : Type} (h_ : Int) (rows : Int) (K : Bool → β) : β := (bif (decide ((min h_ rows) < (1 : Int))) then (K true) else (K (decide ((max h_ rows) > (16 : Int)))))
def halo_Tiles_r1_p (h_ : Int) (rows : Int) : Bool := halo_Tiles_r1_q h_ rows (fun y => y)
theorem halo_Tiles_r1_n {β : Type} (h_ : Int) (rows : Int) (K : Bool → β) : halo_Tiles_r1_q h_ rows K = K (halo_Tiles_r1_p h_ rows) := (bif_k K rfl rfl)
theorem halo_Tiles_r1 {α : Type} (h_ : Int) (rows : Int) (k : St → Option α) : P0 1 C0.r.l ⟨[(0, ri h_), (1, ri rows)], [], [], 34⟩ k = k ⟨[(0, ri h_), (1, ri rows), (16, rb (halo_Tiles_r1_p h_ rows))], [], [], 34⟩ := Eq.trans (by kernel_rfl) (halo_Tiles_r1_n h_ rows (fun y2 : Bool => k ⟨[(0, ri h_), (1, ri rows), (16, rb y2)], [], [], 34⟩))
theorem halo_Tiles_fz {α : Type} (h_ : Int) (rows : Int) (k : St → Option α) : P0 1 C0.r.l.r.t ⟨[(0, ri h_), (1, ri rows)], [], [], 34⟩ k = k ⟨[(4, .one (.ow tsI2 [] (.v 4)))], [], [], 34⟩ := by kernel_rfl
theorem halo_Tiles_f4 {α : Type} (h_ : Int) (rows : Int) (k : St → Option α) : P0 1 C0.r.r ⟨[(0, ri h_), (1, ri rows)], [], [], 34⟩ k = k ⟨[(0, ri h_), (1, ri rows), (5, .one (.ow tsI2 [] (.v 5)))], [], [], 34⟩ := by kernel_rfl
theorem halo_Tiles_f5 {α : Type} (h_ : Int) (rows : Int) (k : St → Option α) : P0 1 C0.r.r.r.l ⟨[(0, ri h_), (1, ri rows), (5, .one (.ow tsI2 [] (.v 5)))], [], [], 34⟩ k = k ⟨[(0, ri h_), (1, ri rows), (5, .one (.ow tsI2 [] (.v 5))), (6, ri (0 : Int))], [], [], 34⟩ := by kernel_rfl
theorem halo_Tiles_fzx1 {α : Type} (h_ : Int) (rows : Int) (s9 : ((List I2) × Int)) (k : St → Option α) : P0 1 (bodyOf (bodyOf C0.r.r.r.l.r)).l ⟨[(0, ri h_), (1, ri rows), (5, .one (.ow tsI2 s9.1 (.v 5))), (6, ri s9.2)], [], [], 34⟩ k = k ⟨[(0, ri h_), (1, ri rows), (5, .one (.ow tsI2 s9.1 (.v 5))), (6, ri s9.2), (19, rb (decide (s9.2 < h_)))], [], [], 34⟩ := by kernel_rfl
def halo_Tiles_r7_q {β : Type} (h_ : Int) (rows : Int) (s9 : ((List I2) × Int)) (K : Unit → Option β) : Option β := (bif (decide (s9.1.length + ([(s9.2, (min rows (IntKind.wrap .i64 (h_ - s9.2))))] : List I2).length ≤ maxL)) then (K ()) else none)
def halo_Tiles_r7_p (h_ : Int) (rows : Int) (s9 : ((List I2) × Int)) : Option (Unit) := halo_Tiles_r7_q h_ rows s9 some
theorem halo_Tiles_r7_n {β : Type} (h_ : Int) (rows : Int) (s9 : ((List I2) × Int)) (K : Unit → Option β) : halo_Tiles_r7_q h_ rows s9 K = (halo_Tiles_r7_p h_ rows s9).bind K := (bif_b some_b none_b)
theorem halo_Tiles_r7 {α : Type} (h_ : Int) (rows : Int) (s9 : ((List I2) × Int)) (k : Kont α) : R0 (bodyOf (bodyOf (bodyOf C0.r.r.r.l.r)).r.l) ⟨[(0, ri h_), (1, ri rows), (5, .one (.ow tsI2 s9.1 (.v 5))), (6, ri s9.2)], [], [], 34⟩ k = Option.bind (halo_Tiles_r7_p h_ rows s9) (fun y11 : Unit => k .normal ⟨[(0, ri h_), (1, ri rows), (5, .one (.ow tsI2 (s9.1 ++ [(s9.2, (min rows (IntKind.wrap .i64 (h_ - s9.2))))]) (.v 5))), (6, ri s9.2)], [], [], 34⟩) := Eq.trans (by kernel_rfl) (halo_Tiles_r7_n h_ rows s9 _)
theorem halo_Tiles_r6 {α : Type} (h_ : Int) (rows : Int) (s9 : ((List I2) × Int)) (k : Kont α) : R0 (bodyOf (bodyOf C0.r.r.r.l.r)).r.r ⟨[(0, ri h_), (1, ri rows), (5, .one (.ow tsI2 (s9.1 ++ [(s9.2, (min rows (IntKind.wrap .i64 (h_ - s9.2))))]) (.v 5))), (6, ri s9.2)], [], [], 34⟩ k = k .normal ⟨[(0, ri h_), (1, ri rows), (5, .one (.ow tsI2 (s9.1 ++ [(s9.2, (min rows (IntKind.wrap .i64 (h_ - s9.2))))]) (.v 5))), (6, ri (IntKind.wrap .i64 (s9.2 + rows)))], [], [], 34⟩ := by kernel_rfl
def halo_Tiles_l5_q {β : Type} (h_ : Int) (rows : Int) (s9 : ((List I2) × Int)) (K0 : ((List I2) × Int) → Option β) (K1 : ((List I2) × Int) → Option β) : Option β := (bif (decide (s9.2 < h_)) then (Option.bind (halo_Tiles_r7_p h_ rows s9) (fun y11 : Unit => (K0 ((s9.1 ++ [(s9.2, (min rows (IntKind.wrap .i64 (h_ - s9.2))))]), (IntKind.wrap .i64 (s9.2 + rows)))))) else (K1 s9))
def halo_Tiles_l5_p (h_ : Int) (rows : Int) (s9 : ((List I2) × Int)) : Option (((List I2) × Int) ⊕ (((List I2) × Int))) := halo_Tiles_l5_q h_ rows s9 (fun y => some (Sum.inl y)) (fun y => some (Sum.inr y))
theorem halo_Tiles_l5_n {β : Type} (h_ : Int) (rows : Int) (s9 : ((List I2) × Int)) (K0 : ((List I2) × Int) → Option β) (K1 : ((List I2) × Int) → Option β) : halo_Tiles_l5_q h_ rows s9 K0 K1 = (halo_Tiles_l5_p h_ rows s9).bind (either K0 K1) := (bif_b (bind_b fun y11 => e2_0) e2_1)
theorem halo_Tiles_l5_b {α : Type} (h_ : Int) (rows : Int) (s9 : ((List I2) × Int)) (k : Kont α) : R0 (bodyOf (bodyOf C0.r.r.r.l.r)) ⟨[(0, ri h_), (1, ri rows), (5, .one (.ow tsI2 s9.1 (.v 5))), (6, ri s9.2)], [], [], 34⟩ (loopKont 0 k) = Option.bind (halo_Tiles_l5_p h_ rows s9) (either (fun y : ((List I2) × Int) => k .normal ⟨[(0, ri h_), (1, ri rows), (5, .one (.ow tsI2 y.1 (.v 5))), (6, ri y.2)], [], [], 34⟩) (fun y12 : ((List I2) × Int) => k (.exit 0) ⟨[(0, ri h_), (1, ri rows), (5, .one (.ow tsI2 y12.1 (.v 5))), (6, ri y12.2)], [], [], 34⟩)) := by
  refine Eq.trans ?_ (halo_Tiles_l5_n h_ rows s9 _ _)
  unfold halo_Tiles_l5_q
  refine (seq_push (by kernel_rfl)).trans ?_
  refine (pre (n := 1) (c' := (bodyOf (bodyOf C0.r.r.r.l.r)).l.r) (by kernel_rfl) (by kernel_rfl) (halo_Tiles_fzx1 h_ rows s9 _)).trans ?_
  refine (cond_eq (b := (decide (s9.2 < h_))) (st' := ⟨[(0, ri h_), (1, ri rows), (5, .one (.ow tsI2 s9.1 (.v 5))), (6, ri s9.2)], [], [], 34⟩) (by kernel_rfl) (by kernel_rfl) (by kernel_rfl)).trans (bif_g ?_ ?_)
  · refine (skip_eq (by kernel_rfl)).trans ?_
    refine (seqC_normal (st' := ⟨[(0, ri h_), (1, ri rows), (5, .one (.ow tsI2 s9.1 (.v 5))), (6, ri s9.2)], [], [], 34⟩) (by kernel_rfl)).trans ?_
    refine (seq_push (by kernel_rfl)).trans ?_
    refine (block_push (id := 1) (by kernel_rfl)).trans ?_
    refine (halo_Tiles_r7 h_ rows s9 _).trans (bind_g fun y11 => ?_)
    refine block_normal.trans ?_
    refine (seqC_normal (st' := ⟨[(0, ri h_), (1, ri rows), (5, .one (.ow tsI2 (s9.1 ++ [(s9.2, (min rows (IntKind.wrap .i64 (h_ - s9.2))))]) (.v 5))), (6, ri s9.2)], [], [], 34⟩) (by kernel_rfl)).trans ?_
    refine (halo_Tiles_r6 h_ rows s9 _).trans ?_
    kernel_rfl
  · refine (exit_eq (j := 0) (by kernel_rfl)).trans ?_
    refine seqC_exit.trans ?_
    kernel_rfl
theorem halo_Tiles_l5 {α : Type} (h_ : Int) (rows : Int) (k : Kont α) : R0 (bodyOf C0.r.r.r.l.r) ⟨[(0, ri h_), (1, ri rows), (5, .one (.ow tsI2 [] (.v 5))), (6, ri (0 : Int))], [], [], 34⟩ k = Option.bind (iterN (halo_Tiles_l5_p h_ rows) LL ([], (0 : Int))) (fun y12 : ((List I2) × Int) => k (.exit 0) ⟨[(0, ri h_), (1, ri rows), (5, .one (.ow tsI2 y12.1 (.v 5))), (6, ri y12.2)], [], [], 34⟩) :=
  Eq.trans (by kernel_rfl) (loop_iter1 (S := fun s9 : ((List I2) × Int) => ⟨[(0, ri h_), (1, ri rows), (5, .one (.ow tsI2 s9.1 (.v 5))), (6, ri s9.2)], [], [], 34⟩) (Y1 := fun y12 : ((List I2) × Int) => ((.exit 0), ⟨[(0, ri h_), (1, ri rows), (5, .one (.ow tsI2 y12.1 (.v 5))), (6, ri y12.2)], [], [], 34⟩)) (fun s k => halo_Tiles_l5_b h_ rows s k) (fun z => rfl) LL ([], (0 : Int)))
theorem halo_Tiles_fzx2 {α : Type} (y12 : ((List I2) × Int)) (k : St → Option α) : P0 1 C0.r.r.r.r ⟨[(5, .one (.ow tsI2 y12.1 (.v 5)))], [], [], 34⟩ k = k ⟨[(4, .one (.ow tsI2 y12.1 (.v 5)))], [], [], 34⟩ := by kernel_rfl
/-- quilt/halo.Tiles -/
def halo_Tiles_q {β : Type} (h_ : Int) (rows : Int) (K : (List I2) → Option β) : Option β := (bif (halo_Tiles_r1_p h_ rows) then (K []) else (Option.bind (iterN (halo_Tiles_l5_p h_ rows) LL ([], (0 : Int))) (fun y12 : ((List I2) × Int) => (K y12.1))))
def halo_Tiles (h_ : Int) (rows : Int) : Option (List I2) := halo_Tiles_q h_ rows some
theorem halo_Tiles_n {β : Type} (h_ : Int) (rows : Int) (K : (List I2) → Option β) : halo_Tiles_q h_ rows K = (halo_Tiles h_ rows).bind K := (bif_b some_b (bind_b fun y12 => some_b))
theorem halo_Tiles_is (h_ : Int) (rows : Int) : stepO E cpA noE 15 [ri h_, ri rows] = Option.bind (halo_Tiles h_ rows) (fun y : (List I2) => some (.one (.ow tsI2 y (.s 0)) : R)) := by
  refine Eq.trans ?_ (halo_Tiles_n h_ rows (fun y : (List I2) => some (.one (.ow tsI2 y (.s 0)) : R)))
  refine (stepG_is (nt := 34) (regs := [(0, ri h_), (1, ri rows)]) (by kernel_rfl) (by kernel_rfl)).trans ?_
  unfold halo_Tiles_q
  refine (pre (n := 1) (c' := C0.r) (by kernel_rfl) (by kernel_rfl) (halo_Tiles_f1 h_ rows _)).trans ?_
  refine (seq_push (by kernel_rfl)).trans ?_
  refine (pre (n := 1) (c' := C0.r.l.r) (by kernel_rfl) (by kernel_rfl) (halo_Tiles_r1 h_ rows _)).trans ?_
  refine (cond_eq (b := (halo_Tiles_r1_p h_ rows)) (st' := ⟨[(0, ri h_), (1, ri rows)], [], [], 34⟩) (by kernel_rfl) (by kernel_rfl) (by kernel_rfl)).trans (bif_g ?_ ?_)
  · refine (pre (n := 1) (c' := C0.r.l.r.t.r) (by kernel_rfl) (by kernel_rfl) (halo_Tiles_fz h_ rows _)).trans ?_
    refine (ret_eq (by kernel_rfl)).trans ?_
    refine seqC_ret.trans ?_
    kernel_rfl
  · refine (skip_eq (by kernel_rfl)).trans ?_
    refine (seqC_normal (st' := ⟨[(0, ri h_), (1, ri rows)], [], [], 34⟩) (by kernel_rfl)).trans ?_
    refine (pre (n := 1) (c' := C0.r.r.r) (by kernel_rfl) (by kernel_rfl) (halo_Tiles_f4 h_ rows _)).trans ?_
    refine (seq_push (by kernel_rfl)).trans ?_
    refine (pre (n := 1) (c' := C0.r.r.r.l.r) (by kernel_rfl) (by kernel_rfl) (halo_Tiles_f5 h_ rows _)).trans ?_
    refine (block_push (id := 0) (by kernel_rfl)).trans ?_
    refine (halo_Tiles_l5 h_ rows _).trans (bind_g fun y12 => ?_)
    refine block_same.trans ?_
    refine (seqC_normal (st' := ⟨[(5, .one (.ow tsI2 y12.1 (.v 5)))], [], [], 34⟩) (by kernel_rfl)).trans ?_
    refine (pre (n := 1) (c' := C0.r.r.r.r.r) (by kernel_rfl) (by kernel_rfl) (halo_Tiles_fzx2 y12 _)).trans ?_
    refine (ret_eq (by kernel_rfl)).trans ?_
    kernel_rfl
theorem halo_Tiles_c (x : denL [(.one (.g (.int .i64))), (.one (.g (.int .i64)))]) : stepO E cpA noE 15 (encL [(.one (.g (.int .i64))), (.one (.g (.int .i64)))] x) = ((fun x => halo_Tiles x.1 x.2.1) x).bind fun y => some (Po.enc (.one (.one (.ow tsI2))) ((fun y : (List I2) => y) y)) := Eq.mp (by kernel_rfl) (halo_Tiles_is x.1 x.2.1)
noncomputable def cp1 : CallP := withC cpA 15 [(.one (.g (.int .i64))), (.one (.g (.int .i64)))] (.one (.one (.ow tsI2))) (fun y : (List I2) => y) (fun x => halo_Tiles x.1 x.2.1)
theorem cp1_ok : PureOK E cp1 := withC_ok cpA_ok (stepO_ok eok cpA_ok noE_ok) fun x => con_of (enc := fun y => Po.enc (.one (.one (.ow tsI2))) ((fun y : (List I2) => y) y)) (halo_Tiles_c x)
noncomputable abbrev C1 : Code := codeOf E.P 46
noncomputable abbrev P1 {α : Type} (n : Nat) (c : Code) (st : St) (k : St → Option α) : Option α := preK E 46 cp1 noE n c st k
noncomputable abbrev R1 {α : Type} (c : Code) (st : St) (k : Kont α) : Option α := runCode E 46 cp1 noE c st k
noncomputable abbrev Q1 {α : Type} (c : Code) (k : Kont α) : Kont α := seqC E 46 cp1 noE c k
theorem slices_Indexint_int_f1 {α : Type} (s_ : (List Int)) (v_ : Int) (k : St → Option α) : P1 1 C1 ⟨[(0, rl (.one (.int .i64)) s_), (1, ri v_)], [], [], 19⟩ k = k ⟨[(0, rl (.one (.int .i64)) s_), (1, ri v_)], [], [], 19⟩ := by kernel_rfl
theorem slices_Indexint_int_f2 {α : Type} (s_ : (List Int)) (v_ : Int) (k : St → Option α) : P1 1 C1.r.l ⟨[(0, rl (.one (.int .i64)) s_), (1, ri v_)], [], [], 19⟩ k = k ⟨[(0, rl (.one (.int .i64)) s_), (1, ri v_), (7, ri (s_.length : Int)), (8, ri (0 : Int))], [], [], 19⟩ := by kernel_rfl
theorem slices_Indexint_int_fz {α : Type} (s_ : (List Int)) (v_ : Int) (s25 : Int) (k : St → Option α) : P1 1 (bodyOf (bodyOf C1.r.l.r)) ⟨[(0, rl (.one (.int .i64)) s_), (1, ri v_), (7, ri (s_.length : Int)), (8, ri s25)], [], [], 19⟩ k = k ⟨[(0, rl (.one (.int .i64)) s_), (1, ri v_), (7, ri (s_.length : Int)), (8, ri s25), (9, rb (decide (s25 < (s_.length : Int))))], [], [], 19⟩ := by kernel_rfl
def slices_Indexint_int_r4_q {β : Type} (s_ : (List Int)) (s25 : Int) (K : Unit → Option β) : Option β := (bif (decide ((0 : Int) ≤ s25)) then (bif (decide (s25 < (s_.length : Int))) then (K ()) else none) else none)
def slices_Indexint_int_r4_p (s_ : (List Int)) (s25 : Int) : Option (Unit) := slices_Indexint_int_r4_q s_ s25 some
theorem slices_Indexint_int_r4_n {β : Type} (s_ : (List Int)) (s25 : Int) (K : Unit → Option β) : slices_Indexint_int_r4_q s_ s25 K = (slices_Indexint_int_r4_p s_ s25).bind K := (bif_b (bif_b some_b none_b) none_b)
theorem slices_Indexint_int_r4 {α : Type} (s_ : (List Int)) (v_ : Int) (s25 : Int) (k : St → Option α) : P1 2 (bodyOf (bodyOf (bodyOf C1.r.l.r)).r.r.l) ⟨[(0, rl (.one (.int .i64)) s_), (1, ri v_), (7, ri (s_.length : Int)), (8, ri s25)], [], [], 19⟩ k = Option.bind (slices_Indexint_int_r4_p s_ s25) (fun y27 : Unit => k ⟨[(0, rl (.one (.int .i64)) s_), (1, ri v_), (5, ri s25), (7, ri (s_.length : Int)), (8, ri s25), (16, rb (v_ == (gt s_ s25 (0 : Int))))], [], [], 19⟩) := Eq.trans (by kernel_rfl) (slices_Indexint_int_r4_n s_ s25 _)
theorem slices_Indexint_int_fzx1 {α : Type} (s_ : (List Int)) (v_ : Int) (s25 : Int) (k : St → Option α) : P1 1 (bodyOf (bodyOf (bodyOf C1.r.l.r)).r.r.l).r.r.t ⟨[(0, rl (.one (.int .i64)) s_), (1, ri v_), (5, ri s25), (7, ri (s_.length : Int)), (8, ri s25)], [], [], 19⟩ k = k ⟨[(4, ri s25)], [], [], 19⟩ := by kernel_rfl
theorem slices_Indexint_int_r6 {α : Type} (s_ : (List Int)) (v_ : Int) (s25 : Int) (k : Kont α) : R1 (bodyOf (bodyOf C1.r.l.r)).r.r.r ⟨[(0, rl (.one (.int .i64)) s_), (1, ri v_), (7, ri (s_.length : Int)), (8, ri s25)], [], [], 19⟩ k = k .normal ⟨[(0, rl (.one (.int .i64)) s_), (1, ri v_), (7, ri (s_.length : Int)), (8, ri (IntKind.wrap .i64 (s25 + (1 : Int))))], [], [], 19⟩ := by kernel_rfl
def slices_Indexint_int_l2_q {β : Type} (s_ : (List Int)) (v_ : Int) (s25 : Int) (K0 : Int → Option β) (K1 : Int → Option β) (K2 : Int → Option β) : Option β := (bif (decide (s25 < (s_.length : Int))) then (Option.bind (slices_Indexint_int_r4_p s_ s25) (fun y27 : Unit => (bif (v_ == (gt s_ s25 (0 : Int))) then (K2 s25) else (K0 (IntKind.wrap .i64 (s25 + (1 : Int))))))) else (K1 s25))
def slices_Indexint_int_l2_p (s_ : (List Int)) (v_ : Int) (s25 : Int) : Option (Int ⊕ (Int ⊕ Int)) := slices_Indexint_int_l2_q s_ v_ s25 (fun y => some (Sum.inl y)) (fun y => some (Sum.inr (Sum.inl y))) (fun y => some (Sum.inr (Sum.inr y)))
theorem slices_Indexint_int_l2_n {β : Type} (s_ : (List Int)) (v_ : Int) (s25 : Int) (K0 : Int → Option β) (K1 : Int → Option β) (K2 : Int → Option β) : slices_Indexint_int_l2_q s_ v_ s25 K0 K1 K2 = (slices_Indexint_int_l2_p s_ v_ s25).bind (either K0 (either K1 K2)) := (bif_b (bind_b fun y27 => (bif_b e3_2 e3_0)) e3_1)
theorem slices_Indexint_int_l2_b {α : Type} (s_ : (List Int)) (v_ : Int) (s25 : Int) (k : Kont α) : R1 (bodyOf (bodyOf C1.r.l.r)) ⟨[(0, rl (.one (.int .i64)) s_), (1, ri v_), (7, ri (s_.length : Int)), (8, ri s25)], [], [], 19⟩ (loopKont 0 k) = Option.bind (slices_Indexint_int_l2_p s_ v_ s25) (either (fun y : Int => k .normal ⟨[(0, rl (.one (.int .i64)) s_), (1, ri v_), (7, ri (s_.length : Int)), (8, ri y)], [], [], 19⟩) (either (fun y28 : Int => k (.exit 0) ⟨[(0, rl (.one (.int .i64)) s_), (1, ri v_), (7, ri (s_.length : Int)), (8, ri y28)], [], [], 19⟩) (fun y29 : Int => k .ret ⟨[(4, ri y29)], [], [], 19⟩))) := by
  refine Eq.trans ?_ (slices_Indexint_int_l2_n s_ v_ s25 _ _ _)
  unfold slices_Indexint_int_l2_q
  refine (pre (n := 1) (c' := (bodyOf (bodyOf C1.r.l.r)).r) (by kernel_rfl) (by kernel_rfl) (slices_Indexint_int_fz s_ v_ s25 _)).trans ?_
  refine (seq_push (by kernel_rfl)).trans ?_
  refine (cond_eq (b := (decide (s25 < (s_.length : Int)))) (st' := ⟨[(0, rl (.one (.int .i64)) s_), (1, ri v_), (7, ri (s_.length : Int)), (8, ri s25)], [], [], 19⟩) (by kernel_rfl) (by kernel_rfl) (by kernel_rfl)).trans (bif_g ?_ ?_)
  · refine (skip_eq (by kernel_rfl)).trans ?_
    refine (seqC_normal (st' := ⟨[(0, rl (.one (.int .i64)) s_), (1, ri v_), (7, ri (s_.length : Int)), (8, ri s25)], [], [], 19⟩) (by kernel_rfl)).trans ?_
    refine (seq_push (by kernel_rfl)).trans ?_
    refine (block_push (id := 1) (by kernel_rfl)).trans ?_
    refine (pre (n := 2) (c' := (bodyOf (bodyOf (bodyOf C1.r.l.r)).r.r.l).r.r) (by kernel_rfl) (by kernel_rfl) (slices_Indexint_int_r4 s_ v_ s25 _)).trans (bind_g fun y27 => ?_)
    refine (cond_eq (b := (v_ == (gt s_ s25 (0 : Int)))) (st' := ⟨[(0, rl (.one (.int .i64)) s_), (1, ri v_), (5, ri s25), (7, ri (s_.length : Int)), (8, ri s25)], [], [], 19⟩) (by kernel_rfl) (by kernel_rfl) (by kernel_rfl)).trans (bif_g ?_ ?_)
    · refine (pre (n := 1) (c' := (bodyOf (bodyOf (bodyOf C1.r.l.r)).r.r.l).r.r.t.r) (by kernel_rfl) (by kernel_rfl) (slices_Indexint_int_fzx1 s_ v_ s25 _)).trans ?_
      refine (ret_eq (by kernel_rfl)).trans ?_
      refine block_ret.trans ?_
      refine seqC_ret.trans ?_
      kernel_rfl
    · refine (skip_eq (by kernel_rfl)).trans ?_
      refine block_normal.trans ?_
      refine (seqC_normal (st' := ⟨[(0, rl (.one (.int .i64)) s_), (1, ri v_), (7, ri (s_.length : Int)), (8, ri s25)], [], [], 19⟩) (by kernel_rfl)).trans ?_
      refine (slices_Indexint_int_r6 s_ v_ s25 _).trans ?_
      kernel_rfl
  · refine (exit_eq (j := 0) (by kernel_rfl)).trans ?_
    refine seqC_exit.trans ?_
    kernel_rfl
theorem slices_Indexint_int_l2 {α : Type} (s_ : (List Int)) (v_ : Int) (k : Kont α) : R1 (bodyOf C1.r.l.r) ⟨[(0, rl (.one (.int .i64)) s_), (1, ri v_), (7, ri (s_.length : Int)), (8, ri (0 : Int))], [], [], 19⟩ k = Option.bind (iterN (slices_Indexint_int_l2_p s_ v_) LL (0 : Int)) (either (fun y28 : Int => k (.exit 0) ⟨[(0, rl (.one (.int .i64)) s_), (1, ri v_), (7, ri (s_.length : Int)), (8, ri y28)], [], [], 19⟩) (fun y29 : Int => k .ret ⟨[(4, ri y29)], [], [], 19⟩)) :=
  Eq.trans (by kernel_rfl) (loop_iter2 (S := fun s25 : Int => ⟨[(0, rl (.one (.int .i64)) s_), (1, ri v_), (7, ri (s_.length : Int)), (8, ri s25)], [], [], 19⟩) (Y1 := fun y28 : Int => ((.exit 0), ⟨[(0, rl (.one (.int .i64)) s_), (1, ri v_), (7, ri (s_.length : Int)), (8, ri y28)], [], [], 19⟩)) (Y2 := fun y29 : Int => (.ret, ⟨[(4, ri y29)], [], [], 19⟩)) (fun s k => slices_Indexint_int_l2_b s_ v_ s k) (fun z => rfl) (fun z => rfl) LL (0 : Int))
theorem slices_Indexint_int_fzx2 {α : Type} (k : St → Option α) : P1 1 C1.r.r ⟨[], [], [], 19⟩ k = k ⟨[(4, ri (-1 : Int))], [], [], 19⟩ := by kernel_rfl
/-- slices.Index[[]int,int] -/
def slices_Indexint_int_q {β : Type} (s_ : (List Int)) (v_ : Int) (K : Int → Option β) : Option β := (Option.bind (iterN (slices_Indexint_int_l2_p s_ v_) LL (0 : Int)) (either (fun y28 : Int => (K (-1 : Int))) (fun y29 : Int => (K y29))))
def slices_Indexint_int (s_ : (List Int)) (v_ : Int) : Option Int := slices_Indexint_int_q s_ v_ some
theorem slices_Indexint_int_n {β : Type} (s_ : (List Int)) (v_ : Int) (K : Int → Option β) : slices_Indexint_int_q s_ v_ K = (slices_Indexint_int s_ v_).bind K := (bind_b (either_b (fun y28 => some_b) (fun y29 => some_b)))
theorem slices_Indexint_int_is (s_ : (List Int)) (v_ : Int) : stepS E cp1 noE 46 [rl (.one (.int .i64)) s_, ri v_] = Option.bind (slices_Indexint_int s_ v_) (fun y : Int => some (ri y : R)) := by
  refine Eq.trans ?_ (slices_Indexint_int_n s_ v_ (fun y : Int => some (ri y : R)))
  refine (stepG_is (nt := 19) (regs := [(0, rl (.one (.int .i64)) s_), (1, ri v_)]) (by kernel_rfl) (by kernel_rfl)).trans ?_
  unfold slices_Indexint_int_q
  refine (pre (n := 1) (c' := C1.r) (by kernel_rfl) (by kernel_rfl) (slices_Indexint_int_f1 s_ v_ _)).trans ?_
  refine (seq_push (by kernel_rfl)).trans ?_
  refine (pre (n := 1) (c' := C1.r.l.r) (by kernel_rfl) (by kernel_rfl) (slices_Indexint_int_f2 s_ v_ _)).trans ?_
  refine (block_push (id := 0) (by kernel_rfl)).trans ?_
  refine (slices_Indexint_int_l2 s_ v_ _).trans (bind_g (either_g (fun y28 => ?_) (fun y29 => ?_)))
  · refine block_same.trans ?_
    refine (seqC_normal (st' := ⟨[], [], [], 19⟩) (by kernel_rfl)).trans ?_
    refine (pre (n := 1) (c' := C1.r.r.r) (by kernel_rfl) (by kernel_rfl) (slices_Indexint_int_fzx2 _)).trans ?_
    refine (ret_eq (by kernel_rfl)).trans ?_
    kernel_rfl
  · refine block_ret.trans ?_
    refine seqC_ret.trans ?_
    kernel_rfl
theorem slices_Indexint_int_c (x : denL [(.one (.g (.sl (.one (.int .i64))))), (.one (.g (.int .i64)))]) : stepS E cp1 noE 46 (encL [(.one (.g (.sl (.one (.int .i64))))), (.one (.g (.int .i64)))] x) = ((fun x => slices_Indexint_int x.1 x.2.1) x).bind fun y => some (Po.enc (.one (.one (.g (.int .i64)))) ((fun y : Int => y) y)) := Eq.mp (by kernel_rfl) (slices_Indexint_int_is x.1 x.2.1)
noncomputable def cp2 : CallP := withC cp1 46 [(.one (.g (.sl (.one (.int .i64))))), (.one (.g (.int .i64)))] (.one (.one (.g (.int .i64)))) (fun y : Int => y) (fun x => slices_Indexint_int x.1 x.2.1)
theorem cp2_ok : PureOK E cp2 := withC_ok cp1_ok (stepS_ok eok cp1_ok noE_ok) fun x => con_of (enc := fun y => Po.enc (.one (.one (.g (.int .i64)))) ((fun y : Int => y) y)) (slices_Indexint_int_c x)
noncomputable abbrev C2 : Code := codeOf E.P 30
noncomputable abbrev P2 {α : Type} (n : Nat) (c : Code) (st : St) (k : St → Option α) : Option α := preK E 30 cp2 noE n c st k
noncomputable abbrev R2 {α : Type} (c : Code) (st : St) (k : Kont α) : Option α := runCode E 30 cp2 noE c st k
noncomputable abbrev Q2 {α : Type} (c : Code) (k : Kont α) : Kont α := seqC E 30 cp2 noE c k
theorem slices_Containsint_int_r1 {α : Type} (s_ : (List Int)) (v_ : Int) (k : St → Option α) : P2 2 C2 ⟨[(0, rl (.one (.int .i64)) s_), (1, ri v_)], [], [], 9⟩ k = Option.bind (slices_Indexint_int s_ v_) fun y30 : Int => k ⟨[(4, rb (decide (y30 ≥ (0 : Int))))], [], [], 9⟩ := by kernel_rfl
/-- slices.Contains[[]int,int] -/
def slices_Containsint_int_q {β : Type} (s_ : (List Int)) (v_ : Int) (K : Bool → Option β) : Option β := (Option.bind (slices_Indexint_int s_ v_) (fun y30 : Int => (K (decide (y30 ≥ (0 : Int))))))
def slices_Containsint_int (s_ : (List Int)) (v_ : Int) : Option Bool := slices_Containsint_int_q s_ v_ some
theorem slices_Containsint_int_n {β : Type} (s_ : (List Int)) (v_ : Int) (K : Bool → Option β) : slices_Containsint_int_q s_ v_ K = (slices_Containsint_int s_ v_).bind K := (bind_b fun y30 => some_b)
theorem slices_Containsint_int_is (s_ : (List Int)) (v_ : Int) : stepS E cp2 noE 30 [rl (.one (.int .i64)) s_, ri v_] = Option.bind (slices_Containsint_int s_ v_) (fun y : Bool => some (rb y : R)) := by
  refine Eq.trans ?_ (slices_Containsint_int_n s_ v_ (fun y : Bool => some (rb y : R)))
  refine (stepG_is (nt := 9) (regs := [(0, rl (.one (.int .i64)) s_), (1, ri v_)]) (by kernel_rfl) (by kernel_rfl)).trans ?_
  unfold slices_Containsint_int_q
  refine (pre (n := 2) (c' := C2.r.r) (by kernel_rfl) (by kernel_rfl) (slices_Containsint_int_r1 s_ v_ _)).trans (bind_g fun y30 => ?_)
  refine (ret_eq (by kernel_rfl)).trans ?_
  kernel_rfl
theorem slices_Containsint_int_c (x : denL [(.one (.g (.sl (.one (.int .i64))))), (.one (.g (.int .i64)))]) : stepS E cp2 noE 30 (encL [(.one (.g (.sl (.one (.int .i64))))), (.one (.g (.int .i64)))] x) = ((fun x => slices_Containsint_int x.1 x.2.1) x).bind fun y => some (Po.enc (.one (.one (.g .bool))) ((fun y : Bool => y) y)) := Eq.mp (by kernel_rfl) (slices_Containsint_int_is x.1 x.2.1)
noncomputable def cp3 : CallP := withC cp2 30 [(.one (.g (.sl (.one (.int .i64))))), (.one (.g (.int .i64)))] (.one (.one (.g .bool))) (fun y : Bool => y) (fun x => slices_Containsint_int x.1 x.2.1)
theorem cp3_ok : PureOK E cp3 := withC_ok cp2_ok (stepS_ok eok cp2_ok noE_ok) fun x => con_of (enc := fun y => Po.enc (.one (.one (.g .bool))) ((fun y : Bool => y) y)) (slices_Containsint_int_c x)
noncomputable abbrev C3 : Code := codeOf E.P 17
noncomputable abbrev P3 {α : Type} (n : Nat) (c : Code) (st : St) (k : St → Option α) : Option α := preK E 17 cp3 noE n c st k
noncomputable abbrev R3 {α : Type} (c : Code) (st : St) (k : Kont α) : Option α := runCode E 17 cp3 noE c st k
noncomputable abbrev Q3 {α : Type} (c : Code) (k : Kont α) : Kont α := seqC E 17 cp3 noE c k
def halo_Npu_r2_q {β : Type} (op : Int) (K : Bool → Option β) : Option β := (bif (decide (op ≥ (1 : Int))) then (bif (decide (op ≤ (12 : Int))) then (Option.bind (slices_Containsint_int [(3 : Int), (9 : Int), (10 : Int), (11 : Int)] op) (fun y31 : Bool => (K (!y31)))) else (K false)) else (K false))
def halo_Npu_r2_p (op : Int) : Option (Bool) := halo_Npu_r2_q op some
theorem halo_Npu_r2_n {β : Type} (op : Int) (K : Bool → Option β) : halo_Npu_r2_q op K = (halo_Npu_r2_p op).bind K := (bif_b (bif_b (bind_b fun y31 => some_b) some_b) some_b)
theorem halo_Npu_r2 {α : Type} (op : Int) (k : St → Option α) : P3 3 C3 ⟨[(0, ri op)], [], [], 17⟩ k = Option.bind (halo_Npu_r2_p op) (fun y32 : Bool => k ⟨[(2, rb y32)], [[]], [], 17⟩) := Eq.trans (by kernel_rfl) (halo_Npu_r2_n op _)
/-- quilt/halo.Npu -/
def halo_Npu_q {β : Type} (op : Int) (K : Bool → Option β) : Option β := (Option.bind (halo_Npu_r2_p op) (fun y32 : Bool => (K y32)))
def halo_Npu (op : Int) : Option Bool := halo_Npu_q op some
theorem halo_Npu_n {β : Type} (op : Int) (K : Bool → Option β) : halo_Npu_q op K = (halo_Npu op).bind K := (bind_b fun y32 => some_b)
theorem halo_Npu_is (op : Int) : stepS E cp3 noE 17 [ri op] = Option.bind (halo_Npu op) (fun y : Bool => some (rb y : R)) := by
  refine Eq.trans ?_ (halo_Npu_n op (fun y : Bool => some (rb y : R)))
  refine (stepG_is (nt := 17) (regs := [(0, ri op)]) (by kernel_rfl) (by kernel_rfl)).trans ?_
  unfold halo_Npu_q
  refine (pre (n := 3) (c' := C3.r.r.r) (by kernel_rfl) (by kernel_rfl) (halo_Npu_r2 op _)).trans (bind_g fun y32 => ?_)
  refine (ret_eq (by kernel_rfl)).trans ?_
  kernel_rfl
theorem halo_Npu_c (x : denL [(.one (.g (.int .i64)))]) : stepS E cp3 noE 17 (encL [(.one (.g (.int .i64)))] x) = ((fun x => halo_Npu x.1) x).bind fun y => some (Po.enc (.one (.one (.g .bool))) ((fun y : Bool => y) y)) := Eq.mp (by kernel_rfl) (halo_Npu_is x.1)
noncomputable def cp4 : CallP := withC cp3 17 [(.one (.g (.int .i64)))] (.one (.one (.g .bool))) (fun y : Bool => y) (fun x => halo_Npu x.1)
theorem cp4_ok : PureOK E cp4 := withC_ok cp3_ok (stepS_ok eok cp3_ok noE_ok) fun x => con_of (enc := fun y => Po.enc (.one (.one (.g .bool))) ((fun y : Bool => y) y)) (halo_Npu_c x)
noncomputable abbrev C4 : Code := codeOf E.P 7
noncomputable abbrev P4 {α : Type} (n : Nat) (c : Code) (st : St) (k : St → Option α) : Option α := preK E 7 cp4 noE n c st k
noncomputable abbrev R4 {α : Type} (c : Code) (st : St) (k : Kont α) : Option α := runCode E 7 cp4 noE c st k
noncomputable abbrev Q4 {α : Type} (c : Code) (k : Kont α) : Kont α := seqC E 7 cp4 noE c k
theorem law15_shown_r1 {α : Type} (k : St → Option α) : P4 2 C4 ⟨[], [], [], 27⟩ k = Option.bind (halo_Tiles (5 : Int) (2 : Int)) fun y13 : (List I2) => k ⟨[(1, .one (.ow tsI2 y13 (.v 1)))], [], [], 27⟩ := by kernel_rfl
def law15_shown_r2_q {β : Type} (y13 : (List I2)) (K : Bool → Option β) : Option β := (bif ((y13.length : Int) == (3 : Int)) then (bif (decide ((0 : Int) < (y13.length : Int))) then (bif ((((gt y13 (0 : Int) dI2).1) == (0 : Int)) && ((((gt y13 (0 : Int) dI2).2) == (2 : Int)) && true)) then (bif (decide ((2 : Int) < (y13.length : Int))) then (bif ((((gt y13 (2 : Int) dI2).1) == (4 : Int)) && ((((gt y13 (2 : Int) dI2).2) == (1 : Int)) && true)) then (Option.bind (halo_Npu (1 : Int)) (fun y33 : Bool => (bif y33 then (Option.bind (halo_Npu (3 : Int)) (fun y34 : Bool => (K (!y34)))) else (K false)))) else (K false)) else none) else (K false)) else none) else (K false))
def law15_shown_r2_p (y13 : (List I2)) : Option (Bool) := law15_shown_r2_q y13 some
theorem law15_shown_r2_n {β : Type} (y13 : (List I2)) (K : Bool → Option β) : law15_shown_r2_q y13 K = (law15_shown_r2_p y13).bind K := (bif_b (bif_b (bif_b (bif_b (bif_b (bind_b fun y33 => (bif_b (bind_b fun y34 => some_b) some_b)) some_b) none_b) some_b) none_b) some_b)
theorem law15_shown_r2 {α : Type} (y13 : (List I2)) (k : St → Option α) : P4 1 C4.r.r ⟨[(1, .one (.ow tsI2 y13 (.v 1)))], [], [], 27⟩ k = Option.bind (law15_shown_r2_p y13) (fun y35 : Bool => k ⟨[(0, rb y35)], [], [], 27⟩) := Eq.trans (by kernel_rfl) (law15_shown_r2_n y13 _)
/-- quilt/quiltlaw15.shown -/
def law15_shown_q {β : Type} (K : Bool → Option β) : Option β := (Option.bind (halo_Tiles (5 : Int) (2 : Int)) (fun y13 : (List I2) => (Option.bind (law15_shown_r2_p y13) (fun y35 : Bool => (K y35)))))
def law15_shown : Option Bool := law15_shown_q some
theorem law15_shown_n {β : Type} (K : Bool → Option β) : law15_shown_q K = (law15_shown).bind K := (bind_b fun y13 => (bind_b fun y35 => some_b))
theorem law15_shown_is : stepS E cp4 noE 7 [] = Option.bind (law15_shown) (fun y : Bool => some (rb y : R)) := by
  refine Eq.trans ?_ (law15_shown_n (fun y : Bool => some (rb y : R)))
  refine (stepG_is (nt := 27) (regs := []) (by kernel_rfl) (by kernel_rfl)).trans ?_
  unfold law15_shown_q
  refine (pre (n := 2) (c' := C4.r.r) (by kernel_rfl) (by kernel_rfl) (law15_shown_r1 _)).trans (bind_g fun y13 => ?_)
  refine (pre (n := 1) (c' := C4.r.r.r) (by kernel_rfl) (by kernel_rfl) (law15_shown_r2 y13 _)).trans (bind_g fun y35 => ?_)
  refine (ret_eq (by kernel_rfl)).trans ?_
  kernel_rfl
theorem law15_shown_c (x : denL []) : stepS E cp4 noE 7 (encL [] x) = ((fun x => law15_shown) x).bind fun y => some (Po.enc (.one (.one (.g .bool))) ((fun y : Bool => y) y)) := Eq.mp (by kernel_rfl) (law15_shown_is)
noncomputable def cp5 : CallP := withC cp4 7 [] (.one (.one (.g .bool))) (fun y : Bool => y) (fun x => law15_shown)
theorem cp5_ok : PureOK E cp5 := withC_ok cp4_ok (stepS_ok eok cp4_ok noE_ok) fun x => con_of (enc := fun y => Po.enc (.one (.one (.g .bool))) ((fun y : Bool => y) y)) (law15_shown_c x)
noncomputable abbrev C5 : Code := codeOf E.P 9
noncomputable abbrev P5 {α : Type} (n : Nat) (c : Code) (st : St) (k : St → Option α) : Option α := preK E 9 cp5 noE n c st k
noncomputable abbrev R5 {α : Type} (c : Code) (st : St) (k : Kont α) : Option α := runCode E 9 cp5 noE c st k
noncomputable abbrev Q5 {α : Type} (c : Code) (k : Kont α) : Kont α := seqC E 9 cp5 noE c k
theorem law15_few_f1 {α : Type} (n_ : Node) (k : St → Option α) : P5 1 C5 ⟨[(0, .agg (tsNode.leaves n_))], [], [], 28⟩ k = k ⟨[(1, .one (.ref 0 0)), (2, .one (.ref 1 0))], [(tsNode.leaves n_), [di (0 : Int), dl (.one (.int .i64)) [], di (0 : Int), di (0 : Int), di (0 : Int), di (0 : Int), di (0 : Int), di (0 : Int), di (0 : Int), di (0 : Int), di (0 : Int), di (0 : Int), dl (.one (.int .i8)) [], dl (.one (.int .i32)) []]], [], 28⟩ := by kernel_rfl
theorem law15_few_f1000002 {α : Type} (n_ : Node) (k : St → Option α) : P5 1 C5.r.l ⟨[(1, .one (.ref 0 0)), (2, .one (.ref 1 0))], [(tsNode.leaves n_), [di (0 : Int), dl (.one (.int .i64)) [], di (0 : Int), di (0 : Int), di (0 : Int), di (0 : Int), di (0 : Int), di (0 : Int), di (0 : Int), di (0 : Int), di (0 : Int), di (0 : Int), dl (.one (.int .i8)) [], dl (.one (.int .i32)) []]], [], 28⟩ k = k ⟨[(1, .one (.ref 0 0)), (2, .one (.ref 1 0)), (6, rb (decide ((n_.2.1.length : Int) > (20 : Int))))], [(tsNode.leaves n_), [di (0 : Int), dl (.one (.int .i64)) [], di (0 : Int), di (0 : Int), di (0 : Int), di (0 : Int), di (0 : Int), di (0 : Int), di (0 : Int), di (0 : Int), di (0 : Int), di (0 : Int), dl (.one (.int .i8)) [], dl (.one (.int .i32)) []]], [], 28⟩ := by kernel_rfl
def law15_few_r2_q {β : Type} (n_ : Node) (K : Unit → Option β) : Option β := (bif (decide ((20 : Int) ≤ (n_.2.1.length : Int))) then (K ()) else none)
def law15_few_r2_p (n_ : Node) : Option (Unit) := law15_few_r2_q n_ some
theorem law15_few_r2_n {β : Type} (n_ : Node) (K : Unit → Option β) : law15_few_r2_q n_ K = (law15_few_r2_p n_).bind K := (bif_b some_b none_b)
theorem law15_few_r2 {α : Type} (n_ : Node) (k : Kont α) : R5 C5.r.l.r.t ⟨[(1, .one (.ref 0 0)), (2, .one (.ref 1 0))], [(tsNode.leaves n_), [di (0 : Int), dl (.one (.int .i64)) [], di (0 : Int), di (0 : Int), di (0 : Int), di (0 : Int), di (0 : Int), di (0 : Int), di (0 : Int), di (0 : Int), di (0 : Int), di (0 : Int), dl (.one (.int .i8)) [], dl (.one (.int .i32)) []]], [], 28⟩ k = Option.bind (law15_few_r2_p n_) (fun y37 : Unit => k .normal ⟨[(1, .one (.ref 0 0)), (2, .one (.ref 1 0))], [[di n_.1, dl (.one (.int .i64)) ((n_.2.1.take (Int.toNat (20 : Int))).drop (Int.toNat (0 : Int))), di n_.2.2.1, di n_.2.2.2.1, di n_.2.2.2.2.1, di n_.2.2.2.2.2.1, di n_.2.2.2.2.2.2.1, di n_.2.2.2.2.2.2.2.1, di n_.2.2.2.2.2.2.2.2.1, di n_.2.2.2.2.2.2.2.2.2.1, di n_.2.2.2.2.2.2.2.2.2.2.1, di n_.2.2.2.2.2.2.2.2.2.2.2.1, dl (.one (.int .i8)) n_.2.2.2.2.2.2.2.2.2.2.2.2.1, dl (.one (.int .i32)) n_.2.2.2.2.2.2.2.2.2.2.2.2.2], [di (0 : Int), dl (.one (.int .i64)) [], di (0 : Int), di (0 : Int), di (0 : Int), di (0 : Int), di (0 : Int), di (0 : Int), di (0 : Int), di (0 : Int), di (0 : Int), di (0 : Int), dl (.one (.int .i8)) [], dl (.one (.int .i32)) []]], [], 28⟩) := Eq.trans (by kernel_rfl) (law15_few_r2_n n_ _)
def law15_few_j1_q {β : Type} (n_ : Node) (K : (List Int) → Option β) : Option β := (bif (decide ((n_.2.1.length : Int) > (20 : Int))) then (Option.bind (law15_few_r2_p n_) (fun y37 : Unit => (K ((n_.2.1.take (Int.toNat (20 : Int))).drop (Int.toNat (0 : Int)))))) else (K n_.2.1))
def law15_few_j1_p (n_ : Node) : Option ((List Int)) := law15_few_j1_q n_ some
theorem law15_few_j1_n {β : Type} (n_ : Node) (K : (List Int) → Option β) : law15_few_j1_q n_ K = (law15_few_j1_p n_).bind K := (bif_b (bind_b fun y37 => some_b) some_b)
theorem law15_few_j1 {α : Type} (n_ : Node) (k : Kont α) : R5 C5.r.l ⟨[(1, .one (.ref 0 0)), (2, .one (.ref 1 0))], [(tsNode.leaves n_), [di (0 : Int), dl (.one (.int .i64)) [], di (0 : Int), di (0 : Int), di (0 : Int), di (0 : Int), di (0 : Int), di (0 : Int), di (0 : Int), di (0 : Int), di (0 : Int), di (0 : Int), dl (.one (.int .i8)) [], dl (.one (.int .i32)) []]], [], 28⟩ (Q5 C5.r.r k) = Option.bind (law15_few_j1_p n_) (fun y38 : (List Int) => R5 C5.r.r ⟨[(1, .one (.ref 0 0)), (2, .one (.ref 1 0))], [[di n_.1, dl (.one (.int .i64)) y38, di n_.2.2.1, di n_.2.2.2.1, di n_.2.2.2.2.1, di n_.2.2.2.2.2.1, di n_.2.2.2.2.2.2.1, di n_.2.2.2.2.2.2.2.1, di n_.2.2.2.2.2.2.2.2.1, di n_.2.2.2.2.2.2.2.2.2.1, di n_.2.2.2.2.2.2.2.2.2.2.1, di n_.2.2.2.2.2.2.2.2.2.2.2.1, dl (.one (.int .i8)) n_.2.2.2.2.2.2.2.2.2.2.2.2.1, dl (.one (.int .i32)) n_.2.2.2.2.2.2.2.2.2.2.2.2.2], [di (0 : Int), dl (.one (.int .i64)) [], di (0 : Int), di (0 : Int), di (0 : Int), di (0 : Int), di (0 : Int), di (0 : Int), di (0 : Int), di (0 : Int), di (0 : Int), di (0 : Int), dl (.one (.int .i8)) [], dl (.one (.int .i32)) []]], [], 28⟩ k) := by
  refine Eq.trans ?_ (law15_few_j1_n n_ _)
  unfold law15_few_j1_q
  refine (pre (n := 1) (c' := C5.r.l.r) (by kernel_rfl) (by kernel_rfl) (law15_few_f1000002 n_ _)).trans ?_
  refine (cond_eq (b := (decide ((n_.2.1.length : Int) > (20 : Int)))) (st' := ⟨[(1, .one (.ref 0 0)), (2, .one (.ref 1 0))], [(tsNode.leaves n_), [di (0 : Int), dl (.one (.int .i64)) [], di (0 : Int), di (0 : Int), di (0 : Int), di (0 : Int), di (0 : Int), di (0 : Int), di (0 : Int), di (0 : Int), di (0 : Int), di (0 : Int), dl (.one (.int .i8)) [], dl (.one (.int .i32)) []]], [], 28⟩) (by kernel_rfl) (by kernel_rfl) (by kernel_rfl)).trans (bif_g ?_ ?_)
  · refine (law15_few_r2 n_ _).trans (bind_g fun y37 => ?_)
    refine (seqC_normal (st' := ⟨[(1, .one (.ref 0 0)), (2, .one (.ref 1 0))], [[di n_.1, dl (.one (.int .i64)) ((n_.2.1.take (Int.toNat (20 : Int))).drop (Int.toNat (0 : Int))), di n_.2.2.1, di n_.2.2.2.1, di n_.2.2.2.2.1, di n_.2.2.2.2.2.1, di n_.2.2.2.2.2.2.1, di n_.2.2.2.2.2.2.2.1, di n_.2.2.2.2.2.2.2.2.1, di n_.2.2.2.2.2.2.2.2.2.1, di n_.2.2.2.2.2.2.2.2.2.2.1, di n_.2.2.2.2.2.2.2.2.2.2.2.1, dl (.one (.int .i8)) n_.2.2.2.2.2.2.2.2.2.2.2.2.1, dl (.one (.int .i32)) n_.2.2.2.2.2.2.2.2.2.2.2.2.2], [di (0 : Int), dl (.one (.int .i64)) [], di (0 : Int), di (0 : Int), di (0 : Int), di (0 : Int), di (0 : Int), di (0 : Int), di (0 : Int), di (0 : Int), di (0 : Int), di (0 : Int), dl (.one (.int .i8)) [], dl (.one (.int .i32)) []]], [], 28⟩) (by kernel_rfl)).trans ?_
    kernel_rfl
  · refine (skip_eq (by kernel_rfl)).trans ?_
    refine (seqC_normal (st' := ⟨[(1, .one (.ref 0 0)), (2, .one (.ref 1 0))], [(tsNode.leaves n_), [di (0 : Int), dl (.one (.int .i64)) [], di (0 : Int), di (0 : Int), di (0 : Int), di (0 : Int), di (0 : Int), di (0 : Int), di (0 : Int), di (0 : Int), di (0 : Int), di (0 : Int), dl (.one (.int .i8)) [], dl (.one (.int .i32)) []]], [], 28⟩) (by kernel_rfl)).trans ?_
    kernel_rfl
theorem law15_few_f1000004 {α : Type} (n_ : Node) (y38 : (List Int)) (k : St → Option α) : P5 1 C5.r.r.l ⟨[(1, .one (.ref 0 0)), (2, .one (.ref 1 0))], [[di n_.1, dl (.one (.int .i64)) y38, di n_.2.2.1, di n_.2.2.2.1, di n_.2.2.2.2.1, di n_.2.2.2.2.2.1, di n_.2.2.2.2.2.2.1, di n_.2.2.2.2.2.2.2.1, di n_.2.2.2.2.2.2.2.2.1, di n_.2.2.2.2.2.2.2.2.2.1, di n_.2.2.2.2.2.2.2.2.2.2.1, di n_.2.2.2.2.2.2.2.2.2.2.2.1, dl (.one (.int .i8)) n_.2.2.2.2.2.2.2.2.2.2.2.2.1, dl (.one (.int .i32)) n_.2.2.2.2.2.2.2.2.2.2.2.2.2], [di (0 : Int), dl (.one (.int .i64)) [], di (0 : Int), di (0 : Int), di (0 : Int), di (0 : Int), di (0 : Int), di (0 : Int), di (0 : Int), di (0 : Int), di (0 : Int), di (0 : Int), dl (.one (.int .i8)) [], dl (.one (.int .i32)) []]], [], 28⟩ k = k ⟨[(1, .one (.ref 0 0)), (2, .one (.ref 1 0)), (14, rb (decide ((n_.2.2.2.2.2.2.2.2.2.2.2.2.1.length : Int) > (5000 : Int))))], [[di n_.1, dl (.one (.int .i64)) y38, di n_.2.2.1, di n_.2.2.2.1, di n_.2.2.2.2.1, di n_.2.2.2.2.2.1, di n_.2.2.2.2.2.2.1, di n_.2.2.2.2.2.2.2.1, di n_.2.2.2.2.2.2.2.2.1, di n_.2.2.2.2.2.2.2.2.2.1, di n_.2.2.2.2.2.2.2.2.2.2.1, di n_.2.2.2.2.2.2.2.2.2.2.2.1, dl (.one (.int .i8)) n_.2.2.2.2.2.2.2.2.2.2.2.2.1, dl (.one (.int .i32)) n_.2.2.2.2.2.2.2.2.2.2.2.2.2], [di (0 : Int), dl (.one (.int .i64)) [], di (0 : Int), di (0 : Int), di (0 : Int), di (0 : Int), di (0 : Int), di (0 : Int), di (0 : Int), di (0 : Int), di (0 : Int), di (0 : Int), dl (.one (.int .i8)) [], dl (.one (.int .i32)) []]], [], 28⟩ := by kernel_rfl
def law15_few_r4_q {β : Type} (n_ : Node) (K : (List Int) → Option β) : Option β := (bif (decide ((5000 : Int) ≤ (n_.2.2.2.2.2.2.2.2.2.2.2.2.1.length : Int))) then (K ((n_.2.2.2.2.2.2.2.2.2.2.2.2.1.take (Int.toNat (5000 : Int))).drop (Int.toNat (0 : Int)))) else none)
def law15_few_r4_p (n_ : Node) : Option ((List Int)) := law15_few_r4_q n_ some
theorem law15_few_r4_n {β : Type} (n_ : Node) (K : (List Int) → Option β) : law15_few_r4_q n_ K = (law15_few_r4_p n_).bind K := (bif_b some_b none_b)
theorem law15_few_r4 {α : Type} (n_ : Node) (y38 : (List Int)) (k : Kont α) : R5 C5.r.r.l.r.t ⟨[(1, .one (.ref 0 0)), (2, .one (.ref 1 0))], [[di n_.1, dl (.one (.int .i64)) y38, di n_.2.2.1, di n_.2.2.2.1, di n_.2.2.2.2.1, di n_.2.2.2.2.2.1, di n_.2.2.2.2.2.2.1, di n_.2.2.2.2.2.2.2.1, di n_.2.2.2.2.2.2.2.2.1, di n_.2.2.2.2.2.2.2.2.2.1, di n_.2.2.2.2.2.2.2.2.2.2.1, di n_.2.2.2.2.2.2.2.2.2.2.2.1, dl (.one (.int .i8)) n_.2.2.2.2.2.2.2.2.2.2.2.2.1, dl (.one (.int .i32)) n_.2.2.2.2.2.2.2.2.2.2.2.2.2], [di (0 : Int), dl (.one (.int .i64)) [], di (0 : Int), di (0 : Int), di (0 : Int), di (0 : Int), di (0 : Int), di (0 : Int), di (0 : Int), di (0 : Int), di (0 : Int), di (0 : Int), dl (.one (.int .i8)) [], dl (.one (.int .i32)) []]], [], 28⟩ k = Option.bind (law15_few_r4_p n_) (fun y39 : (List Int) => k .normal ⟨[(1, .one (.ref 0 0)), (2, .one (.ref 1 0))], [[di n_.1, dl (.one (.int .i64)) y38, di n_.2.2.1, di n_.2.2.2.1, di n_.2.2.2.2.1, di n_.2.2.2.2.2.1, di n_.2.2.2.2.2.2.1, di n_.2.2.2.2.2.2.2.1, di n_.2.2.2.2.2.2.2.2.1, di n_.2.2.2.2.2.2.2.2.2.1, di n_.2.2.2.2.2.2.2.2.2.2.1, di n_.2.2.2.2.2.2.2.2.2.2.2.1, dl (.one (.int .i8)) y39, dl (.one (.int .i32)) n_.2.2.2.2.2.2.2.2.2.2.2.2.2], [di (0 : Int), dl (.one (.int .i64)) [], di (0 : Int), di (0 : Int), di (0 : Int), di (0 : Int), di (0 : Int), di (0 : Int), di (0 : Int), di (0 : Int), di (0 : Int), di (0 : Int), dl (.one (.int .i8)) [], dl (.one (.int .i32)) []]], [], 28⟩) := Eq.trans (by kernel_rfl) (law15_few_r4_n n_ _)
def law15_few_j3_q {β : Type} (n_ : Node) (K : (List Int) → Option β) : Option β := (bif (decide ((n_.2.2.2.2.2.2.2.2.2.2.2.2.1.length : Int) > (5000 : Int))) then (Option.bind (law15_few_r4_p n_) (fun y39 : (List Int) => (K y39))) else (K n_.2.2.2.2.2.2.2.2.2.2.2.2.1))
def law15_few_j3_p (n_ : Node) : Option ((List Int)) := law15_few_j3_q n_ some
theorem law15_few_j3_n {β : Type} (n_ : Node) (K : (List Int) → Option β) : law15_few_j3_q n_ K = (law15_few_j3_p n_).bind K := (bif_b (bind_b fun y39 => some_b) some_b)
theorem law15_few_j3 {α : Type} (n_ : Node) (y38 : (List Int)) (k : Kont α) : R5 C5.r.r.l ⟨[(1, .one (.ref 0 0)), (2, .one (.ref 1 0))], [[di n_.1, dl (.one (.int .i64)) y38, di n_.2.2.1, di n_.2.2.2.1, di n_.2.2.2.2.1, di n_.2.2.2.2.2.1, di n_.2.2.2.2.2.2.1, di n_.2.2.2.2.2.2.2.1, di n_.2.2.2.2.2.2.2.2.1, di n_.2.2.2.2.2.2.2.2.2.1, di n_.2.2.2.2.2.2.2.2.2.2.1, di n_.2.2.2.2.2.2.2.2.2.2.2.1, dl (.one (.int .i8)) n_.2.2.2.2.2.2.2.2.2.2.2.2.1, dl (.one (.int .i32)) n_.2.2.2.2.2.2.2.2.2.2.2.2.2], [di (0 : Int), dl (.one (.int .i64)) [], di (0 : Int), di (0 : Int), di (0 : Int), di (0 : Int), di (0 : Int), di (0 : Int), di (0 : Int), di (0 : Int), di (0 : Int), di (0 : Int), dl (.one (.int .i8)) [], dl (.one (.int .i32)) []]], [], 28⟩ (Q5 C5.r.r.r k) = Option.bind (law15_few_j3_p n_) (fun y40 : (List Int) => R5 C5.r.r.r ⟨[(1, .one (.ref 0 0)), (2, .one (.ref 1 0))], [[di n_.1, dl (.one (.int .i64)) y38, di n_.2.2.1, di n_.2.2.2.1, di n_.2.2.2.2.1, di n_.2.2.2.2.2.1, di n_.2.2.2.2.2.2.1, di n_.2.2.2.2.2.2.2.1, di n_.2.2.2.2.2.2.2.2.1, di n_.2.2.2.2.2.2.2.2.2.1, di n_.2.2.2.2.2.2.2.2.2.2.1, di n_.2.2.2.2.2.2.2.2.2.2.2.1, dl (.one (.int .i8)) y40, dl (.one (.int .i32)) n_.2.2.2.2.2.2.2.2.2.2.2.2.2], [di (0 : Int), dl (.one (.int .i64)) [], di (0 : Int), di (0 : Int), di (0 : Int), di (0 : Int), di (0 : Int), di (0 : Int), di (0 : Int), di (0 : Int), di (0 : Int), di (0 : Int), dl (.one (.int .i8)) [], dl (.one (.int .i32)) []]], [], 28⟩ k) := by
  refine Eq.trans ?_ (law15_few_j3_n n_ _)
  unfold law15_few_j3_q
  refine (pre (n := 1) (c' := C5.r.r.l.r) (by kernel_rfl) (by kernel_rfl) (law15_few_f1000004 n_ y38 _)).trans ?_
  refine (cond_eq (b := (decide ((n_.2.2.2.2.2.2.2.2.2.2.2.2.1.length : Int) > (5000 : Int)))) (st' := ⟨[(1, .one (.ref 0 0)), (2, .one (.ref 1 0))], [[di n_.1, dl (.one (.int .i64)) y38, di n_.2.2.1, di n_.2.2.2.1, di n_.2.2.2.2.1, di n_.2.2.2.2.2.1, di n_.2.2.2.2.2.2.1, di n_.2.2.2.2.2.2.2.1, di n_.2.2.2.2.2.2.2.2.1, di n_.2.2.2.2.2.2.2.2.2.1, di n_.2.2.2.2.2.2.2.2.2.2.1, di n_.2.2.2.2.2.2.2.2.2.2.2.1, dl (.one (.int .i8)) n_.2.2.2.2.2.2.2.2.2.2.2.2.1, dl (.one (.int .i32)) n_.2.2.2.2.2.2.2.2.2.2.2.2.2], [di (0 : Int), dl (.one (.int .i64)) [], di (0 : Int), di (0 : Int), di (0 : Int), di (0 : Int), di (0 : Int), di (0 : Int), di (0 : Int), di (0 : Int), di (0 : Int), di (0 : Int), dl (.one (.int .i8)) [], dl (.one (.int .i32)) []]], [], 28⟩) (by kernel_rfl) (by kernel_rfl) (by kernel_rfl)).trans (bif_g ?_ ?_)
  · refine (law15_few_r4 n_ y38 _).trans (bind_g fun y39 => ?_)
    refine (seqC_normal (st' := ⟨[(1, .one (.ref 0 0)), (2, .one (.ref 1 0))], [[di n_.1, dl (.one (.int .i64)) y38, di n_.2.2.1, di n_.2.2.2.1, di n_.2.2.2.2.1, di n_.2.2.2.2.2.1, di n_.2.2.2.2.2.2.1, di n_.2.2.2.2.2.2.2.1, di n_.2.2.2.2.2.2.2.2.1, di n_.2.2.2.2.2.2.2.2.2.1, di n_.2.2.2.2.2.2.2.2.2.2.1, di n_.2.2.2.2.2.2.2.2.2.2.2.1, dl (.one (.int .i8)) y39, dl (.one (.int .i32)) n_.2.2.2.2.2.2.2.2.2.2.2.2.2], [di (0 : Int), dl (.one (.int .i64)) [], di (0 : Int), di (0 : Int), di (0 : Int), di (0 : Int), di (0 : Int), di (0 : Int), di (0 : Int), di (0 : Int), di (0 : Int), di (0 : Int), dl (.one (.int .i8)) [], dl (.one (.int .i32)) []]], [], 28⟩) (by kernel_rfl)).trans ?_
    kernel_rfl
  · refine (skip_eq (by kernel_rfl)).trans ?_
    refine (seqC_normal (st' := ⟨[(1, .one (.ref 0 0)), (2, .one (.ref 1 0))], [[di n_.1, dl (.one (.int .i64)) y38, di n_.2.2.1, di n_.2.2.2.1, di n_.2.2.2.2.1, di n_.2.2.2.2.2.1, di n_.2.2.2.2.2.2.1, di n_.2.2.2.2.2.2.2.1, di n_.2.2.2.2.2.2.2.2.1, di n_.2.2.2.2.2.2.2.2.2.1, di n_.2.2.2.2.2.2.2.2.2.2.1, di n_.2.2.2.2.2.2.2.2.2.2.2.1, dl (.one (.int .i8)) n_.2.2.2.2.2.2.2.2.2.2.2.2.1, dl (.one (.int .i32)) n_.2.2.2.2.2.2.2.2.2.2.2.2.2], [di (0 : Int), dl (.one (.int .i64)) [], di (0 : Int), di (0 : Int), di (0 : Int), di (0 : Int), di (0 : Int), di (0 : Int), di (0 : Int), di (0 : Int), di (0 : Int), di (0 : Int), dl (.one (.int .i8)) [], dl (.one (.int .i32)) []]], [], 28⟩) (by kernel_rfl)).trans ?_
    kernel_rfl
theorem law15_few_f1000006 {α : Type} (n_ : Node) (y38 : (List Int)) (y40 : (List Int)) (k : St → Option α) : P5 1 C5.r.r.r.l ⟨[(1, .one (.ref 0 0)), (2, .one (.ref 1 0))], [[di n_.1, dl (.one (.int .i64)) y38, di n_.2.2.1, di n_.2.2.2.1, di n_.2.2.2.2.1, di n_.2.2.2.2.2.1, di n_.2.2.2.2.2.2.1, di n_.2.2.2.2.2.2.2.1, di n_.2.2.2.2.2.2.2.2.1, di n_.2.2.2.2.2.2.2.2.2.1, di n_.2.2.2.2.2.2.2.2.2.2.1, di n_.2.2.2.2.2.2.2.2.2.2.2.1, dl (.one (.int .i8)) y40, dl (.one (.int .i32)) n_.2.2.2.2.2.2.2.2.2.2.2.2.2], [di (0 : Int), dl (.one (.int .i64)) [], di (0 : Int), di (0 : Int), di (0 : Int), di (0 : Int), di (0 : Int), di (0 : Int), di (0 : Int), di (0 : Int), di (0 : Int), di (0 : Int), dl (.one (.int .i8)) [], dl (.one (.int .i32)) []]], [], 28⟩ k = k ⟨[(1, .one (.ref 0 0)), (2, .one (.ref 1 0)), (22, rb (decide ((n_.2.2.2.2.2.2.2.2.2.2.2.2.2.length : Int) > (20 : Int))))], [[di n_.1, dl (.one (.int .i64)) y38, di n_.2.2.1, di n_.2.2.2.1, di n_.2.2.2.2.1, di n_.2.2.2.2.2.1, di n_.2.2.2.2.2.2.1, di n_.2.2.2.2.2.2.2.1, di n_.2.2.2.2.2.2.2.2.1, di n_.2.2.2.2.2.2.2.2.2.1, di n_.2.2.2.2.2.2.2.2.2.2.1, di n_.2.2.2.2.2.2.2.2.2.2.2.1, dl (.one (.int .i8)) y40, dl (.one (.int .i32)) n_.2.2.2.2.2.2.2.2.2.2.2.2.2], [di (0 : Int), dl (.one (.int .i64)) [], di (0 : Int), di (0 : Int), di (0 : Int), di (0 : Int), di (0 : Int), di (0 : Int), di (0 : Int), di (0 : Int), di (0 : Int), di (0 : Int), dl (.one (.int .i8)) [], dl (.one (.int .i32)) []]], [], 28⟩ := by kernel_rfl
def law15_few_r6_q {β : Type} (n_ : Node) (K : (List Int) → Option β) : Option β := (bif (decide ((20 : Int) ≤ (n_.2.2.2.2.2.2.2.2.2.2.2.2.2.length : Int))) then (K ((n_.2.2.2.2.2.2.2.2.2.2.2.2.2.take (Int.toNat (20 : Int))).drop (Int.toNat (0 : Int)))) else none)
def law15_few_r6_p (n_ : Node) : Option ((List Int)) := law15_few_r6_q n_ some
theorem law15_few_r6_n {β : Type} (n_ : Node) (K : (List Int) → Option β) : law15_few_r6_q n_ K = (law15_few_r6_p n_).bind K := (bif_b some_b none_b)
theorem law15_few_r6 {α : Type} (n_ : Node) (y38 : (List Int)) (y40 : (List Int)) (k : Kont α) : R5 C5.r.r.r.l.r.t ⟨[(1, .one (.ref 0 0)), (2, .one (.ref 1 0))], [[di n_.1, dl (.one (.int .i64)) y38, di n_.2.2.1, di n_.2.2.2.1, di n_.2.2.2.2.1, di n_.2.2.2.2.2.1, di n_.2.2.2.2.2.2.1, di n_.2.2.2.2.2.2.2.1, di n_.2.2.2.2.2.2.2.2.1, di n_.2.2.2.2.2.2.2.2.2.1, di n_.2.2.2.2.2.2.2.2.2.2.1, di n_.2.2.2.2.2.2.2.2.2.2.2.1, dl (.one (.int .i8)) y40, dl (.one (.int .i32)) n_.2.2.2.2.2.2.2.2.2.2.2.2.2], [di (0 : Int), dl (.one (.int .i64)) [], di (0 : Int), di (0 : Int), di (0 : Int), di (0 : Int), di (0 : Int), di (0 : Int), di (0 : Int), di (0 : Int), di (0 : Int), di (0 : Int), dl (.one (.int .i8)) [], dl (.one (.int .i32)) []]], [], 28⟩ k = Option.bind (law15_few_r6_p n_) (fun y41 : (List Int) => k .normal ⟨[(1, .one (.ref 0 0)), (2, .one (.ref 1 0))], [[di n_.1, dl (.one (.int .i64)) y38, di n_.2.2.1, di n_.2.2.2.1, di n_.2.2.2.2.1, di n_.2.2.2.2.2.1, di n_.2.2.2.2.2.2.1, di n_.2.2.2.2.2.2.2.1, di n_.2.2.2.2.2.2.2.2.1, di n_.2.2.2.2.2.2.2.2.2.1, di n_.2.2.2.2.2.2.2.2.2.2.1, di n_.2.2.2.2.2.2.2.2.2.2.2.1, dl (.one (.int .i8)) y40, dl (.one (.int .i32)) y41], [di (0 : Int), dl (.one (.int .i64)) [], di (0 : Int), di (0 : Int), di (0 : Int), di (0 : Int), di (0 : Int), di (0 : Int), di (0 : Int), di (0 : Int), di (0 : Int), di (0 : Int), dl (.one (.int .i8)) [], dl (.one (.int .i32)) []]], [], 28⟩) := Eq.trans (by kernel_rfl) (law15_few_r6_n n_ _)
def law15_few_j5_q {β : Type} (n_ : Node) (K : (List Int) → Option β) : Option β := (bif (decide ((n_.2.2.2.2.2.2.2.2.2.2.2.2.2.length : Int) > (20 : Int))) then (Option.bind (law15_few_r6_p n_) (fun y41 : (List Int) => (K y41))) else (K n_.2.2.2.2.2.2.2.2.2.2.2.2.2))
def law15_few_j5_p (n_ : Node) : Option ((List Int)) := law15_few_j5_q n_ some
theorem law15_few_j5_n {β : Type} (n_ : Node) (K : (List Int) → Option β) : law15_few_j5_q n_ K = (law15_few_j5_p n_).bind K := (bif_b (bind_b fun y41 => some_b) some_b)
theorem law15_few_j5 {α : Type} (n_ : Node) (y38 : (List Int)) (y40 : (List Int)) (k : Kont α) : R5 C5.r.r.r.l ⟨[(1, .one (.ref 0 0)), (2, .one (.ref 1 0))], [[di n_.1, dl (.one (.int .i64)) y38, di n_.2.2.1, di n_.2.2.2.1, di n_.2.2.2.2.1, di n_.2.2.2.2.2.1, di n_.2.2.2.2.2.2.1, di n_.2.2.2.2.2.2.2.1, di n_.2.2.2.2.2.2.2.2.1, di n_.2.2.2.2.2.2.2.2.2.1, di n_.2.2.2.2.2.2.2.2.2.2.1, di n_.2.2.2.2.2.2.2.2.2.2.2.1, dl (.one (.int .i8)) y40, dl (.one (.int .i32)) n_.2.2.2.2.2.2.2.2.2.2.2.2.2], [di (0 : Int), dl (.one (.int .i64)) [], di (0 : Int), di (0 : Int), di (0 : Int), di (0 : Int), di (0 : Int), di (0 : Int), di (0 : Int), di (0 : Int), di (0 : Int), di (0 : Int), dl (.one (.int .i8)) [], dl (.one (.int .i32)) []]], [], 28⟩ (Q5 C5.r.r.r.r k) = Option.bind (law15_few_j5_p n_) (fun y42 : (List Int) => R5 C5.r.r.r.r ⟨[(1, .one (.ref 0 0)), (2, .one (.ref 1 0))], [[di n_.1, dl (.one (.int .i64)) y38, di n_.2.2.1, di n_.2.2.2.1, di n_.2.2.2.2.1, di n_.2.2.2.2.2.1, di n_.2.2.2.2.2.2.1, di n_.2.2.2.2.2.2.2.1, di n_.2.2.2.2.2.2.2.2.1, di n_.2.2.2.2.2.2.2.2.2.1, di n_.2.2.2.2.2.2.2.2.2.2.1, di n_.2.2.2.2.2.2.2.2.2.2.2.1, dl (.one (.int .i8)) y40, dl (.one (.int .i32)) y42], [di (0 : Int), dl (.one (.int .i64)) [], di (0 : Int), di (0 : Int), di (0 : Int), di (0 : Int), di (0 : Int), di (0 : Int), di (0 : Int), di (0 : Int), di (0 : Int), di (0 : Int), dl (.one (.int .i8)) [], dl (.one (.int .i32)) []]], [], 28⟩ k) := by
  refine Eq.trans ?_ (law15_few_j5_n n_ _)
  unfold law15_few_j5_q
  refine (pre (n := 1) (c' := C5.r.r.r.l.r) (by kernel_rfl) (by kernel_rfl) (law15_few_f1000006 n_ y38 y40 _)).trans ?_
  refine (cond_eq (b := (decide ((n_.2.2.2.2.2.2.2.2.2.2.2.2.2.length : Int) > (20 : Int)))) (st' := ⟨[(1, .one (.ref 0 0)), (2, .one (.ref 1 0))], [[di n_.1, dl (.one (.int .i64)) y38, di n_.2.2.1, di n_.2.2.2.1, di n_.2.2.2.2.1, di n_.2.2.2.2.2.1, di n_.2.2.2.2.2.2.1, di n_.2.2.2.2.2.2.2.1, di n_.2.2.2.2.2.2.2.2.1, di n_.2.2.2.2.2.2.2.2.2.1, di n_.2.2.2.2.2.2.2.2.2.2.1, di n_.2.2.2.2.2.2.2.2.2.2.2.1, dl (.one (.int .i8)) y40, dl (.one (.int .i32)) n_.2.2.2.2.2.2.2.2.2.2.2.2.2], [di (0 : Int), dl (.one (.int .i64)) [], di (0 : Int), di (0 : Int), di (0 : Int), di (0 : Int), di (0 : Int), di (0 : Int), di (0 : Int), di (0 : Int), di (0 : Int), di (0 : Int), dl (.one (.int .i8)) [], dl (.one (.int .i32)) []]], [], 28⟩) (by kernel_rfl) (by kernel_rfl) (by kernel_rfl)).trans (bif_g ?_ ?_)
  · refine (law15_few_r6 n_ y38 y40 _).trans (bind_g fun y41 => ?_)
    refine (seqC_normal (st' := ⟨[(1, .one (.ref 0 0)), (2, .one (.ref 1 0))], [[di n_.1, dl (.one (.int .i64)) y38, di n_.2.2.1, di n_.2.2.2.1, di n_.2.2.2.2.1, di n_.2.2.2.2.2.1, di n_.2.2.2.2.2.2.1, di n_.2.2.2.2.2.2.2.1, di n_.2.2.2.2.2.2.2.2.1, di n_.2.2.2.2.2.2.2.2.2.1, di n_.2.2.2.2.2.2.2.2.2.2.1, di n_.2.2.2.2.2.2.2.2.2.2.2.1, dl (.one (.int .i8)) y40, dl (.one (.int .i32)) y41], [di (0 : Int), dl (.one (.int .i64)) [], di (0 : Int), di (0 : Int), di (0 : Int), di (0 : Int), di (0 : Int), di (0 : Int), di (0 : Int), di (0 : Int), di (0 : Int), di (0 : Int), dl (.one (.int .i8)) [], dl (.one (.int .i32)) []]], [], 28⟩) (by kernel_rfl)).trans ?_
    kernel_rfl
  · refine (skip_eq (by kernel_rfl)).trans ?_
    refine (seqC_normal (st' := ⟨[(1, .one (.ref 0 0)), (2, .one (.ref 1 0))], [[di n_.1, dl (.one (.int .i64)) y38, di n_.2.2.1, di n_.2.2.2.1, di n_.2.2.2.2.1, di n_.2.2.2.2.2.1, di n_.2.2.2.2.2.2.1, di n_.2.2.2.2.2.2.2.1, di n_.2.2.2.2.2.2.2.2.1, di n_.2.2.2.2.2.2.2.2.2.1, di n_.2.2.2.2.2.2.2.2.2.2.1, di n_.2.2.2.2.2.2.2.2.2.2.2.1, dl (.one (.int .i8)) y40, dl (.one (.int .i32)) n_.2.2.2.2.2.2.2.2.2.2.2.2.2], [di (0 : Int), dl (.one (.int .i64)) [], di (0 : Int), di (0 : Int), di (0 : Int), di (0 : Int), di (0 : Int), di (0 : Int), di (0 : Int), di (0 : Int), di (0 : Int), di (0 : Int), dl (.one (.int .i8)) [], dl (.one (.int .i32)) []]], [], 28⟩) (by kernel_rfl)).trans ?_
    kernel_rfl
theorem law15_few_fz {α : Type} (n_ : Node) (y38 : (List Int)) (y40 : (List Int)) (y42 : (List Int)) (k : St → Option α) : P5 1 C5.r.r.r.r ⟨[(1, .one (.ref 0 0)), (2, .one (.ref 1 0))], [[di n_.1, dl (.one (.int .i64)) y38, di n_.2.2.1, di n_.2.2.2.1, di n_.2.2.2.2.1, di n_.2.2.2.2.2.1, di n_.2.2.2.2.2.2.1, di n_.2.2.2.2.2.2.2.1, di n_.2.2.2.2.2.2.2.2.1, di n_.2.2.2.2.2.2.2.2.2.1, di n_.2.2.2.2.2.2.2.2.2.2.1, di n_.2.2.2.2.2.2.2.2.2.2.2.1, dl (.one (.int .i8)) y40, dl (.one (.int .i32)) y42], [di (0 : Int), dl (.one (.int .i64)) [], di (0 : Int), di (0 : Int), di (0 : Int), di (0 : Int), di (0 : Int), di (0 : Int), di (0 : Int), di (0 : Int), di (0 : Int), di (0 : Int), dl (.one (.int .i8)) [], dl (.one (.int .i32)) []]], [], 28⟩ k = k ⟨[(2, .one (.ref 1 0))], [[], [di n_.1, dl (.one (.int .i64)) y38, di n_.2.2.1, di n_.2.2.2.1, di n_.2.2.2.2.1, di n_.2.2.2.2.2.1, di n_.2.2.2.2.2.2.1, di n_.2.2.2.2.2.2.2.1, di n_.2.2.2.2.2.2.2.2.1, di n_.2.2.2.2.2.2.2.2.2.1, di n_.2.2.2.2.2.2.2.2.2.2.1, di n_.2.2.2.2.2.2.2.2.2.2.2.1, dl (.one (.int .i8)) y40, dl (.one (.int .i32)) y42]], [], 28⟩ := by kernel_rfl
/-- quilt/quiltlaw15.few -/
def law15_few_q {β : Type} (n_ : Node) (K : Node → Option β) : Option β := (Option.bind (law15_few_j1_p n_) (fun y38 : (List Int) => (Option.bind (law15_few_j3_p n_) (fun y40 : (List Int) => (Option.bind (law15_few_j5_p n_) (fun y42 : (List Int) => (K (n_.1, y38, n_.2.2.1, n_.2.2.2.1, n_.2.2.2.2.1, n_.2.2.2.2.2.1, n_.2.2.2.2.2.2.1, n_.2.2.2.2.2.2.2.1, n_.2.2.2.2.2.2.2.2.1, n_.2.2.2.2.2.2.2.2.2.1, n_.2.2.2.2.2.2.2.2.2.2.1, n_.2.2.2.2.2.2.2.2.2.2.2.1, y40, y42))))))))
def law15_few (n_ : Node) : Option Node := law15_few_q n_ some
theorem law15_few_n {β : Type} (n_ : Node) (K : Node → Option β) : law15_few_q n_ K = (law15_few n_).bind K := (bind_b fun y38 => (bind_b fun y40 => (bind_b fun y42 => some_b)))
theorem law15_few_is (n_ : Node) : stepS E cp5 noE 9 [.agg (tsNode.leaves n_)] = Option.bind (law15_few n_) (fun y : Node => some (.agg (tsNode.leaves y) : R)) := by
  refine Eq.trans ?_ (law15_few_n n_ (fun y : Node => some (.agg (tsNode.leaves y) : R)))
  refine (stepG_is (nt := 28) (regs := [(0, .agg (tsNode.leaves n_))]) (by kernel_rfl) (by kernel_rfl)).trans ?_
  unfold law15_few_q
  refine (pre (n := 1) (c' := C5.r) (by kernel_rfl) (by kernel_rfl) (law15_few_f1 n_ _)).trans ?_
  refine (seq_push (by kernel_rfl)).trans ?_
  refine (law15_few_j1 n_ _).trans (bind_g fun y38 => ?_)
  refine (seq_push (by kernel_rfl)).trans ?_
  refine (law15_few_j3 n_ y38 _).trans (bind_g fun y40 => ?_)
  refine (seq_push (by kernel_rfl)).trans ?_
  refine (law15_few_j5 n_ y38 y40 _).trans (bind_g fun y42 => ?_)
  refine (pre (n := 1) (c' := C5.r.r.r.r.r) (by kernel_rfl) (by kernel_rfl) (law15_few_fz n_ y38 y40 y42 _)).trans ?_
  refine (ret_eq (by kernel_rfl)).trans ?_
  kernel_rfl
theorem law15_few_c (x : denL [(.agg tsNode)]) : stepS E cp5 noE 9 (encL [(.agg tsNode)] x) = ((fun x => law15_few x.1) x).bind fun y => some (Po.enc (.one (.agg tsNode)) ((fun y : Node => y) y)) := Eq.mp (by kernel_rfl) (law15_few_is x.1)
noncomputable def cp6 : CallP := withC cp5 9 [(.agg tsNode)] (.one (.agg tsNode)) (fun y : Node => y) (fun x => law15_few x.1)
theorem cp6_ok : PureOK E cp6 := withC_ok cp5_ok (stepS_ok eok cp5_ok noE_ok) fun x => con_of (enc := fun y => Po.enc (.one (.agg tsNode)) ((fun y : Node => y) y)) (law15_few_c x)
noncomputable abbrev C6 : Code := codeOf E.P 10
noncomputable abbrev P6 {α : Type} (n : Nat) (c : Code) (st : St) (k : St → Option α) : Option α := preK E 10 cp6 noE n c st k
noncomputable abbrev R6 {α : Type} (c : Code) (st : St) (k : Kont α) : Option α := runCode E 10 cp6 noE c st k
noncomputable abbrev Q6 {α : Type} (c : Code) (k : Kont α) : Kont α := seqC E 10 cp6 noE c k
theorem law15_some_f1 {α : Type} (l_ : (List I4)) (k : St → Option α) : P6 1 C6 ⟨[(0, rl tsI4 l_)], [], [], 9⟩ k = k ⟨[(0, rl tsI4 l_)], [], [], 9⟩ := by kernel_rfl
theorem law15_some_f1000002 {α : Type} (l_ : (List I4)) (k : St → Option α) : P6 1 C6.r.l ⟨[(0, rl tsI4 l_)], [], [], 9⟩ k = k ⟨[(0, rl tsI4 l_), (5, rb (decide ((l_.length : Int) > (3 : Int))))], [], [], 9⟩ := by kernel_rfl
def law15_some_r2_q {β : Type} (l_ : (List I4)) (K : Unit → Option β) : Option β := (bif (decide ((3 : Int) ≤ (l_.length : Int))) then (K ()) else none)
def law15_some_r2_p (l_ : (List I4)) : Option (Unit) := law15_some_r2_q l_ some
theorem law15_some_r2_n {β : Type} (l_ : (List I4)) (K : Unit → Option β) : law15_some_r2_q l_ K = (law15_some_r2_p l_).bind K := (bif_b some_b none_b)
theorem law15_some_r2 {α : Type} (l_ : (List I4)) (k : St → Option α) : P6 1 C6.r.l.r.t ⟨[(0, rl tsI4 l_)], [], [], 9⟩ k = Option.bind (law15_some_r2_p l_) (fun y45 : Unit => k ⟨[(2, rl tsI4 ((l_.take (Int.toNat (3 : Int))).drop (Int.toNat (0 : Int))))], [], [], 9⟩) := Eq.trans (by kernel_rfl) (law15_some_r2_n l_ _)
theorem law15_some_fz {α : Type} (l_ : (List I4)) (k : St → Option α) : P6 1 C6.r.r ⟨[(0, rl tsI4 l_)], [], [], 9⟩ k = k ⟨[(2, rl tsI4 l_)], [], [], 9⟩ := by kernel_rfl
/-- quilt/quiltlaw15.some -/
def law15_some_q {β : Type} (l_ : (List I4)) (K : (List I4) → Option β) : Option β := (bif (decide ((l_.length : Int) > (3 : Int))) then (Option.bind (law15_some_r2_p l_) (fun y45 : Unit => (K ((l_.take (Int.toNat (3 : Int))).drop (Int.toNat (0 : Int)))))) else (K l_))
def law15_some (l_ : (List I4)) : Option (List I4) := law15_some_q l_ some
theorem law15_some_n {β : Type} (l_ : (List I4)) (K : (List I4) → Option β) : law15_some_q l_ K = (law15_some l_).bind K := (bif_b (bind_b fun y45 => some_b) some_b)
theorem law15_some_is (l_ : (List I4)) : stepS E cp6 noE 10 [rl tsI4 l_] = Option.bind (law15_some l_) (fun y : (List I4) => some (rl tsI4 y : R)) := by
  refine Eq.trans ?_ (law15_some_n l_ (fun y : (List I4) => some (rl tsI4 y : R)))
  refine (stepG_is (nt := 9) (regs := [(0, rl tsI4 l_)]) (by kernel_rfl) (by kernel_rfl)).trans ?_
  unfold law15_some_q
  refine (pre (n := 1) (c' := C6.r) (by kernel_rfl) (by kernel_rfl) (law15_some_f1 l_ _)).trans ?_
  refine (seq_push (by kernel_rfl)).trans ?_
  refine (pre (n := 1) (c' := C6.r.l.r) (by kernel_rfl) (by kernel_rfl) (law15_some_f1000002 l_ _)).trans ?_
  refine (cond_eq (b := (decide ((l_.length : Int) > (3 : Int)))) (st' := ⟨[(0, rl tsI4 l_)], [], [], 9⟩) (by kernel_rfl) (by kernel_rfl) (by kernel_rfl)).trans (bif_g ?_ ?_)
  · refine (pre (n := 1) (c' := C6.r.l.r.t.r) (by kernel_rfl) (by kernel_rfl) (law15_some_r2 l_ _)).trans (bind_g fun y45 => ?_)
    refine (ret_eq (by kernel_rfl)).trans ?_
    refine seqC_ret.trans ?_
    kernel_rfl
  · refine (skip_eq (by kernel_rfl)).trans ?_
    refine (seqC_normal (st' := ⟨[(0, rl tsI4 l_)], [], [], 9⟩) (by kernel_rfl)).trans ?_
    refine (pre (n := 1) (c' := C6.r.r.r) (by kernel_rfl) (by kernel_rfl) (law15_some_fz l_ _)).trans ?_
    refine (ret_eq (by kernel_rfl)).trans ?_
    kernel_rfl
theorem law15_some_c (x : denL [(.one (.g (.sl tsI4)))]) : stepS E cp6 noE 10 (encL [(.one (.g (.sl tsI4)))] x) = ((fun x => law15_some x.1) x).bind fun y => some (Po.enc (.one (.one (.g (.sl tsI4)))) ((fun y : (List I4) => y) y)) := Eq.mp (by kernel_rfl) (law15_some_is x.1)
noncomputable def cp7 : CallP := withC cp6 10 [(.one (.g (.sl tsI4)))] (.one (.one (.g (.sl tsI4)))) (fun y : (List I4) => y) (fun x => law15_some x.1)
theorem cp7_ok : PureOK E cp7 := withC_ok cp6_ok (stepS_ok eok cp6_ok noE_ok) fun x => con_of (enc := fun y => Po.enc (.one (.one (.g (.sl tsI4)))) ((fun y : (List I4) => y) y)) (law15_some_c x)
end Go.V.P
