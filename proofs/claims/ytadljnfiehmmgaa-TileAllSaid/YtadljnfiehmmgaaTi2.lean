/- What functions compute. -/
import Derived.Test.YtadljnfiehmmgaaTi1
namespace Go.V.P
open Go.RowKit Go.V Go.Proofs
set_option linter.unusedVariables false
set_option maxRecDepth 100000
section
variable {α β : Type} (h_ : Int) (rows : Int) (s283 : ((List I2) × Int)) (y286 : ((List I2) × Int)) (k : St → Option α) (q : Kont α)
noncomputable abbrev C37 := codeOf E.P 36
noncomputable abbrev P37 := @preK α E 36 cp37 noE
noncomputable abbrev R37 := @runCode α E 36 cp37 noE
abbrev S37_0 : St := ⟨[(0, ri h_), (1, ri rows)], [], [], 34⟩
theorem halo_Tiles_f1 : P37 1 C37 (S37_0 h_ rows) k = k (S37_0 h_ rows) := by kernel_rfl
def halo_Tiles_r1_q (K : Bool → β) : β := (bif (decide ((min h_ rows) < 1)) then (K true) else (K (decide ((max h_ rows) > 16))))
def halo_Tiles_r1_p : Bool := halo_Tiles_r1_q h_ rows (fun y => y)
theorem halo_Tiles_r1_n (K : Bool → β) : halo_Tiles_r1_q h_ rows K = K (halo_Tiles_r1_p h_ rows) := (bif_k K rfl rfl)
theorem halo_Tiles_r1 : P37 1 C37.r.l (S37_0 h_ rows) k = k ⟨[(0, ri h_), (1, ri rows), (16, rb (halo_Tiles_r1_p h_ rows))], [], [], 34⟩ := Eq.trans (by kernel_rfl) (halo_Tiles_r1_n h_ rows (fun y276 : Bool => k ⟨[(0, ri h_), (1, ri rows), (16, rb y276)], [], [], 34⟩))
theorem halo_Tiles_fz : P37 1 C37.r.l.r.t (S37_0 h_ rows) k = k ⟨[(4, .one (.ow tsI2 [] (.v 4)))], [], [], 34⟩ := by kernel_rfl
abbrev S37_1 : St := ⟨[(0, ri h_), (1, ri rows), (5, .one (.ow tsI2 [] (.v 5)))], [], [], 34⟩
theorem halo_Tiles_f4 : P37 1 C37.r.r (S37_0 h_ rows) k = k (S37_1 h_ rows) := by kernel_rfl
abbrev S37_2 : St := ⟨[(0, ri h_), (1, ri rows), (5, .one (.ow tsI2 [] (.v 5))), (6, ri 0)], [], [], 34⟩
theorem halo_Tiles_f5 : P37 1 C37.r.r.r.l (S37_1 h_ rows) k = k (S37_2 h_ rows) := by kernel_rfl
abbrev S37_3 : St := ⟨[(0, ri h_), (1, ri rows), (5, rO tsI2 s283.1 5), (6, ri s283.2)], [], [], 34⟩
theorem halo_Tiles_fzx1 : P37 1 C37.r.r.r.l.r.b.b.l (S37_3 h_ rows s283) k = k ⟨[(0, ri h_), (1, ri rows), (5, rO tsI2 s283.1 5), (6, ri s283.2), (19, rb (decide (s283.2 < h_)))], [], [], 34⟩ := by kernel_rfl
def halo_Tiles_r7_p : Option Unit := (bif (decide (s283.1.length + ([(s283.2, (min rows (IntKind.wrap .i64 (h_ - s283.2))))] : List I2).length ≤ maxL)) then (some ()) else none)
abbrev S37_4 : St := ⟨[(0, ri h_), (1, ri rows), (5, .one (.ow tsI2 (s283.1 ++ [(s283.2, (min rows (IntKind.wrap .i64 (h_ - s283.2))))]) (.v 5))), (6, ri s283.2)], [], [], 34⟩
theorem halo_Tiles_r7 : R37 C37.r.r.r.l.r.b.b.r.l.b (S37_3 h_ rows s283) q = Option.bind (halo_Tiles_r7_p h_ rows s283) (fun y285 : Unit => q .normal (S37_4 h_ rows s283)) := .trans (by kernel_rfl) (bif_b some_b none_b)
theorem halo_Tiles_r6 : R37 C37.r.r.r.l.r.b.b.r.r (S37_4 h_ rows s283) q = q .normal ⟨[(0, ri h_), (1, ri rows), (5, .one (.ow tsI2 (s283.1 ++ [(s283.2, (min rows (IntKind.wrap .i64 (h_ - s283.2))))]) (.v 5))), (6, ri (IntKind.wrap .i64 (s283.2 + rows)))], [], [], 34⟩ := by kernel_rfl
def halo_Tiles_l5_p : Option (((List I2) × Int) ⊕ ((List I2) × Int)) := (bif (decide (s283.2 < h_)) then (Option.bind (halo_Tiles_r7_p h_ rows s283) (fun y285 : Unit => (some (Sum.inl ((s283.1 ++ [(s283.2, (min rows (IntKind.wrap .i64 (h_ - s283.2))))]), (IntKind.wrap .i64 (s283.2 + rows))))))) else (some (Sum.inr s283)))
abbrev S37_5 : St := ⟨[(0, ri h_), (1, ri rows), (5, rO tsI2 y286.1 5), (6, ri y286.2)], [], [], 34⟩
theorem halo_Tiles_l5_b : R37 C37.r.r.r.l.r.b.b (S37_3 h_ rows s283) (loopKont 0 q) = Option.bind (halo_Tiles_l5_p h_ rows s283) (either (fun y : ((List I2) × Int) => q .normal ⟨[(0, ri h_), (1, ri rows), (5, rO tsI2 y.1 5), (6, ri y.2)], [], [], 34⟩) (fun y286 : ((List I2) × Int) => q (.exit 0) (S37_5 h_ rows y286))) := by
  refine .trans ?_ (bif_b (bind_b fun y285 => e2_0) e2_1)
  refine .trans seq_push ?_
  refine (pre1 (halo_Tiles_fzx1 h_ rows s283 _)).trans ?_
  refine (cond_e (b := (decide (s283.2 < h_))) (st' := (S37_3 h_ rows s283)) ).trans (bif_g ?_ ?_)
  · refine (skip_eq).trans ?_
    refine (seqC_normal (st' := (S37_3 h_ rows s283))).trans ?_
    refine .trans seq_push ?_
    refine (block_push (id := 1)).trans ?_
    refine (halo_Tiles_r7 h_ rows s283 _).trans (bind_g fun y285 => ?_)
    refine block_normal.trans ?_
    refine (seqC_normal (st' := (S37_4 h_ rows s283))).trans ?_
    refine (halo_Tiles_r6 h_ rows s283 _).trans ?_
    kernel_rfl
  · refine ((exit_eq (j := 0))).trans ?_
    refine seqC_exit.trans ?_
    kernel_rfl
theorem halo_Tiles_l5 : R37 C37.r.r.r.l.r.b (S37_2 h_ rows) q = Option.bind (iterN (halo_Tiles_l5_p h_ rows) LL ([], (0 : Int))) (fun y286 : ((List I2) × Int) => q (.exit 0) (S37_5 h_ rows y286)) :=
  Eq.trans (by kernel_rfl) (loop_iter1 (S := fun s283 : ((List I2) × Int) => (S37_3 h_ rows s283)) (Y1 := fun y286 : ((List I2) × Int) => ((.exit 0), (S37_5 h_ rows y286))) (fun s q => halo_Tiles_l5_b h_ rows s q) (fun z => rfl) LL ([], (0 : Int)))
theorem halo_Tiles_fzx2 : P37 1 C37.r.r.r.r ⟨[(5, rO tsI2 y286.1 5)], [], [], 34⟩ k = k ⟨[(4, rO tsI2 y286.1 5)], [], [], 34⟩ := by kernel_rfl
/-- quilt/halo.Tiles -/
def halo_Tiles : Option (List I2) := (bif (halo_Tiles_r1_p h_ rows) then (some []) else (Option.bind (iterN (halo_Tiles_l5_p h_ rows) LL ([], (0 : Int))) (fun y286 : ((List I2) × Int) => (some y286.1))))
theorem halo_Tiles_is : stepO E cp37 noE 36 [ri h_, ri rows] = Option.bind (halo_Tiles h_ rows) (fun y : (List I2) => some (.one (.ow tsI2 y (.s 0)) : R)) := by
  refine .trans ?_ (bif_b some_b (bind_b fun y286 => some_b))
  refine (stepG_is (nt := 34) (regs := [(0, ri h_), (1, ri rows)])).trans ?_
  refine (pre1 (halo_Tiles_f1 h_ rows _)).trans ?_
  refine .trans seq_push ?_
  refine (pre1 (halo_Tiles_r1 h_ rows _)).trans ?_
  refine (cond_e (b := (halo_Tiles_r1_p h_ rows)) (st' := (S37_0 h_ rows)) ).trans (bif_g ?_ ?_)
  · refine (pre1 (halo_Tiles_fz h_ rows _)).trans ?_
    refine (ret_eq).trans ?_
    refine seqC_ret.trans ?_
    kernel_rfl
  · refine (skip_eq).trans ?_
    refine (seqC_normal (st' := (S37_0 h_ rows))).trans ?_
    refine (pre1 (halo_Tiles_f4 h_ rows _)).trans ?_
    refine .trans seq_push ?_
    refine (pre1 (halo_Tiles_f5 h_ rows _)).trans ?_
    refine (block_push (id := 0)).trans ?_
    refine (halo_Tiles_l5 h_ rows _).trans (bind_g fun y286 => ?_)
    refine block_same.trans ?_
    refine (seqC_normal (st' := ⟨[(5, rO tsI2 y286.1 5)], [], [], 34⟩)).trans ?_
    refine (pre1 (halo_Tiles_fzx2 y286 _)).trans ?_
    refine (ret_eq).trans ?_
    kernel_rfl
noncomputable def cp38 : CallP := withC cp37 36 [pI, pI] (.one (.one (.ow tsI2))) (fun y : (List I2) => y) (fun x => halo_Tiles x.1 x.2.1)
theorem cp38_ok : PureOK E cp38 := conO eok cp37_ok noE_ok fun x => Eq.mp (by kernel_rfl) (halo_Tiles_is x.1 x.2.1)
end
section
variable {α β : Type} (first : Int) (rows : Int) (k_ : Int) (stride : Int) (pad : Int) (size : Int) (y296 : Int) (s315 : (Int × Int × Int)) (y320 : (Int × Int × Int)) (k : St → Option α) (q : Kont α)
noncomputable abbrev C38 := codeOf E.P 72
noncomputable abbrev P38 := @preK α E 72 cp38 noE
noncomputable abbrev R38 := @runCode α E 72 cp38 noE
noncomputable abbrev Q38 := @seqC α E 72 cp38 noE
abbrev S38_0 : St := ⟨[(0, ri first), (1, ri rows), (2, ri k_), (3, ri stride), (4, ri pad), (5, ri size)], [], [], 78⟩
theorem shape_Reach_r1 : P38 2 C38 (S38_0 first rows k_ stride pad size) k = Option.bind (shape_Out size k_ stride pad) fun y296 : Int => k ⟨[(0, ri first), (1, ri rows), (2, ri k_), (3, ri stride), (4, ri pad), (5, ri size), (14, ri y296)], [], [], 78⟩ := by kernel_rfl
def shape_Reach_r2_q (K : Bool → β) : β := (bif (decide (first < 0)) then (K true) else (bif (decide (rows < 1)) then (K true) else (bif (decide (first > y296)) then (K true) else (K (decide (rows > (IntKind.wrap .i64 (y296 - first))))))))
def shape_Reach_r2_p : Bool := shape_Reach_r2_q first rows y296 (fun y => y)
theorem shape_Reach_r2_n (K : Bool → β) : shape_Reach_r2_q first rows y296 K = K (shape_Reach_r2_p first rows y296) := (bif_k K rfl (bif_k K rfl (bif_k K rfl rfl)))
theorem shape_Reach_r2 : P38 1 C38.r.r.l ⟨[(0, ri first), (1, ri rows), (2, ri k_), (3, ri stride), (4, ri pad), (5, ri size), (14, ri y296)], [], [], 78⟩ k = k ⟨[(0, ri first), (1, ri rows), (2, ri k_), (3, ri stride), (4, ri pad), (5, ri size), (40, rb (shape_Reach_r2_p first rows y296))], [], [], 78⟩ := Eq.trans (by kernel_rfl) (shape_Reach_r2_n first rows y296 (fun y298 : Bool => k ⟨[(0, ri first), (1, ri rows), (2, ri k_), (3, ri stride), (4, ri pad), (5, ri size), (40, rb y298)], [], [], 78⟩))
abbrev S38_1 : St := ⟨[(12, ri 0), (13, ri 0)], [], [], 78⟩
theorem shape_Reach_fz : P38 1 C38.r.r.l.r.t (S38_0 first rows k_ stride pad size) k = k S38_1 := by kernel_rfl
abbrev S38_2 : St := ⟨[(0, ri first), (1, ri rows), (2, ri k_), (3, ri stride), (4, ri pad), (5, ri size), (12, ri size), (13, ri 0)], [], [], 78⟩
theorem shape_Reach_f5 : P38 1 C38.r.r.r (S38_0 first rows k_ stride pad size) k = k (S38_2 first rows k_ stride pad size) := by kernel_rfl
abbrev S38_3 : St := ⟨[(0, ri first), (1, ri rows), (2, ri k_), (3, ri stride), (4, ri pad), (5, ri size), (12, ri size), (13, ri 0), (15, ri first)], [], [], 78⟩
theorem shape_Reach_f6 : P38 1 C38.r.r.r.r.l (S38_2 first rows k_ stride pad size) k = k (S38_3 first rows k_ stride pad size) := by kernel_rfl
abbrev S38_4 : St := ⟨[(0, ri first), (1, ri rows), (2, ri k_), (3, ri stride), (4, ri pad), (5, ri size), (12, ri s315.1), (13, ri s315.2.1), (15, ri s315.2.2)], [], [], 78⟩
theorem shape_Reach_fzx1 : P38 1 C38.r.r.r.r.l.r.b.b.l (S38_4 first rows k_ stride pad size s315) k = k ⟨[(0, ri first), (1, ri rows), (2, ri k_), (3, ri stride), (4, ri pad), (5, ri size), (12, ri s315.1), (13, ri s315.2.1), (15, ri s315.2.2), (47, rb (decide (s315.2.2 < (IntKind.wrap .i64 (first + rows)))))], [], [], 78⟩ := by kernel_rfl
def shape_Reach_r8_q (K : Int → β) : β := (K (min size (IntKind.wrap .i64 ((IntKind.wrap .i64 ((IntKind.wrap .i64 (s315.2.2 * stride)) - pad)) + k_))))
def shape_Reach_r8_p : Int := shape_Reach_r8_q k_ stride pad size s315 (fun y => y)
theorem shape_Reach_r8_n (K : Int → β) : shape_Reach_r8_q k_ stride pad size s315 K = K (shape_Reach_r8_p k_ stride pad size s315) := rfl
abbrev S38_5 : St := ⟨[(0, ri first), (1, ri rows), (2, ri k_), (3, ri stride), (4, ri pad), (5, ri size), (12, ri s315.1), (13, ri s315.2.1), (15, ri s315.2.2), (16, ri (max (0 : Int) (IntKind.wrap .i64 ((IntKind.wrap .i64 (s315.2.2 * stride)) - pad)))), (17, ri (shape_Reach_r8_p k_ stride pad size s315))], [], [], 78⟩
theorem shape_Reach_r8 : P38 1 C38.r.r.r.r.l.r.b.b.r.l.b (S38_4 first rows k_ stride pad size s315) k = k (S38_5 first rows k_ stride pad size s315) := Eq.trans (by kernel_rfl) (shape_Reach_r8_n k_ stride pad size s315 (fun y316 : Int => k ⟨[(0, ri first), (1, ri rows), (2, ri k_), (3, ri stride), (4, ri pad), (5, ri size), (12, ri s315.1), (13, ri s315.2.1), (15, ri s315.2.2), (16, ri (max (0 : Int) (IntKind.wrap .i64 ((IntKind.wrap .i64 (s315.2.2 * stride)) - pad)))), (17, ri y316)], [], [], 78⟩))
def shape_Reach_r9_q (K : Bool → β) : β := (K (decide ((max (0 : Int) (IntKind.wrap .i64 ((IntKind.wrap .i64 (s315.2.2 * stride)) - pad))) < (shape_Reach_r8_p k_ stride pad size s315))))
def shape_Reach_r9_p : Bool := shape_Reach_r9_q k_ stride pad size s315 (fun y => y)
theorem shape_Reach_r9_n (K : Bool → β) : shape_Reach_r9_q k_ stride pad size s315 K = K (shape_Reach_r9_p k_ stride pad size s315) := rfl
theorem shape_Reach_r9 : P38 1 C38.r.r.r.r.l.r.b.b.r.l.b.r (S38_5 first rows k_ stride pad size s315) k = k ⟨[(0, ri first), (1, ri rows), (2, ri k_), (3, ri stride), (4, ri pad), (5, ri size), (12, ri s315.1), (13, ri s315.2.1), (15, ri s315.2.2), (16, ri (max (0 : Int) (IntKind.wrap .i64 ((IntKind.wrap .i64 (s315.2.2 * stride)) - pad)))), (17, ri (shape_Reach_r8_p k_ stride pad size s315)), (67, rb (shape_Reach_r9_p k_ stride pad size s315))], [], [], 78⟩ := Eq.trans (by kernel_rfl) (shape_Reach_r9_n k_ stride pad size s315 (fun y317 : Bool => k ⟨[(0, ri first), (1, ri rows), (2, ri k_), (3, ri stride), (4, ri pad), (5, ri size), (12, ri s315.1), (13, ri s315.2.1), (15, ri s315.2.2), (16, ri (max (0 : Int) (IntKind.wrap .i64 ((IntKind.wrap .i64 (s315.2.2 * stride)) - pad)))), (17, ri (shape_Reach_r8_p k_ stride pad size s315)), (67, rb y317)], [], [], 78⟩))
def shape_Reach_r10_q (K : Int → β) : β := (K (min s315.1 (max (0 : Int) (IntKind.wrap .i64 ((IntKind.wrap .i64 (s315.2.2 * stride)) - pad)))))
def shape_Reach_r10_p : Int := shape_Reach_r10_q stride pad s315 (fun y => y)
theorem shape_Reach_r10_n (K : Int → β) : shape_Reach_r10_q stride pad s315 K = K (shape_Reach_r10_p stride pad s315) := rfl
abbrev S38_6 : St := ⟨[(0, ri first), (1, ri rows), (2, ri k_), (3, ri stride), (4, ri pad), (5, ri size), (12, ri (shape_Reach_r10_p stride pad s315)), (13, ri (max s315.2.1 (shape_Reach_r8_p k_ stride pad size s315))), (15, ri s315.2.2)], [], [], 78⟩
theorem shape_Reach_r10 : R38 C38.r.r.r.r.l.r.b.b.r.l.b.r.r.t (S38_5 first rows k_ stride pad size s315) q = q .normal (S38_6 first rows k_ stride pad size s315) := Eq.trans (by kernel_rfl) (shape_Reach_r10_n stride pad s315 (fun y318 : Int => q .normal ⟨[(0, ri first), (1, ri rows), (2, ri k_), (3, ri stride), (4, ri pad), (5, ri size), (12, ri y318), (13, ri (max s315.2.1 (shape_Reach_r8_p k_ stride pad size s315))), (15, ri s315.2.2)], [], [], 78⟩))
def shape_Reach_j8_q (K : (Int × Int) → β) : β := (bif (shape_Reach_r9_p k_ stride pad size s315) then (K ((shape_Reach_r10_p stride pad s315), (max s315.2.1 (shape_Reach_r8_p k_ stride pad size s315)))) else (K (s315.1, s315.2.1)))
def shape_Reach_j8_p : (Int × Int) := shape_Reach_j8_q k_ stride pad size s315 (fun y => y)
theorem shape_Reach_j8_n (K : (Int × Int) → β) : shape_Reach_j8_q k_ stride pad size s315 K = K (shape_Reach_j8_p k_ stride pad size s315) := (bif_k K rfl rfl)
abbrev S38_7 : St := ⟨[(0, ri first), (1, ri rows), (2, ri k_), (3, ri stride), (4, ri pad), (5, ri size), (12, ri ((shape_Reach_j8_p k_ stride pad size s315).1)), (13, ri ((shape_Reach_j8_p k_ stride pad size s315).2)), (15, ri s315.2.2)], [], [], 78⟩
theorem shape_Reach_j8 : R38 C38.r.r.r.r.l.r.b.b.r.l (S38_4 first rows k_ stride pad size s315) (Q38 C38.r.r.r.r.l.r.b.b.r.r q) = R38 C38.r.r.r.r.l.r.b.b.r.r (S38_7 first rows k_ stride pad size s315) q := by
  refine Eq.trans ?_ (shape_Reach_j8_n k_ stride pad size s315 (fun y319 : (Int × Int) => R38 C38.r.r.r.r.l.r.b.b.r.r ⟨[(0, ri first), (1, ri rows), (2, ri k_), (3, ri stride), (4, ri pad), (5, ri size), (12, ri y319.1), (13, ri y319.2), (15, ri s315.2.2)], [], [], 78⟩ q))
  unfold shape_Reach_j8_q
  refine (block_push (id := 1)).trans ?_
  refine (pre1 (shape_Reach_r8 first rows k_ stride pad size s315 _)).trans ?_
  refine (pre1 (shape_Reach_r9 first rows k_ stride pad size s315 _)).trans ?_
  refine (cond_e (b := (shape_Reach_r9_p k_ stride pad size s315)) (st' := (S38_5 first rows k_ stride pad size s315)) ).trans (bif_g ?_ ?_)
  · refine (shape_Reach_r10 first rows k_ stride pad size s315 _).trans ?_
    refine block_normal.trans ?_
    refine (seqC_normal (st' := (S38_6 first rows k_ stride pad size s315))).trans ?_
    kernel_rfl
  · refine (skip_eq).trans ?_
    refine block_normal.trans ?_
    refine (seqC_normal (st' := (S38_4 first rows k_ stride pad size s315))).trans ?_
    kernel_rfl
theorem shape_Reach_r7 : R38 C38.r.r.r.r.l.r.b.b.r.r (S38_7 first rows k_ stride pad size s315) q = q .normal ⟨[(0, ri first), (1, ri rows), (2, ri k_), (3, ri stride), (4, ri pad), (5, ri size), (12, ri ((shape_Reach_j8_p k_ stride pad size s315).1)), (13, ri ((shape_Reach_j8_p k_ stride pad size s315).2)), (15, ri (IntKind.wrap .i64 (s315.2.2 + 1)))], [], [], 78⟩ := by kernel_rfl
def shape_Reach_l6_p : Option ((Int × Int × Int) ⊕ (Int × Int × Int)) := (bif (decide (s315.2.2 < (IntKind.wrap .i64 (first + rows)))) then (some (Sum.inl ((shape_Reach_j8_p k_ stride pad size s315).1, (shape_Reach_j8_p k_ stride pad size s315).2, (IntKind.wrap .i64 (s315.2.2 + 1))))) else (some (Sum.inr s315)))
abbrev S38_8 : St := ⟨[(0, ri first), (1, ri rows), (2, ri k_), (3, ri stride), (4, ri pad), (5, ri size), (12, ri y320.1), (13, ri y320.2.1), (15, ri y320.2.2)], [], [], 78⟩
theorem shape_Reach_l6_b : R38 C38.r.r.r.r.l.r.b.b (S38_4 first rows k_ stride pad size s315) (loopKont 0 q) = Option.bind (shape_Reach_l6_p first rows k_ stride pad size s315) (either (fun y : (Int × Int × Int) => q .normal ⟨[(0, ri first), (1, ri rows), (2, ri k_), (3, ri stride), (4, ri pad), (5, ri size), (12, ri y.1), (13, ri y.2.1), (15, ri y.2.2)], [], [], 78⟩) (fun y320 : (Int × Int × Int) => q (.exit 0) (S38_8 first rows k_ stride pad size y320))) := by
  refine .trans ?_ (bif_b e2_0 e2_1)
  refine .trans seq_push ?_
  refine (pre1 (shape_Reach_fzx1 first rows k_ stride pad size s315 _)).trans ?_
  refine (cond_e (b := (decide (s315.2.2 < (IntKind.wrap .i64 (first + rows))))) (st' := (S38_4 first rows k_ stride pad size s315)) ).trans (bif_g ?_ ?_)
  · refine (skip_eq).trans ?_
    refine (seqC_normal (st' := (S38_4 first rows k_ stride pad size s315))).trans ?_
    refine .trans seq_push ?_
    refine (shape_Reach_j8 first rows k_ stride pad size s315 _).trans ?_
    refine (shape_Reach_r7 first rows k_ stride pad size s315 _).trans ?_
    kernel_rfl
  · refine ((exit_eq (j := 0))).trans ?_
    refine seqC_exit.trans ?_
    kernel_rfl
theorem shape_Reach_l6 : R38 C38.r.r.r.r.l.r.b (S38_3 first rows k_ stride pad size) q = Option.bind (iterN (shape_Reach_l6_p first rows k_ stride pad size) LL (size, (0 : Int), first)) (fun y320 : (Int × Int × Int) => q (.exit 0) (S38_8 first rows k_ stride pad size y320)) :=
  Eq.trans (by kernel_rfl) (loop_iter1 (S := fun s315 : (Int × Int × Int) => (S38_4 first rows k_ stride pad size s315)) (Y1 := fun y320 : (Int × Int × Int) => ((.exit 0), (S38_8 first rows k_ stride pad size y320))) (fun s q => shape_Reach_l6_b first rows k_ stride pad size s q) (fun z => rfl) LL (size, (0 : Int), first))
abbrev S38_9 : St := ⟨[(12, ri y320.1), (13, ri y320.2.1)], [], [], 78⟩
theorem shape_Reach_f1000012 : P38 1 C38.r.r.r.r.r.l (S38_9 y320) k = k ⟨[(12, ri y320.1), (13, ri y320.2.1), (75, rb (y320.2.1 == 0))], [], [], 78⟩ := by kernel_rfl
theorem shape_Reach_fzx2 : P38 1 C38.r.r.r.r.r.l.r.t (S38_9 y320) k = k S38_1 := by kernel_rfl
theorem shape_Reach_fzx3 : P38 1 C38.r.r.r.r.r.r (S38_9 y320) k = k (S38_9 y320) := by kernel_rfl
/-- quilt/shape.Reach -/
def shape_Reach : Option (Int × Int) := (Option.bind (shape_Out size k_ stride pad) (fun y296 : Int => (bif (shape_Reach_r2_p first rows y296) then (some ((0 : Int), (0 : Int))) else (Option.bind (iterN (shape_Reach_l6_p first rows k_ stride pad size) LL (size, (0 : Int), first)) (fun y320 : (Int × Int × Int) => (bif (y320.2.1 == 0) then (some ((0 : Int), (0 : Int))) else (some (y320.1, y320.2.1))))))))
theorem shape_Reach_is : stepS E cp38 noE 72 [ri first, ri rows, ri k_, ri stride, ri pad, ri size] = Option.bind (shape_Reach first rows k_ stride pad size) (fun y : (Int × Int) => some (.tup [ri y.1, ri y.2] : R)) := by
  refine .trans ?_ (bind_b fun y296 => (bif_b some_b (bind_b fun y320 => (bif_b some_b some_b))))
  refine (stepG_is (nt := 78) (regs := [(0, ri first), (1, ri rows), (2, ri k_), (3, ri stride), (4, ri pad), (5, ri size)])).trans ?_
  refine (pre2 (shape_Reach_r1 first rows k_ stride pad size _)).trans (bind_g fun y296 => ?_)
  refine .trans seq_push ?_
  refine (pre1 (shape_Reach_r2 first rows k_ stride pad size y296 _)).trans ?_
  refine (cond_e (b := (shape_Reach_r2_p first rows y296)) (st' := (S38_0 first rows k_ stride pad size)) ).trans (bif_g ?_ ?_)
  · refine (pre1 (shape_Reach_fz first rows k_ stride pad size _)).trans ?_
    refine (ret_eq).trans ?_
    refine seqC_ret.trans ?_
    kernel_rfl
  · refine (skip_eq).trans ?_
    refine (seqC_normal (st' := (S38_0 first rows k_ stride pad size))).trans ?_
    refine (pre1 (shape_Reach_f5 first rows k_ stride pad size _)).trans ?_
    refine .trans seq_push ?_
    refine (pre1 (shape_Reach_f6 first rows k_ stride pad size _)).trans ?_
    refine (block_push (id := 0)).trans ?_
    refine (shape_Reach_l6 first rows k_ stride pad size _).trans (bind_g fun y320 => ?_)
    refine block_same.trans ?_
    refine (seqC_normal (st' := (S38_9 y320))).trans ?_
    refine .trans seq_push ?_
    refine (pre1 (shape_Reach_f1000012 y320 _)).trans ?_
    refine (cond_e (b := (y320.2.1 == 0)) (st' := (S38_9 y320)) ).trans (bif_g ?_ ?_)
    · refine (pre1 (shape_Reach_fzx2 y320 _)).trans ?_
      refine (ret_eq).trans ?_
      refine seqC_ret.trans ?_
      kernel_rfl
    · refine (skip_eq).trans ?_
      refine (seqC_normal (st' := (S38_9 y320))).trans ?_
      refine (pre1 (shape_Reach_fzx3 y320 _)).trans ?_
      refine (ret_eq).trans ?_
      kernel_rfl
noncomputable def cp39 : CallP := withC cp38 72 [pI, pI, pI, pI, pI, pI] (.tup [pI, pI]) (fun y : (Int × Int) => (y.1, y.2, ())) (fun x => shape_Reach x.1 x.2.1 x.2.2.1 x.2.2.2.1 x.2.2.2.2.1 x.2.2.2.2.2.1)
theorem cp39_ok : PureOK E cp39 := conS eok cp38_ok noE_ok fun x => Eq.mp (by kernel_rfl) (shape_Reach_is x.1 x.2.1 x.2.2.1 x.2.2.2.1 x.2.2.2.2.1 x.2.2.2.2.2.1)
end
section
variable {α β : Type} (n_ : Node) (in_ : (List I4)) (first : Int) (rows : Int) (y290 : (I4 × Int)) (s366 : (Int × Int × Int × Int × Int)) (y376 : (Int × Int × Int × Int)) (y377 : (Int × Int × Int × Int × Int)) (k : St → Option α) (q : Kont α)
noncomputable abbrev C39 := codeOf E.P 50
noncomputable abbrev P39 := @preK α E 50 cp39 noE
noncomputable abbrev R39 := @runCode α E 50 cp39 noE
noncomputable abbrev Q39 := @seqC α E 50 cp39 noE
abbrev S39_0 : St := ⟨[(1, rl tsI4 in_), (2, ri first), (3, ri rows), (4, rC tsNode n_), (8, rF 0), (9, ri y290.2), (10, rF 1)], [[di 0, di 0, di 0, di 0], (tsI4.leaves y290.1)], [], 116⟩
theorem kern_Needs_r1 : P39 2 C39 ⟨[(0, rA tsNode n_), (1, rl tsI4 in_), (2, ri first), (3, ri rows)], [], [], 116⟩ k = Option.bind (graph_Value n_ in_) fun y290 : (I4 × Int) => k (S39_0 n_ in_ first rows y290) := by kernel_rfl
theorem kern_Needs_f1000003 : P39 1 C39.r.r.l.b (S39_0 n_ in_ first rows y290) k = k ⟨[(1, rl tsI4 in_), (2, ri first), (3, ri rows), (4, rC tsNode n_), (8, rF 0), (9, ri y290.2), (10, rF 1), (19, rb (y290.2 != 0))], [[di 0, di 0, di 0, di 0], (tsI4.leaves y290.1)], [], 116⟩ := by kernel_rfl
theorem kern_Needs_fz : P39 1 C39.r.r.l.b.r.t (S39_0 n_ in_ first rows y290) k = k ⟨[(8, rF 0), (9, ri y290.2)], [[di 0, di 0, di 0, di 0], []], [], 116⟩ := by kernel_rfl
def kern_Needs_r4_q (K : Bool → β) : β := (bif (decide (first < 0)) then (K true) else (bif (decide (rows < 1)) then (K true) else (bif (decide (first > y290.1.1)) then (K true) else (K (decide (rows > (IntKind.wrap .i64 (y290.1.1 - first))))))))
def kern_Needs_r4_p : Bool := kern_Needs_r4_q first rows y290 (fun y => y)
theorem kern_Needs_r4_n (K : Bool → β) : kern_Needs_r4_q first rows y290 K = K (kern_Needs_r4_p first rows y290) := (bif_k K rfl (bif_k K rfl (bif_k K rfl rfl)))
theorem kern_Needs_r4 : P39 1 C39.r.r.l.b.r.e (S39_0 n_ in_ first rows y290) k = k ⟨[(1, rl tsI4 in_), (2, ri first), (3, ri rows), (4, rC tsNode n_), (8, rF 0), (24, rb (kern_Needs_r4_p first rows y290))], [[di 0, di 0, di 0, di 0], []], [], 116⟩ := Eq.trans (by kernel_rfl) (kern_Needs_r4_n first rows y290 (fun y292 : Bool => k ⟨[(1, rl tsI4 in_), (2, ri first), (3, ri rows), (4, rC tsNode n_), (8, rF 0), (24, rb y292)], [[di 0, di 0, di 0, di 0], []], [], 116⟩))
abbrev S39_1 : St := ⟨[(1, rl tsI4 in_), (2, ri first), (3, ri rows), (4, rC tsNode n_), (8, rF 0)], [[di 0, di 0, di 0, di 0], []], [], 116⟩
theorem kern_Needs_fzx1 : P39 1 C39.r.r.l.b.r.e.r.t (S39_1 n_ in_ first rows) k = k ⟨[(8, rF 0), (9, ri 1)], [[di 0, di 0, di 0, di 0], []], [], 116⟩ := by kernel_rfl
abbrev S39_2 : St := ⟨[(1, rl tsI4 in_), (2, ri first), (3, ri rows), (4, rC tsNode n_), (8, rF 0), (49, ri (in_.length : Int)), (50, ri 0)], [[di 0, di 0, di 0, di 0], []], [], 116⟩
theorem kern_Needs_f7 : P39 1 C39.r.r.r.l (S39_1 n_ in_ first rows) k = k (S39_2 n_ in_ first rows) := by kernel_rfl
abbrev S39_3 : St := ⟨[(1, rl tsI4 in_), (2, ri first), (3, ri rows), (4, rC tsNode n_), (8, rF 0), (49, ri (in_.length : Int)), (50, ri s366.1)], [(tsI4.leaves s366.2), []], [], 116⟩
theorem kern_Needs_fzx2 : P39 1 C39.r.r.r.l.r.b.b (S39_3 n_ in_ first rows s366) k = k ⟨[(1, rl tsI4 in_), (2, ri first), (3, ri rows), (4, rC tsNode n_), (8, rF 0), (49, ri (in_.length : Int)), (50, ri s366.1), (51, rb (decide (s366.1 < (in_.length : Int))))], [(tsI4.leaves s366.2), []], [], 116⟩ := by kernel_rfl
def kern_Needs_r9_p : Option Unit := (bif (decide ((0 : Int) ≤ s366.1)) then (bif (decide (s366.1 < (in_.length : Int))) then (some ()) else none) else none)
abbrev S39_4 : St := ⟨[(1, rl tsI4 in_), (2, ri first), (3, ri rows), (4, rC tsNode n_), (8, rF 0), (11, ri s366.1), (12, ri ((gt in_ s366.1 dI4).1)), (49, ri (in_.length : Int)), (50, ri s366.1)], [(tsI4.leaves s366.2), []], [], 116⟩
theorem kern_Needs_r9 : P39 2 C39.r.r.r.l.r.b.b.r.r.l.b (S39_3 n_ in_ first rows s366) k = Option.bind (kern_Needs_r9_p in_ s366) (fun y367 : Unit => k (S39_4 n_ in_ first rows s366)) := .trans (by kernel_rfl) (bif_b (bif_b some_b none_b) none_b)
abbrev S39_5 : St := ⟨[(1, rl tsI4 in_), (2, ri first), (3, ri rows), (4, rC tsNode n_), (8, rF 0), (11, ri s366.1), (12, ri ((gt in_ s366.1 dI4).1)), (49, ri (in_.length : Int)), (50, ri s366.1), (60, ri n_.1)], [(tsI4.leaves s366.2), []], [], 116⟩
theorem kern_Needs_f12 : P39 1 C39.r.r.r.l.r.b.b.r.r.l.b.r.r (S39_4 n_ in_ first rows s366) k = k (S39_5 n_ in_ first rows s366) := by kernel_rfl
abbrev S39_6 : St := ⟨[(1, rl tsI4 in_), (2, ri first), (3, ri rows), (4, rC tsNode n_), (8, rF 0), (11, ri s366.1), (12, ri ((gt in_ s366.1 dI4).1)), (49, ri (in_.length : Int)), (50, ri s366.1), (60, ri n_.1), (68, rb (n_.1 == 1))], [(tsI4.leaves s366.2), []], [], 116⟩
theorem kern_Needs_f2000013 : P39 1 C39.r.r.r.l.r.b.b.r.r.l.b.r.r.r.b.l (S39_5 n_ in_ first rows s366) k = k (S39_6 n_ in_ first rows s366) := by kernel_rfl
abbrev S39_7 : St := ⟨[(1, rl tsI4 in_), (2, ri first), (3, ri rows), (4, rC tsNode n_), (8, rF 0), (11, ri s366.1), (12, ri ((gt in_ s366.1 dI4).1)), (49, ri (in_.length : Int)), (50, ri s366.1), (60, ri n_.1), (68, rb (n_.1 == 2))], [(tsI4.leaves s366.2), []], [], 116⟩
theorem kern_Needs_f2000014 : P39 1 C39.r.r.r.l.r.b.b.r.r.l.b.r.r.r.b.l.r.e (S39_6 n_ in_ first rows s366) k = k (S39_7 n_ in_ first rows s366) := by kernel_rfl
abbrev S39_8 : St := ⟨[(1, rl tsI4 in_), (2, ri first), (3, ri rows), (4, rC tsNode n_), (8, rF 0), (11, ri s366.1), (12, ri ((gt in_ s366.1 dI4).1)), (49, ri (in_.length : Int)), (50, ri s366.1), (60, ri n_.1), (68, rb (n_.1 == 4))], [(tsI4.leaves s366.2), []], [], 116⟩
theorem kern_Needs_f2000015 : P39 1 C39.r.r.r.l.r.b.b.r.r.l.b.r.r.r.b.l.r.e.r.e (S39_7 n_ in_ first rows s366) k = k (S39_8 n_ in_ first rows s366) := by kernel_rfl
abbrev S39_9 : St := ⟨[(1, rl tsI4 in_), (2, ri first), (3, ri rows), (4, rC tsNode n_), (8, rF 0), (11, ri s366.1), (12, ri ((gt in_ s366.1 dI4).1)), (49, ri (in_.length : Int)), (50, ri s366.1), (60, ri n_.1), (68, rb (n_.1 == 5))], [(tsI4.leaves s366.2), []], [], 116⟩
theorem kern_Needs_r15 : R39 C39.r.r.r.l.r.b.b.r.r.l.b.r.r.r.b.l.r.e.r.e.r.e (S39_8 n_ in_ first rows s366) q = q .normal (S39_9 n_ in_ first rows s366) := by kernel_rfl
def kern_Needs_j12_q (K : Bool → β) : β := (bif (n_.1 == 1) then (K (n_.1 == 1)) else (bif (n_.1 == 2) then (K (n_.1 == 2)) else (bif (n_.1 == 4) then (K (n_.1 == 4)) else (K (n_.1 == 5)))))
def kern_Needs_j12_p : Bool := kern_Needs_j12_q n_ (fun y => y)
theorem kern_Needs_j12_n (K : Bool → β) : kern_Needs_j12_q n_ K = K (kern_Needs_j12_p n_) := (bif_k K rfl (bif_k K rfl (bif_k K rfl rfl)))
abbrev S39_10 : St := ⟨[(1, rl tsI4 in_), (2, ri first), (3, ri rows), (4, rC tsNode n_), (8, rF 0), (11, ri s366.1), (12, ri ((gt in_ s366.1 dI4).1)), (49, ri (in_.length : Int)), (50, ri s366.1), (60, ri n_.1), (68, rb (kern_Needs_j12_p n_))], [(tsI4.leaves s366.2), []], [], 116⟩
theorem kern_Needs_j12 : R39 C39.r.r.r.l.r.b.b.r.r.l.b.r.r.r.b.l (S39_5 n_ in_ first rows s366) (Q39 C39.r.r.r.l.r.b.b.r.r.l.b.r.r.r.b.r q) = R39 C39.r.r.r.l.r.b.b.r.r.l.b.r.r.r.b.r (S39_10 n_ in_ first rows s366) q := by
  refine Eq.trans ?_ (kern_Needs_j12_n n_ (fun y368 : Bool => R39 C39.r.r.r.l.r.b.b.r.r.l.b.r.r.r.b.r ⟨[(1, rl tsI4 in_), (2, ri first), (3, ri rows), (4, rC tsNode n_), (8, rF 0), (11, ri s366.1), (12, ri ((gt in_ s366.1 dI4).1)), (49, ri (in_.length : Int)), (50, ri s366.1), (60, ri n_.1), (68, rb y368)], [(tsI4.leaves s366.2), []], [], 116⟩ q))
  unfold kern_Needs_j12_q
  refine (pre1 (kern_Needs_f2000013 n_ in_ first rows s366 _)).trans ?_
  refine (cond_s (b := (n_.1 == 1)) ).trans (bif_g ?_ ?_)
  · refine (skip_eq).trans ?_
    refine (seqC_normal (st' := (S39_6 n_ in_ first rows s366))).trans ?_
    kernel_rfl
  · refine (pre1 (kern_Needs_f2000014 n_ in_ first rows s366 _)).trans ?_
    refine (cond_s (b := (n_.1 == 2)) ).trans (bif_g ?_ ?_)
    · refine (skip_eq).trans ?_
      refine (seqC_normal (st' := (S39_7 n_ in_ first rows s366))).trans ?_
      kernel_rfl
    · refine (pre1 (kern_Needs_f2000015 n_ in_ first rows s366 _)).trans ?_
      refine (cond_s (b := (n_.1 == 4)) ).trans (bif_g ?_ ?_)
      · refine (skip_eq).trans ?_
        refine (seqC_normal (st' := (S39_8 n_ in_ first rows s366))).trans ?_
        kernel_rfl
      · refine (kern_Needs_r15 n_ in_ first rows s366 _).trans ?_
        refine (seqC_normal (st' := (S39_9 n_ in_ first rows s366))).trans ?_
        kernel_rfl
def kern_Needs_r16_p : Option (Int × Int × Int × Int) := (Option.bind (shape_Reach first rows n_.2.2.1 n_.2.2.2.1 n_.2.2.2.2.1 ((gt in_ s366.1 dI4).1)) (fun y369 : (Int × Int) => (bif (s366.1 == 0) then (bif (s366.1 == 0) then (some (y369.1, y369.2, s366.2.2.2.1, s366.2.2.2.2)) else (bif (s366.1 == 1) then (some (y369.1, s366.2.2.1, s366.2.2.2.1, y369.2)) else none)) else (bif (s366.1 == 1) then (bif (s366.1 == 0) then (some (s366.2.1, y369.2, y369.1, s366.2.2.2.2)) else (bif (s366.1 == 1) then (some (s366.2.1, s366.2.2.1, y369.1, y369.2)) else none)) else none))))
abbrev S39_11 (y370 : (Int × Int × Int × Int)) : St := ⟨[(1, rl tsI4 in_), (2, ri first), (3, ri rows), (4, rC tsNode n_), (8, rF 0), (49, ri (in_.length : Int)), (50, ri s366.1)], [(tsI4.leaves y370), []], [], 116⟩
theorem kern_Needs_r16 : R39 C39.r.r.r.l.r.b.b.r.r.l.b.r.r.r.b.r.t (S39_10 n_ in_ first rows s366) q = Option.bind (kern_Needs_r16_p n_ in_ first rows s366) (fun y370 : (Int × Int × Int × Int) => q .normal (S39_11 n_ in_ first rows s366 y370)) := .trans (by kernel_rfl) (bind_b fun y369 => (bif_b (bif_b some_b (bif_b some_b none_b)) (bif_b (bif_b some_b (bif_b some_b none_b)) none_b)))
theorem kern_Needs_f1000018 : P39 1 C39.r.r.r.l.r.b.b.r.r.l.b.r.r.r.b.r.e (S39_10 n_ in_ first rows s366) k = k ⟨[(1, rl tsI4 in_), (2, ri first), (3, ri rows), (4, rC tsNode n_), (8, rF 0), (11, ri s366.1), (12, ri ((gt in_ s366.1 dI4).1)), (49, ri (in_.length : Int)), (50, ri s366.1), (60, ri n_.1), (92, rb (n_.1 == 9))], [(tsI4.leaves s366.2), []], [], 116⟩ := by kernel_rfl
def kern_Needs_r18_p : Option (Int × Int × Int × Int) := (Option.bind (shape_Reach first rows (1 : Int) (1 : Int) (1 : Int) ((gt in_ s366.1 dI4).1)) (fun y371 : (Int × Int) => (bif (s366.1 == 0) then (bif (s366.1 == 0) then (some (y371.1, y371.2, s366.2.2.2.1, s366.2.2.2.2)) else (bif (s366.1 == 1) then (some (y371.1, s366.2.2.1, s366.2.2.2.1, y371.2)) else none)) else (bif (s366.1 == 1) then (bif (s366.1 == 0) then (some (s366.2.1, y371.2, y371.1, s366.2.2.2.2)) else (bif (s366.1 == 1) then (some (s366.2.1, s366.2.2.1, y371.1, y371.2)) else none)) else none))))
abbrev S39_12 (y372 : (Int × Int × Int × Int)) : St := ⟨[(1, rl tsI4 in_), (2, ri first), (3, ri rows), (4, rC tsNode n_), (8, rF 0), (49, ri (in_.length : Int)), (50, ri s366.1)], [(tsI4.leaves y372), []], [], 116⟩
theorem kern_Needs_r18 : R39 C39.r.r.r.l.r.b.b.r.r.l.b.r.r.r.b.r.e.r.t (S39_5 n_ in_ first rows s366) q = Option.bind (kern_Needs_r18_p in_ first rows s366) (fun y372 : (Int × Int × Int × Int) => q .normal (S39_12 n_ in_ first rows s366 y372)) := .trans (by kernel_rfl) (bind_b fun y371 => (bif_b (bif_b some_b (bif_b some_b none_b)) (bif_b (bif_b some_b (bif_b some_b none_b)) none_b)))
abbrev S39_13 : St := ⟨[(1, rl tsI4 in_), (2, ri first), (3, ri rows), (4, rC tsNode n_), (8, rF 0), (11, ri s366.1), (12, ri ((gt in_ s366.1 dI4).1)), (49, ri (in_.length : Int)), (50, ri s366.1), (60, ri n_.1), (107, rb (n_.1 == 3))], [(tsI4.leaves s366.2), []], [], 116⟩
theorem kern_Needs_f2000020 : P39 1 C39.r.r.r.l.r.b.b.r.r.l.b.r.r.r.b.r.e.r.e.l (S39_5 n_ in_ first rows s366) k = k (S39_13 n_ in_ first rows s366) := by kernel_rfl
abbrev S39_14 : St := ⟨[(1, rl tsI4 in_), (2, ri first), (3, ri rows), (4, rC tsNode n_), (8, rF 0), (11, ri s366.1), (12, ri ((gt in_ s366.1 dI4).1)), (49, ri (in_.length : Int)), (50, ri s366.1), (107, rb (n_.1 == 11))], [(tsI4.leaves s366.2), []], [], 116⟩
theorem kern_Needs_r20 : R39 C39.r.r.r.l.r.b.b.r.r.l.b.r.r.r.b.r.e.r.e.l.r.e (S39_13 n_ in_ first rows s366) q = q .normal (S39_14 n_ in_ first rows s366) := by kernel_rfl
def kern_Needs_j19_q (K : Bool → β) : β := (bif (n_.1 == 3) then (K (n_.1 == 3)) else (K (n_.1 == 11)))
def kern_Needs_j19_p : Bool := kern_Needs_j19_q n_ (fun y => y)
theorem kern_Needs_j19_n (K : Bool → β) : kern_Needs_j19_q n_ K = K (kern_Needs_j19_p n_) := (bif_k K rfl rfl)
abbrev S39_15 : St := ⟨[(1, rl tsI4 in_), (2, ri first), (3, ri rows), (4, rC tsNode n_), (8, rF 0), (11, ri s366.1), (12, ri ((gt in_ s366.1 dI4).1)), (49, ri (in_.length : Int)), (50, ri s366.1), (107, rb (kern_Needs_j19_p n_))], [(tsI4.leaves s366.2), []], [], 116⟩
theorem kern_Needs_j19 : R39 C39.r.r.r.l.r.b.b.r.r.l.b.r.r.r.b.r.e.r.e.l (S39_5 n_ in_ first rows s366) (Q39 C39.r.r.r.l.r.b.b.r.r.l.b.r.r.r.b.r.e.r.e.r q) = R39 C39.r.r.r.l.r.b.b.r.r.l.b.r.r.r.b.r.e.r.e.r (S39_15 n_ in_ first rows s366) q := by
  refine Eq.trans ?_ (kern_Needs_j19_n n_ (fun y373 : Bool => R39 C39.r.r.r.l.r.b.b.r.r.l.b.r.r.r.b.r.e.r.e.r ⟨[(1, rl tsI4 in_), (2, ri first), (3, ri rows), (4, rC tsNode n_), (8, rF 0), (11, ri s366.1), (12, ri ((gt in_ s366.1 dI4).1)), (49, ri (in_.length : Int)), (50, ri s366.1), (107, rb y373)], [(tsI4.leaves s366.2), []], [], 116⟩ q))
  unfold kern_Needs_j19_q
  refine (pre1 (kern_Needs_f2000020 n_ in_ first rows s366 _)).trans ?_
  refine (cond_s (b := (n_.1 == 3)) ).trans (bif_g ?_ ?_)
  · refine (skip_eq).trans ?_
    refine (seqC_normal (st' := ⟨[(1, rl tsI4 in_), (2, ri first), (3, ri rows), (4, rC tsNode n_), (8, rF 0), (11, ri s366.1), (12, ri ((gt in_ s366.1 dI4).1)), (49, ri (in_.length : Int)), (50, ri s366.1), (107, rb (n_.1 == 3))], [(tsI4.leaves s366.2), []], [], 116⟩)).trans ?_
    kernel_rfl
  · refine (kern_Needs_r20 n_ in_ first rows s366 _).trans ?_
    refine (seqC_normal (st' := (S39_14 n_ in_ first rows s366))).trans ?_
    kernel_rfl
def kern_Needs_r21_p : Option (Int × Int × Int × Int) := (bif (s366.1 == 0) then (some ((0 : Int), (gt in_ s366.1 dI4).1, s366.2.2.2.1, s366.2.2.2.2)) else (bif (s366.1 == 1) then (some (s366.2.1, s366.2.2.1, (0 : Int), (gt in_ s366.1 dI4).1)) else none))
abbrev S39_16 (y374 : (Int × Int × Int × Int)) : St := ⟨[(1, rl tsI4 in_), (2, ri first), (3, ri rows), (4, rC tsNode n_), (8, rF 0), (49, ri (in_.length : Int)), (50, ri s366.1)], [(tsI4.leaves y374), []], [], 116⟩
theorem kern_Needs_r21 : R39 C39.r.r.r.l.r.b.b.r.r.l.b.r.r.r.b.r.e.r.e.r.t (S39_15 n_ in_ first rows s366) q = Option.bind (kern_Needs_r21_p in_ s366) (fun y374 : (Int × Int × Int × Int) => q .normal (S39_16 n_ in_ first rows s366 y374)) := .trans (by kernel_rfl) (bif_b some_b (bif_b some_b none_b))
def kern_Needs_r11_p : Option (Int × Int × Int × Int) := (bif (s366.1 == 0) then (some (first, (IntKind.wrap .i64 (first + rows)), s366.2.2.2.1, s366.2.2.2.2)) else (bif (s366.1 == 1) then (some (s366.2.1, s366.2.2.1, first, (IntKind.wrap .i64 (first + rows)))) else none))
abbrev S39_17 (y375 : (Int × Int × Int × Int)) : St := ⟨[(1, rl tsI4 in_), (2, ri first), (3, ri rows), (4, rC tsNode n_), (8, rF 0), (49, ri (in_.length : Int)), (50, ri s366.1)], [(tsI4.leaves y375), []], [], 116⟩
theorem kern_Needs_r11 : R39 C39.r.r.r.l.r.b.b.r.r.l.b.r.r.r.b.r.e.r.e.r.e (S39_15 n_ in_ first rows s366) q = Option.bind (kern_Needs_r11_p first rows s366) (fun y375 : (Int × Int × Int × Int) => q .normal (S39_17 n_ in_ first rows s366 y375)) := .trans (by kernel_rfl) (bif_b some_b (bif_b some_b none_b))
def kern_Needs_j8_p : Option (Int × Int × Int × Int) := (Option.bind (kern_Needs_r9_p in_ s366) (fun y367 : Unit => (bif (kern_Needs_j12_p n_) then (Option.bind (kern_Needs_r16_p n_ in_ first rows s366) (fun y370 : (Int × Int × Int × Int) => (some y370))) else (bif (n_.1 == 9) then (Option.bind (kern_Needs_r18_p in_ first rows s366) (fun y372 : (Int × Int × Int × Int) => (some y372))) else (bif (kern_Needs_j19_p n_) then (Option.bind (kern_Needs_r21_p in_ s366) (fun y374 : (Int × Int × Int × Int) => (some y374))) else (Option.bind (kern_Needs_r11_p first rows s366) (fun y375 : (Int × Int × Int × Int) => (some y375))))))))
abbrev S39_18 : St := ⟨[(1, rl tsI4 in_), (2, ri first), (3, ri rows), (4, rC tsNode n_), (8, rF 0), (49, ri (in_.length : Int)), (50, ri s366.1)], [(tsI4.leaves y376), []], [], 116⟩
theorem kern_Needs_j8 : R39 C39.r.r.r.l.r.b.b.r.r.l (S39_3 n_ in_ first rows s366) (Q39 C39.r.r.r.l.r.b.b.r.r.r q) = Option.bind (kern_Needs_j8_p n_ in_ first rows s366) (fun y376 : (Int × Int × Int × Int) => R39 C39.r.r.r.l.r.b.b.r.r.r (S39_18 n_ in_ first rows s366 y376) q) := by
  refine .trans ?_ (bind_b fun y367 => (bif_b (bind_b fun y370 => some_b) (bif_b (bind_b fun y372 => some_b) (bif_b (bind_b fun y374 => some_b) (bind_b fun y375 => some_b)))))
  refine (block_push (id := 2)).trans ?_
  refine (pre2 (kern_Needs_r9 n_ in_ first rows s366 _)).trans (bind_g fun y367 => ?_)
  refine (pre1 (kern_Needs_f12 n_ in_ first rows s366 _)).trans ?_
  refine (block_push (id := 3)).trans ?_
  refine .trans seq_push ?_
  refine (kern_Needs_j12 n_ in_ first rows s366 _).trans ?_
  refine (cond_s (b := (kern_Needs_j12_p n_)) ).trans (bif_g ?_ ?_)
  · refine (kern_Needs_r16 n_ in_ first rows s366 _).trans (bind_g fun y370 => ?_)
    refine block_normal.trans ?_
    refine block_normal.trans ?_
    refine (seqC_normal (st' := (S39_11 n_ in_ first rows s366 y370))).trans ?_
    kernel_rfl
  · refine (pre1 (kern_Needs_f1000018 n_ in_ first rows s366 _)).trans ?_
    refine (cond_e (b := (n_.1 == 9)) (st' := (S39_5 n_ in_ first rows s366)) ).trans (bif_g ?_ ?_)
    · refine (kern_Needs_r18 n_ in_ first rows s366 _).trans (bind_g fun y372 => ?_)
      refine block_normal.trans ?_
      refine block_normal.trans ?_
      refine (seqC_normal (st' := (S39_12 n_ in_ first rows s366 y372))).trans ?_
      kernel_rfl
    · refine .trans seq_push ?_
      refine (kern_Needs_j19 n_ in_ first rows s366 _).trans ?_
      refine (cond_s (b := (kern_Needs_j19_p n_)) ).trans (bif_g ?_ ?_)
      · refine (kern_Needs_r21 n_ in_ first rows s366 _).trans (bind_g fun y374 => ?_)
        refine block_normal.trans ?_
        refine block_normal.trans ?_
        refine (seqC_normal (st' := (S39_16 n_ in_ first rows s366 y374))).trans ?_
        kernel_rfl
      · refine (kern_Needs_r11 n_ in_ first rows s366 _).trans (bind_g fun y375 => ?_)
        refine block_normal.trans ?_
        refine block_normal.trans ?_
        refine (seqC_normal (st' := (S39_17 n_ in_ first rows s366 y375))).trans ?_
        kernel_rfl
theorem kern_Needs_r22 : R39 C39.r.r.r.l.r.b.b.r.r.r (S39_18 n_ in_ first rows s366 y376) q = q .normal ⟨[(1, rl tsI4 in_), (2, ri first), (3, ri rows), (4, rC tsNode n_), (8, rF 0), (49, ri (in_.length : Int)), (50, ri (IntKind.wrap .i64 (s366.1 + 1)))], [(tsI4.leaves y376), []], [], 116⟩ := by kernel_rfl
def kern_Needs_l7_p : Option ((Int × Int × Int × Int × Int) ⊕ (Int × Int × Int × Int × Int)) := (bif (decide (s366.1 < (in_.length : Int))) then (Option.bind (kern_Needs_j8_p n_ in_ first rows s366) (fun y376 : (Int × Int × Int × Int) => (some (Sum.inl ((IntKind.wrap .i64 (s366.1 + 1)), y376.1, y376.2.1, y376.2.2.1, y376.2.2.2))))) else (some (Sum.inr s366)))
abbrev S39_19 : St := ⟨[(1, rl tsI4 in_), (2, ri first), (3, ri rows), (4, rC tsNode n_), (8, rF 0), (49, ri (in_.length : Int)), (50, ri y377.1)], [(tsI4.leaves y377.2), []], [], 116⟩
theorem kern_Needs_l7_b : R39 C39.r.r.r.l.r.b.b (S39_3 n_ in_ first rows s366) (loopKont 2 q) = Option.bind (kern_Needs_l7_p n_ in_ first rows s366) (either (fun y : (Int × Int × Int × Int × Int) => q .normal ⟨[(1, rl tsI4 in_), (2, ri first), (3, ri rows), (4, rC tsNode n_), (8, rF 0), (49, ri (in_.length : Int)), (50, ri y.1)], [(tsI4.leaves y.2), []], [], 116⟩) (fun y377 : (Int × Int × Int × Int × Int) => q (.exit 1) (S39_19 n_ in_ first rows y377))) := by
  refine .trans ?_ (bif_b (bind_b fun y376 => e2_0) e2_1)
  refine (pre1 (kern_Needs_fzx2 n_ in_ first rows s366 _)).trans ?_
  refine .trans seq_push ?_
  refine (cond_e (b := (decide (s366.1 < (in_.length : Int)))) (st' := (S39_3 n_ in_ first rows s366)) ).trans (bif_g ?_ ?_)
  · refine (skip_eq).trans ?_
    refine (seqC_normal (st' := (S39_3 n_ in_ first rows s366))).trans ?_
    refine .trans seq_push ?_
    refine (kern_Needs_j8 n_ in_ first rows s366 _).trans (bind_g fun y376 => ?_)
    refine (kern_Needs_r22 n_ in_ first rows s366 y376 _).trans ?_
    kernel_rfl
  · refine ((exit_eq (j := 1))).trans ?_
    refine seqC_exit.trans ?_
    kernel_rfl
theorem kern_Needs_l7 : R39 C39.r.r.r.l.r.b (S39_2 n_ in_ first rows) q = Option.bind (iterN (kern_Needs_l7_p n_ in_ first rows) LL ((0 : Int), (0 : Int), (0 : Int), (0 : Int), (0 : Int))) (fun y377 : (Int × Int × Int × Int × Int) => q (.exit 1) (S39_19 n_ in_ first rows y377)) :=
  Eq.trans (by kernel_rfl) (loop_iter1 (S := fun s366 : (Int × Int × Int × Int × Int) => (S39_3 n_ in_ first rows s366)) (Y1 := fun y377 : (Int × Int × Int × Int × Int) => ((.exit 1), (S39_19 n_ in_ first rows y377))) (fun s q => kern_Needs_l7_b n_ in_ first rows s q) (fun z => rfl) LL ((0 : Int), (0 : Int), (0 : Int), (0 : Int), (0 : Int)))
theorem kern_Needs_fzx3 : P39 1 C39.r.r.r.r ⟨[(8, rF 0)], [(tsI4.leaves y377.2), []], [], 116⟩ k = k ⟨[(8, rF 0), (9, ri 0)], [(tsI4.leaves y377.2), []], [], 116⟩ := by kernel_rfl
/-- quilt/kern.Needs -/
def kern_Needs : Option (I4 × Int) := (Option.bind (graph_Value n_ in_) (fun y290 : (I4 × Int) => (bif (y290.2 != 0) then (some (((0 : Int), (0 : Int), (0 : Int), (0 : Int)), y290.2)) else (bif (kern_Needs_r4_p first rows y290) then (some (((0 : Int), (0 : Int), (0 : Int), (0 : Int)), (1 : Int))) else (Option.bind (iterN (kern_Needs_l7_p n_ in_ first rows) LL ((0 : Int), (0 : Int), (0 : Int), (0 : Int), (0 : Int))) (fun y377 : (Int × Int × Int × Int × Int) => (some (y377.2, (0 : Int)))))))))
theorem kern_Needs_is : stepS E cp39 noE 50 [rA tsNode n_, rl tsI4 in_, ri first, ri rows] = Option.bind (kern_Needs n_ in_ first rows) (fun y : (I4 × Int) => some (.tup [rA tsI4 y.1, ri y.2] : R)) := by
  refine .trans ?_ (bind_b fun y290 => (bif_b some_b (bif_b some_b (bind_b fun y377 => some_b))))
  refine (stepG_is (nt := 116) (regs := [(0, rA tsNode n_), (1, rl tsI4 in_), (2, ri first), (3, ri rows)])).trans ?_
  refine (pre2 (kern_Needs_r1 n_ in_ first rows _)).trans (bind_g fun y290 => ?_)
  refine .trans seq_push ?_
  refine (block_push (id := 0)).trans ?_
  refine (pre1 (kern_Needs_f1000003 n_ in_ first rows y290 _)).trans ?_
  refine (cond_e (b := (y290.2 != 0)) (st' := (S39_0 n_ in_ first rows y290)) ).trans (bif_g ?_ ?_)
  · refine (pre1 (kern_Needs_fz n_ in_ first rows y290 _)).trans ?_
    refine (ret_eq).trans ?_
    refine block_ret.trans ?_
    refine seqC_ret.trans ?_
    kernel_rfl
  · refine (pre1 (kern_Needs_r4 n_ in_ first rows y290 _)).trans ?_
    refine (cond_e (b := (kern_Needs_r4_p first rows y290)) (st' := (S39_1 n_ in_ first rows)) ).trans (bif_g ?_ ?_)
    · refine (pre1 (kern_Needs_fzx1 n_ in_ first rows _)).trans ?_
      refine (ret_eq).trans ?_
      refine block_ret.trans ?_
      refine seqC_ret.trans ?_
      kernel_rfl
    · refine (skip_eq).trans ?_
      refine block_normal.trans ?_
      refine (seqC_normal (st' := (S39_1 n_ in_ first rows))).trans ?_
      refine .trans seq_push ?_
      refine (pre1 (kern_Needs_f7 n_ in_ first rows _)).trans ?_
      refine (block_push (id := 1)).trans ?_
      refine (kern_Needs_l7 n_ in_ first rows _).trans (bind_g fun y377 => ?_)
      refine block_same.trans ?_
      refine (seqC_normal (st' := ⟨[(8, rF 0)], [(tsI4.leaves y377.2), []], [], 116⟩)).trans ?_
      refine (pre1 (kern_Needs_fzx3 y377 _)).trans ?_
      refine (ret_eq).trans ?_
      kernel_rfl
noncomputable def cp40 : CallP := withC cp39 50 [(.agg tsNode), (pL tsI4), pI, pI] (.tup [(.agg tsI4), pI]) (fun y : (I4 × Int) => (y.1, y.2, ())) (fun x => kern_Needs x.1 x.2.1 x.2.2.1 x.2.2.2.1)
theorem cp40_ok : PureOK E cp40 := conS eok cp39_ok noE_ok fun x => Eq.mp (by kernel_rfl) (kern_Needs_is x.1 x.2.1 x.2.2.1 x.2.2.2.1)
end
section
variable {α : Type} (n_ : Node) (in_ : (List I4)) (first : Int) (rows : Int) (y378 : (I4 × Int)) (s429 : (Int × Int × Int × Int)) (y441 : (Int × Int × Int)) (y442 : (Int × Int × Int × Int)) (y443 : (I4 × Int)) (y444 : Int) (k : St → Option α) (q : Kont α)
noncomputable abbrev C40 := codeOf E.P 37
noncomputable abbrev P40 := @preK α E 37 cp40 noE
noncomputable abbrev R40 := @runCode α E 37 cp40 noE
abbrev S40_0 : St := ⟨[(1, rl tsI4 in_), (3, ri rows), (4, rC tsNode n_), (8, rF 0), (10, rF 1), (11, ri y378.2)], [[di 0, di 0, di 0], (tsI4.leaves y378.1)], [], 65⟩
theorem halo_Sizes_r1 : P40 2 C40 ⟨[(0, rA tsNode n_), (1, rl tsI4 in_), (2, ri first), (3, ri rows)], [], [], 65⟩ k = Option.bind (kern_Needs n_ in_ first rows) fun y378 : (I4 × Int) => k (S40_0 n_ in_ rows y378) := by kernel_rfl
theorem halo_Sizes_f1000003 : P40 1 C40.r.r.l (S40_0 n_ in_ rows y378) k = k ⟨[(1, rl tsI4 in_), (3, ri rows), (4, rC tsNode n_), (8, rF 0), (10, rF 1), (11, ri y378.2), (26, rb (y378.2 != 0))], [[di 0, di 0, di 0], (tsI4.leaves y378.1)], [], 65⟩ := by kernel_rfl
theorem halo_Sizes_fz : P40 1 C40.r.r.l.r.t (S40_0 n_ in_ rows y378) k = k ⟨[(8, rF 0), (9, ri y378.2)], [[di 0, di 0, di 0], []], [], 65⟩ := by kernel_rfl
abbrev S40_1 : St := ⟨[(1, rl tsI4 in_), (3, ri rows), (4, rC tsNode n_), (8, rF 0), (10, rF 1)], [[di 0, di 0, di 0], (tsI4.leaves y378.1)], [], 65⟩
abbrev S40_2 : St := ⟨[(1, rl tsI4 in_), (3, ri rows), (4, rC tsNode n_), (8, rF 0), (10, rF 1), (12, rF 2)], [[di 0, di 0, di 0], (tsI4.leaves y378.1), [di 0, di 0, di 0]], [], 65⟩
theorem halo_Sizes_f5 : P40 1 C40.r.r.r (S40_1 n_ in_ rows y378) k = k (S40_2 n_ in_ rows y378) := by kernel_rfl
abbrev S40_3 : St := ⟨[(1, rl tsI4 in_), (3, ri rows), (4, rC tsNode n_), (8, rF 0), (10, rF 1), (12, rF 2), (29, rl tsI4 in_), (30, ri (in_.length : Int)), (31, ri 0)], [[di 0, di 0, di 0], (tsI4.leaves y378.1), [di 0, di 0, di 0]], [], 65⟩
theorem halo_Sizes_f6 : P40 1 C40.r.r.r.r.l (S40_2 n_ in_ rows y378) k = k (S40_3 n_ in_ rows y378) := by kernel_rfl
abbrev S40_4 : St := ⟨[(1, rl tsI4 in_), (3, ri rows), (4, rC tsNode n_), (8, rF 0), (10, rF 1), (12, rF 2), (29, rl tsI4 in_), (30, ri (in_.length : Int)), (31, ri s429.1)], [[di 0, di 0, di 0], (tsI4.leaves y378.1), (tsI3.leaves s429.2)], [], 65⟩
theorem halo_Sizes_fzx1 : P40 1 C40.r.r.r.r.l.r.b.b (S40_4 n_ in_ rows y378 s429) k = k ⟨[(1, rl tsI4 in_), (3, ri rows), (4, rC tsNode n_), (8, rF 0), (10, rF 1), (12, rF 2), (29, rl tsI4 in_), (30, ri (in_.length : Int)), (31, ri s429.1), (32, rb (decide (s429.1 < (in_.length : Int))))], [[di 0, di 0, di 0], (tsI4.leaves y378.1), (tsI3.leaves s429.2)], [], 65⟩ := by kernel_rfl
def halo_Sizes_r7_p : Option Unit := (bif (decide ((0 : Int) ≤ s429.1)) then (bif (decide (s429.1 < (in_.length : Int))) then (some ()) else none) else none)
abbrev S40_5 : St := ⟨[(1, rl tsI4 in_), (3, ri rows), (4, rC tsNode n_), (8, rF 0), (10, rF 1), (12, rF 2), (13, ri s429.1), (14, rF 3), (29, rl tsI4 in_), (30, ri (in_.length : Int)), (31, ri s429.1)], [[di 0, di 0, di 0], (tsI4.leaves y378.1), (tsI3.leaves s429.2), (tsI4.leaves (gt in_ s429.1 dI4))], [], 65⟩
theorem halo_Sizes_r7 : P40 1 C40.r.r.r.r.l.r.b.b.r.r.l.b (S40_4 n_ in_ rows y378 s429) k = Option.bind (halo_Sizes_r7_p in_ s429) (fun y436 : Unit => k (S40_5 n_ in_ rows y378 s429)) := .trans (by kernel_rfl) (bif_b (bif_b some_b none_b) none_b)
def halo_Sizes_r8_p : Option (Int × Int × Int) := (bif (s429.1 == 0) then (bif (s429.1 == 0) then (Option.bind (shape_Row ((gt in_ s429.1 dI4).1, (gt in_ s429.1 dI4).2.1, (gt in_ s429.1 dI4).2.2.1)) (fun y437 : Int => (bif (s429.1 == 0) then (some ((IntKind.wrap .i64 ((IntKind.wrap .i64 (y378.1.2.1 - y378.1.1)) * y437)), s429.2.2.1, s429.2.2.2)) else (bif (s429.1 == 1) then (some (s429.2.1, (IntKind.wrap .i64 ((IntKind.wrap .i64 (y378.1.2.1 - y378.1.1)) * y437)), s429.2.2.2)) else (bif (s429.1 == 2) then (some (s429.2.1, s429.2.2.1, (IntKind.wrap .i64 ((IntKind.wrap .i64 (y378.1.2.1 - y378.1.1)) * y437)))) else none))))) else (bif (s429.1 == 1) then (Option.bind (shape_Row ((gt in_ s429.1 dI4).1, (gt in_ s429.1 dI4).2.1, (gt in_ s429.1 dI4).2.2.1)) (fun y438 : Int => (bif (s429.1 == 0) then (some ((IntKind.wrap .i64 ((IntKind.wrap .i64 (y378.1.2.1 - y378.1.2.2.1)) * y438)), s429.2.2.1, s429.2.2.2)) else (bif (s429.1 == 1) then (some (s429.2.1, (IntKind.wrap .i64 ((IntKind.wrap .i64 (y378.1.2.1 - y378.1.2.2.1)) * y438)), s429.2.2.2)) else (bif (s429.1 == 2) then (some (s429.2.1, s429.2.2.1, (IntKind.wrap .i64 ((IntKind.wrap .i64 (y378.1.2.1 - y378.1.2.2.1)) * y438)))) else none))))) else none)) else (bif (s429.1 == 1) then (bif (s429.1 == 0) then (Option.bind (shape_Row ((gt in_ s429.1 dI4).1, (gt in_ s429.1 dI4).2.1, (gt in_ s429.1 dI4).2.2.1)) (fun y439 : Int => (bif (s429.1 == 0) then (some ((IntKind.wrap .i64 ((IntKind.wrap .i64 (y378.1.2.2.2 - y378.1.1)) * y439)), s429.2.2.1, s429.2.2.2)) else (bif (s429.1 == 1) then (some (s429.2.1, (IntKind.wrap .i64 ((IntKind.wrap .i64 (y378.1.2.2.2 - y378.1.1)) * y439)), s429.2.2.2)) else (bif (s429.1 == 2) then (some (s429.2.1, s429.2.2.1, (IntKind.wrap .i64 ((IntKind.wrap .i64 (y378.1.2.2.2 - y378.1.1)) * y439)))) else none))))) else (bif (s429.1 == 1) then (Option.bind (shape_Row ((gt in_ s429.1 dI4).1, (gt in_ s429.1 dI4).2.1, (gt in_ s429.1 dI4).2.2.1)) (fun y440 : Int => (bif (s429.1 == 0) then (some ((IntKind.wrap .i64 ((IntKind.wrap .i64 (y378.1.2.2.2 - y378.1.2.2.1)) * y440)), s429.2.2.1, s429.2.2.2)) else (bif (s429.1 == 1) then (some (s429.2.1, (IntKind.wrap .i64 ((IntKind.wrap .i64 (y378.1.2.2.2 - y378.1.2.2.1)) * y440)), s429.2.2.2)) else (bif (s429.1 == 2) then (some (s429.2.1, s429.2.2.1, (IntKind.wrap .i64 ((IntKind.wrap .i64 (y378.1.2.2.2 - y378.1.2.2.1)) * y440)))) else none))))) else none)) else none))
abbrev S40_6 : St := ⟨[(1, rl tsI4 in_), (3, ri rows), (4, rC tsNode n_), (8, rF 0), (10, rF 1), (12, rF 2), (29, rl tsI4 in_), (30, ri (in_.length : Int)), (31, ri s429.1)], [[di 0, di 0, di 0], (tsI4.leaves y378.1), (tsI3.leaves y441), []], [], 65⟩
theorem halo_Sizes_r8 : R40 C40.r.r.r.r.l.r.b.b.r.r.l.b.r (S40_5 n_ in_ rows y378 s429) q = Option.bind (halo_Sizes_r8_p in_ y378 s429) (fun y441 : (Int × Int × Int) => q .normal (S40_6 n_ in_ rows y378 s429 y441)) := .trans (by kernel_rfl) (bif_b (bif_b (bind_b fun y437 => (bif_b some_b (bif_b some_b (bif_b some_b none_b)))) (bif_b (bind_b fun y438 => (bif_b some_b (bif_b some_b (bif_b some_b none_b)))) none_b)) (bif_b (bif_b (bind_b fun y439 => (bif_b some_b (bif_b some_b (bif_b some_b none_b)))) (bif_b (bind_b fun y440 => (bif_b some_b (bif_b some_b (bif_b some_b none_b)))) none_b)) none_b))
theorem halo_Sizes_r9 : R40 C40.r.r.r.r.l.r.b.b.r.r.r (S40_6 n_ in_ rows y378 s429 y441) q = q .normal ⟨[(1, rl tsI4 in_), (3, ri rows), (4, rC tsNode n_), (8, rF 0), (10, rF 1), (12, rF 2), (29, rl tsI4 in_), (30, ri (in_.length : Int)), (31, ri (IntKind.wrap .i64 (s429.1 + 1)))], [[di 0, di 0, di 0], (tsI4.leaves y378.1), (tsI3.leaves y441), []], [], 65⟩ := by kernel_rfl
def halo_Sizes_l6_p : Option ((Int × Int × Int × Int) ⊕ (Int × Int × Int × Int)) := (bif (decide (s429.1 < (in_.length : Int))) then (Option.bind (halo_Sizes_r7_p in_ s429) (fun y436 : Unit => (Option.bind (halo_Sizes_r8_p in_ y378 s429) (fun y441 : (Int × Int × Int) => (some (Sum.inl ((IntKind.wrap .i64 (s429.1 + 1)), y441.1, y441.2.1, y441.2.2))))))) else (some (Sum.inr s429)))
abbrev S40_7 : St := ⟨[(1, rl tsI4 in_), (3, ri rows), (4, rC tsNode n_), (8, rF 0), (10, rF 1), (12, rF 2), (29, rl tsI4 in_), (30, ri (in_.length : Int)), (31, ri y442.1)], [[di 0, di 0, di 0], (tsI4.leaves y378.1), (tsI3.leaves y442.2)], [], 65⟩
theorem halo_Sizes_l6_b : R40 C40.r.r.r.r.l.r.b.b (S40_4 n_ in_ rows y378 s429) (loopKont 3 q) = Option.bind (halo_Sizes_l6_p in_ y378 s429) (either (fun y : (Int × Int × Int × Int) => q .normal ⟨[(1, rl tsI4 in_), (3, ri rows), (4, rC tsNode n_), (8, rF 0), (10, rF 1), (12, rF 2), (29, rl tsI4 in_), (30, ri (in_.length : Int)), (31, ri y.1)], [[di 0, di 0, di 0], (tsI4.leaves y378.1), (tsI3.leaves y.2)], [], 65⟩) (fun y442 : (Int × Int × Int × Int) => q (.exit 0) (S40_7 n_ in_ rows y378 y442))) := by
  refine .trans ?_ (bif_b (bind_b fun y436 => (bind_b fun y441 => e2_0)) e2_1)
  refine (pre1 (halo_Sizes_fzx1 n_ in_ rows y378 s429 _)).trans ?_
  refine .trans seq_push ?_
  refine (cond_e (b := (decide (s429.1 < (in_.length : Int)))) (st' := (S40_4 n_ in_ rows y378 s429)) ).trans (bif_g ?_ ?_)
  · refine (skip_eq).trans ?_
    refine (seqC_normal (st' := (S40_4 n_ in_ rows y378 s429))).trans ?_
    refine .trans seq_push ?_
    refine (block_push (id := 1)).trans ?_
    refine (pre1 (halo_Sizes_r7 n_ in_ rows y378 s429 _)).trans (bind_g fun y436 => ?_)
    refine (halo_Sizes_r8 n_ in_ rows y378 s429 _).trans (bind_g fun y441 => ?_)
    refine block_normal.trans ?_
    refine (seqC_normal (st' := (S40_6 n_ in_ rows y378 s429 y441))).trans ?_
    refine (halo_Sizes_r9 n_ in_ rows y378 s429 y441 _).trans ?_
    kernel_rfl
  · refine ((exit_eq (j := 0))).trans ?_
    refine seqC_exit.trans ?_
    kernel_rfl
theorem halo_Sizes_l6 : R40 C40.r.r.r.r.l.r.b (S40_3 n_ in_ rows y378) q = Option.bind (iterN (halo_Sizes_l6_p in_ y378) LL ((0 : Int), (0 : Int), (0 : Int), (0 : Int))) (fun y442 : (Int × Int × Int × Int) => q (.exit 0) (S40_7 n_ in_ rows y378 y442)) :=
  Eq.trans (by kernel_rfl) (loop_iter1 (S := fun s429 : (Int × Int × Int × Int) => (S40_4 n_ in_ rows y378 s429)) (Y1 := fun y442 : (Int × Int × Int × Int) => ((.exit 0), (S40_7 n_ in_ rows y378 y442))) (fun s q => halo_Sizes_l6_b n_ in_ rows y378 s q) (fun z => rfl) LL ((0 : Int), (0 : Int), (0 : Int), (0 : Int)))
abbrev S40_8 : St := ⟨[(1, rl tsI4 in_), (3, ri rows), (4, rC tsNode n_), (8, rF 0), (12, rF 2)], [[di 0, di 0, di 0], (tsI4.leaves y378.1), (tsI3.leaves y442.2)], [], 65⟩
abbrev S40_9 : St := ⟨[(3, ri rows), (8, rF 0), (12, rF 2), (15, rF 3)], [[di 0, di 0, di 0], (tsI4.leaves y378.1), (tsI3.leaves y442.2), (tsI4.leaves y443.1)], [], 65⟩
theorem halo_Sizes_r10 : P40 1 C40.r.r.r.r.r (S40_8 n_ in_ rows y378 y442) k = Option.bind (graph_Value n_ in_) fun y443 : (I4 × Int) => k (S40_9 rows y378 y442 y443) := by kernel_rfl
abbrev S40_10 : St := ⟨[(8, rF 0), (12, rF 2)], [[di 0, di 0, di 0], (tsI4.leaves y378.1), [di y442.2.1, di y442.2.2.1, di (IntKind.wrap .i64 (rows * y444))], []], [], 65⟩
theorem halo_Sizes_r11 : P40 1 C40.r.r.r.r.r.r (S40_9 rows y378 y442 y443) k = Option.bind (shape_Row (y443.1.1, y443.1.2.1, y443.1.2.2.1)) fun y444 : Int => k (S40_10 rows y378 y442 y444) := by kernel_rfl
theorem halo_Sizes_fzx2 : P40 1 C40.r.r.r.r.r.r.r (S40_10 rows y378 y442 y444) k = k ⟨[(8, rF 0), (9, ri 0)], [[di y442.2.1, di y442.2.2.1, di (IntKind.wrap .i64 (rows * y444))], (tsI4.leaves y378.1), [], []], [], 65⟩ := by kernel_rfl
/-- quilt/halo.Sizes -/
def halo_Sizes : Option (I3 × Int) := (Option.bind (kern_Needs n_ in_ first rows) (fun y378 : (I4 × Int) => (bif (y378.2 != 0) then (some (((0 : Int), (0 : Int), (0 : Int)), y378.2)) else (Option.bind (iterN (halo_Sizes_l6_p in_ y378) LL ((0 : Int), (0 : Int), (0 : Int), (0 : Int))) (fun y442 : (Int × Int × Int × Int) => (Option.bind (graph_Value n_ in_) (fun y443 : (I4 × Int) => (Option.bind (shape_Row (y443.1.1, y443.1.2.1, y443.1.2.2.1)) (fun y444 : Int => (some ((y442.2.1, y442.2.2.1, (IntKind.wrap .i64 (rows * y444))), (0 : Int))))))))))))
theorem halo_Sizes_is : stepS E cp40 noE 37 [rA tsNode n_, rl tsI4 in_, ri first, ri rows] = Option.bind (halo_Sizes n_ in_ first rows) (fun y : (I3 × Int) => some (.tup [rA tsI3 y.1, ri y.2] : R)) := by
  refine .trans ?_ (bind_b fun y378 => (bif_b some_b (bind_b fun y442 => (bind_b fun y443 => (bind_b fun y444 => some_b)))))
  refine (stepG_is (nt := 65) (regs := [(0, rA tsNode n_), (1, rl tsI4 in_), (2, ri first), (3, ri rows)])).trans ?_
  refine (pre2 (halo_Sizes_r1 n_ in_ first rows _)).trans (bind_g fun y378 => ?_)
  refine .trans seq_push ?_
  refine (pre1 (halo_Sizes_f1000003 n_ in_ rows y378 _)).trans ?_
  refine (cond_e (b := (y378.2 != 0)) (st' := (S40_0 n_ in_ rows y378)) ).trans (bif_g ?_ ?_)
  · refine (pre1 (halo_Sizes_fz n_ in_ rows y378 _)).trans ?_
    refine (ret_eq).trans ?_
    refine seqC_ret.trans ?_
    kernel_rfl
  · refine (skip_eq).trans ?_
    refine (seqC_normal (st' := (S40_1 n_ in_ rows y378))).trans ?_
    refine (pre1 (halo_Sizes_f5 n_ in_ rows y378 _)).trans ?_
    refine .trans seq_push ?_
    refine (pre1 (halo_Sizes_f6 n_ in_ rows y378 _)).trans ?_
    refine (block_push (id := 0)).trans ?_
    refine (halo_Sizes_l6 n_ in_ rows y378 _).trans (bind_g fun y442 => ?_)
    refine block_same.trans ?_
    refine (seqC_normal (st' := (S40_8 n_ in_ rows y378 y442))).trans ?_
    refine (pre1 (halo_Sizes_r10 n_ in_ rows y378 y442 _)).trans (bind_g fun y443 => ?_)
    refine (pre1 (halo_Sizes_r11 rows y378 y442 y443 _)).trans (bind_g fun y444 => ?_)
    refine (pre1 (halo_Sizes_fzx2 rows y378 y442 y444 _)).trans ?_
    refine (ret_eq).trans ?_
    kernel_rfl
noncomputable def cp41 : CallP := withC cp40 37 [(.agg tsNode), (pL tsI4), pI, pI] (.tup [(.agg tsI3), pI]) (fun y : (I3 × Int) => (y.1, y.2, ())) (fun x => halo_Sizes x.1 x.2.1 x.2.2.1 x.2.2.2.1)
theorem cp41_ok : PureOK E cp41 := conS eok cp40_ok noE_ok fun x => Eq.mp (by kernel_rfl) (halo_Sizes_is x.1 x.2.1 x.2.2.1 x.2.2.2.1)
end
section
variable {α β : Type} (n_ : Node) (in_ : (List I4)) (rows : Int) (y272 : (I4 × Int)) (y502 : (List I2)) (s532 : (Int × Int × Int × Int)) (y548 : (I3 × Int)) (s555 : (Int × Int × Int × Int)) (y558 : Int) (y559 : (Int × Int × Int)) (y560 : (Int × Int × Int × Int)) (y561 : (Int × Int × Int × Int)) (k : St → Option α) (q : Kont α)
noncomputable abbrev C41 := codeOf E.P 27
noncomputable abbrev P41 := @preK α E 27 cp41 noE
noncomputable abbrev R41 := @runCode α E 27 cp41 noE
abbrev S41_0 : St := ⟨[(1, rl tsI4 in_), (2, ri rows), (3, rC tsNode n_), (6, rF 0), (8, rF 1), (9, ri y272.2)], [[di 0, di 0, di 0], (tsI4.leaves y272.1)], [], 74⟩
theorem halo_Most_r1 : P41 2 C41 ⟨[(0, rA tsNode n_), (1, rl tsI4 in_), (2, ri rows)], [], [], 74⟩ k = Option.bind (graph_Value n_ in_) fun y272 : (I4 × Int) => k (S41_0 n_ in_ rows y272) := by kernel_rfl
theorem halo_Most_f1000003 : P41 1 C41.r.r.l.b (S41_0 n_ in_ rows y272) k = k ⟨[(1, rl tsI4 in_), (2, ri rows), (3, rC tsNode n_), (6, rF 0), (8, rF 1), (9, ri y272.2), (23, rb (y272.2 != 0))], [[di 0, di 0, di 0], (tsI4.leaves y272.1)], [], 74⟩ := by kernel_rfl
theorem halo_Most_fz : P41 1 C41.r.r.l.b.r.t (S41_0 n_ in_ rows y272) k = k ⟨[(6, rF 0), (7, ri y272.2)], [[di 0, di 0, di 0], []], [], 74⟩ := by kernel_rfl
def halo_Most_r4_q (K : Bool → β) : β := (bif (decide (rows < 1)) then (K true) else (K (decide (rows > y272.1.1))))
def halo_Most_r4_p : Bool := halo_Most_r4_q rows y272 (fun y => y)
theorem halo_Most_r4_n (K : Bool → β) : halo_Most_r4_q rows y272 K = K (halo_Most_r4_p rows y272) := (bif_k K rfl rfl)
theorem halo_Most_r4 : P41 1 C41.r.r.l.b.r.e (S41_0 n_ in_ rows y272) k = k ⟨[(1, rl tsI4 in_), (2, ri rows), (3, rC tsNode n_), (6, rF 0), (8, rF 1), (28, rb (halo_Most_r4_p rows y272))], [[di 0, di 0, di 0], (tsI4.leaves y272.1)], [], 74⟩ := Eq.trans (by kernel_rfl) (halo_Most_r4_n rows y272 (fun y274 : Bool => k ⟨[(1, rl tsI4 in_), (2, ri rows), (3, rC tsNode n_), (6, rF 0), (8, rF 1), (28, rb y274)], [[di 0, di 0, di 0], (tsI4.leaves y272.1)], [], 74⟩))
abbrev S41_1 : St := ⟨[(1, rl tsI4 in_), (2, ri rows), (3, rC tsNode n_), (6, rF 0), (8, rF 1)], [[di 0, di 0, di 0], (tsI4.leaves y272.1)], [], 74⟩
theorem halo_Most_fzx1 : P41 1 C41.r.r.l.b.r.e.r.t (S41_1 n_ in_ rows y272) k = k ⟨[(6, rF 0), (7, ri 1)], [[di 0, di 0, di 0], []], [], 74⟩ := by kernel_rfl
abbrev S41_2 : St := ⟨[(1, rl tsI4 in_), (2, ri rows), (3, rC tsNode n_), (6, rF 0), (8, rF 1), (10, rF 2)], [[di 0, di 0, di 0], (tsI4.leaves y272.1), [di 0, di 0, di 0]], [], 74⟩
theorem halo_Most_f7 : P41 1 C41.r.r.r (S41_1 n_ in_ rows y272) k = k (S41_2 n_ in_ rows y272) := by kernel_rfl
abbrev S41_3 : St := ⟨[(1, rl tsI4 in_), (3, rC tsNode n_), (6, rF 0), (10, rF 2), (43, rO tsI2 y502 43), (44, ri (y502.length : Int)), (45, ri 0)], [[di 0, di 0, di 0], [], [di 0, di 0, di 0]], [], 74⟩
theorem halo_Most_r7 : P41 1 C41.r.r.r.r.l (S41_2 n_ in_ rows y272) k = Option.bind (halo_Tiles y272.1.1 rows) fun y502 : (List I2) => k (S41_3 n_ in_ y502) := by kernel_rfl
abbrev S41_4 : St := ⟨[(1, rl tsI4 in_), (3, rC tsNode n_), (6, rF 0), (10, rF 2), (43, rO tsI2 y502 43), (44, ri (y502.length : Int)), (45, ri s532.1)], [[di 0, di 0, di 0], [], (tsI3.leaves s532.2)], [], 74⟩
theorem halo_Most_fzx2 : P41 1 C41.r.r.r.r.l.r.b.b (S41_4 n_ in_ y502 s532) k = k ⟨[(1, rl tsI4 in_), (3, rC tsNode n_), (6, rF 0), (10, rF 2), (43, rO tsI2 y502 43), (44, ri (y502.length : Int)), (45, ri s532.1), (46, rb (decide (s532.1 < (y502.length : Int))))], [[di 0, di 0, di 0], [], (tsI3.leaves s532.2)], [], 74⟩ := by kernel_rfl
def halo_Most_r9_p : Option Unit := (bif (decide ((0 : Int) ≤ s532.1)) then (bif (decide (s532.1 < (y502.length : Int))) then (some ()) else none) else none)
abbrev S41_5 : St := ⟨[(1, rl tsI4 in_), (3, rC tsNode n_), (6, rF 0), (10, rF 2), (12, rF 3), (43, rO tsI2 y502 43), (44, ri (y502.length : Int)), (45, ri s532.1)], [[di 0, di 0, di 0], [], (tsI3.leaves s532.2), (tsI2.leaves (gt y502 s532.1 dI2))], [], 74⟩
theorem halo_Most_r9 : P41 1 C41.r.r.r.r.l.r.b.b.r.r.l.b (S41_4 n_ in_ y502 s532) k = Option.bind (halo_Most_r9_p y502 s532) (fun y547 : Unit => k (S41_5 n_ in_ y502 s532)) := .trans (by kernel_rfl) (bif_b (bif_b some_b none_b) none_b)
abbrev S41_6 : St := ⟨[(1, rl tsI4 in_), (3, rC tsNode n_), (6, rF 0), (10, rF 2), (13, rF 4), (43, rO tsI2 y502 43), (44, ri (y502.length : Int)), (45, ri s532.1)], [[di 0, di 0, di 0], [], (tsI3.leaves s532.2), [], (tsI3.leaves y548.1)], [], 74⟩
theorem halo_Most_r10 : P41 1 C41.r.r.r.r.l.r.b.b.r.r.l.b.r (S41_5 n_ in_ y502 s532) k = Option.bind (halo_Sizes n_ in_ ((gt y502 s532.1 dI2).1) ((gt y502 s532.1 dI2).2)) fun y548 : (I3 × Int) => k (S41_6 n_ in_ y502 s532 y548) := by kernel_rfl
abbrev S41_7 : St := ⟨[(1, rl tsI4 in_), (3, rC tsNode n_), (6, rF 0), (10, rF 2), (43, rO tsI2 y502 43), (44, ri (y502.length : Int)), (45, ri s532.1), (59, rA tsI3 y548.1), (60, ri 0)], [[di 0, di 0, di 0], [], (tsI3.leaves s532.2), [], []], [], 74⟩
theorem halo_Most_f12 : P41 1 C41.r.r.r.r.l.r.b.b.r.r.l.b.r.r (S41_6 n_ in_ y502 s532 y548) k = k (S41_7 n_ in_ y502 s532 y548) := by kernel_rfl
abbrev S41_8 : St := ⟨[(1, rl tsI4 in_), (3, rC tsNode n_), (6, rF 0), (10, rF 2), (43, rO tsI2 y502 43), (44, ri (y502.length : Int)), (45, ri s532.1), (59, rA tsI3 y548.1), (60, ri s555.1)], [[di 0, di 0, di 0], [], (tsI3.leaves s555.2), [], []], [], 74⟩
theorem halo_Most_fzx3 : P41 1 C41.r.r.r.r.l.r.b.b.r.r.l.b.r.r.r.b.b (S41_8 n_ in_ y502 s532 y548 s555) k = k ⟨[(1, rl tsI4 in_), (3, rC tsNode n_), (6, rF 0), (10, rF 2), (43, rO tsI2 y502 43), (44, ri (y502.length : Int)), (45, ri s532.1), (59, rA tsI3 y548.1), (60, ri s555.1), (61, rb (decide (s555.1 < 3)))], [[di 0, di 0, di 0], [], (tsI3.leaves s555.2), [], []], [], 74⟩ := by kernel_rfl
def halo_Most_r13_p : Option Int := (bif (s555.1 == 0) then (some y548.1.1) else (bif (s555.1 == 1) then (some y548.1.2.1) else (bif (s555.1 == 2) then (some y548.1.2.2) else none)))
abbrev S41_9 : St := ⟨[(1, rl tsI4 in_), (3, rC tsNode n_), (6, rF 0), (10, rF 2), (15, ri s555.1), (16, ri y558), (43, rO tsI2 y502 43), (44, ri (y502.length : Int)), (45, ri s532.1), (59, rA tsI3 y548.1), (60, ri s555.1)], [[di 0, di 0, di 0], [], (tsI3.leaves s555.2), [], []], [], 74⟩
theorem halo_Most_r13 : P41 1 C41.r.r.r.r.l.r.b.b.r.r.l.b.r.r.r.b.b.r.r.l.b (S41_8 n_ in_ y502 s532 y548 s555) k = Option.bind (halo_Most_r13_p y548 s555) (fun y558 : Int => k (S41_9 n_ in_ y502 s532 y548 s555 y558)) := .trans (by kernel_rfl) (bif_b some_b (bif_b some_b (bif_b some_b none_b)))
def halo_Most_r14_p : Option (Int × Int × Int) := (bif (s555.1 == 0) then (bif (s555.1 == 0) then (some ((max s555.2.1 y558), s555.2.2.1, s555.2.2.2)) else (bif (s555.1 == 1) then (some (s555.2.1, (max s555.2.1 y558), s555.2.2.2)) else (bif (s555.1 == 2) then (some (s555.2.1, s555.2.2.1, (max s555.2.1 y558))) else none))) else (bif (s555.1 == 1) then (bif (s555.1 == 0) then (some ((max s555.2.2.1 y558), s555.2.2.1, s555.2.2.2)) else (bif (s555.1 == 1) then (some (s555.2.1, (max s555.2.2.1 y558), s555.2.2.2)) else (bif (s555.1 == 2) then (some (s555.2.1, s555.2.2.1, (max s555.2.2.1 y558))) else none))) else (bif (s555.1 == 2) then (bif (s555.1 == 0) then (some ((max s555.2.2.2 y558), s555.2.2.1, s555.2.2.2)) else (bif (s555.1 == 1) then (some (s555.2.1, (max s555.2.2.2 y558), s555.2.2.2)) else (bif (s555.1 == 2) then (some (s555.2.1, s555.2.2.1, (max s555.2.2.2 y558))) else none))) else none)))
abbrev S41_10 : St := ⟨[(1, rl tsI4 in_), (3, rC tsNode n_), (6, rF 0), (10, rF 2), (43, rO tsI2 y502 43), (44, ri (y502.length : Int)), (45, ri s532.1), (59, rA tsI3 y548.1), (60, ri s555.1)], [[di 0, di 0, di 0], [], (tsI3.leaves y559), [], []], [], 74⟩
theorem halo_Most_r14 : R41 C41.r.r.r.r.l.r.b.b.r.r.l.b.r.r.r.b.b.r.r.l.b.r (S41_9 n_ in_ y502 s532 y548 s555 y558) q = Option.bind (halo_Most_r14_p s555 y558) (fun y559 : (Int × Int × Int) => q .normal (S41_10 n_ in_ y502 s532 y548 s555 y559)) := .trans (by kernel_rfl) (bif_b (bif_b some_b (bif_b some_b (bif_b some_b none_b))) (bif_b (bif_b some_b (bif_b some_b (bif_b some_b none_b))) (bif_b (bif_b some_b (bif_b some_b (bif_b some_b none_b))) none_b)))
theorem halo_Most_r15 : R41 C41.r.r.r.r.l.r.b.b.r.r.l.b.r.r.r.b.b.r.r.r (S41_10 n_ in_ y502 s532 y548 s555 y559) q = q .normal ⟨[(1, rl tsI4 in_), (3, rC tsNode n_), (6, rF 0), (10, rF 2), (43, rO tsI2 y502 43), (44, ri (y502.length : Int)), (45, ri s532.1), (59, rA tsI3 y548.1), (60, ri (IntKind.wrap .i64 (s555.1 + 1)))], [[di 0, di 0, di 0], [], (tsI3.leaves y559), [], []], [], 74⟩ := by kernel_rfl
def halo_Most_l12_p : Option ((Int × Int × Int × Int) ⊕ (Int × Int × Int × Int)) := (bif (decide (s555.1 < 3)) then (Option.bind (halo_Most_r13_p y548 s555) (fun y558 : Int => (Option.bind (halo_Most_r14_p s555 y558) (fun y559 : (Int × Int × Int) => (some (Sum.inl ((IntKind.wrap .i64 (s555.1 + 1)), y559.1, y559.2.1, y559.2.2))))))) else (some (Sum.inr s555)))
abbrev S41_11 : St := ⟨[(1, rl tsI4 in_), (3, rC tsNode n_), (6, rF 0), (10, rF 2), (43, rO tsI2 y502 43), (44, ri (y502.length : Int)), (45, ri s532.1), (59, rA tsI3 y548.1), (60, ri y560.1)], [[di 0, di 0, di 0], [], (tsI3.leaves y560.2), [], []], [], 74⟩
theorem halo_Most_l12_b : R41 C41.r.r.r.r.l.r.b.b.r.r.l.b.r.r.r.b.b (S41_8 n_ in_ y502 s532 y548 s555) (loopKont 5 q) = Option.bind (halo_Most_l12_p y548 s555) (either (fun y : (Int × Int × Int × Int) => q .normal ⟨[(1, rl tsI4 in_), (3, rC tsNode n_), (6, rF 0), (10, rF 2), (43, rO tsI2 y502 43), (44, ri (y502.length : Int)), (45, ri s532.1), (59, rA tsI3 y548.1), (60, ri y.1)], [[di 0, di 0, di 0], [], (tsI3.leaves y.2), [], []], [], 74⟩) (fun y560 : (Int × Int × Int × Int) => q (.exit 3) (S41_11 n_ in_ y502 s532 y548 y560))) := by
  refine .trans ?_ (bif_b (bind_b fun y558 => (bind_b fun y559 => e2_0)) e2_1)
  refine (pre1 (halo_Most_fzx3 n_ in_ y502 s532 y548 s555 _)).trans ?_
  refine .trans seq_push ?_
  refine (cond_e (b := (decide (s555.1 < 3))) (st' := (S41_8 n_ in_ y502 s532 y548 s555)) ).trans (bif_g ?_ ?_)
  · refine (skip_eq).trans ?_
    refine (seqC_normal (st' := (S41_8 n_ in_ y502 s532 y548 s555))).trans ?_
    refine .trans seq_push ?_
    refine (block_push (id := 4)).trans ?_
    refine (pre1 (halo_Most_r13 n_ in_ y502 s532 y548 s555 _)).trans (bind_g fun y558 => ?_)
    refine (halo_Most_r14 n_ in_ y502 s532 y548 s555 y558 _).trans (bind_g fun y559 => ?_)
    refine block_normal.trans ?_
    refine (seqC_normal (st' := (S41_10 n_ in_ y502 s532 y548 s555 y559))).trans ?_
    refine (halo_Most_r15 n_ in_ y502 s532 y548 s555 y559 _).trans ?_
    kernel_rfl
  · refine ((exit_eq (j := 3))).trans ?_
    refine seqC_exit.trans ?_
    kernel_rfl
theorem halo_Most_l12 : R41 C41.r.r.r.r.l.r.b.b.r.r.l.b.r.r.r.b (S41_7 n_ in_ y502 s532 y548) q = Option.bind (iterN (halo_Most_l12_p y548) LL ((0 : Int), s532.2.1, s532.2.2.1, s532.2.2.2)) (fun y560 : (Int × Int × Int × Int) => q (.exit 3) (S41_11 n_ in_ y502 s532 y548 y560)) :=
  Eq.trans (by kernel_rfl) (loop_iter1 (S := fun s555 : (Int × Int × Int × Int) => (S41_8 n_ in_ y502 s532 y548 s555)) (Y1 := fun y560 : (Int × Int × Int × Int) => ((.exit 3), (S41_11 n_ in_ y502 s532 y548 y560))) (fun s q => halo_Most_l12_b n_ in_ y502 s532 y548 s q) (fun z => rfl) LL ((0 : Int), s532.2.1, s532.2.2.1, s532.2.2.2))
abbrev S41_12 : St := ⟨[(1, rl tsI4 in_), (3, rC tsNode n_), (6, rF 0), (10, rF 2), (43, rO tsI2 y502 43), (44, ri (y502.length : Int)), (45, ri s532.1)], [[di 0, di 0, di 0], [], (tsI3.leaves y560.2), [], []], [], 74⟩
theorem halo_Most_r16 : R41 C41.r.r.r.r.l.r.b.b.r.r.r (S41_12 n_ in_ y502 s532 y560) q = q .normal ⟨[(1, rl tsI4 in_), (3, rC tsNode n_), (6, rF 0), (10, rF 2), (43, rO tsI2 y502 43), (44, ri (y502.length : Int)), (45, ri (IntKind.wrap .i64 (s532.1 + 1)))], [[di 0, di 0, di 0], [], (tsI3.leaves y560.2), [], []], [], 74⟩ := by kernel_rfl
def halo_Most_l8_p : Option ((Int × Int × Int × Int) ⊕ (Int × Int × Int × Int)) := (bif (decide (s532.1 < (y502.length : Int))) then (Option.bind (halo_Most_r9_p y502 s532) (fun y547 : Unit => (Option.bind (halo_Sizes n_ in_ ((gt y502 s532.1 dI2).1) ((gt y502 s532.1 dI2).2)) (fun y548 : (I3 × Int) => (Option.bind (iterN (halo_Most_l12_p y548) LL ((0 : Int), s532.2.1, s532.2.2.1, s532.2.2.2)) (fun y560 : (Int × Int × Int × Int) => (some (Sum.inl ((IntKind.wrap .i64 (s532.1 + 1)), y560.2.1, y560.2.2.1, y560.2.2.2))))))))) else (some (Sum.inr s532)))
abbrev S41_13 : St := ⟨[(1, rl tsI4 in_), (3, rC tsNode n_), (6, rF 0), (10, rF 2), (43, rO tsI2 y502 43), (44, ri (y502.length : Int)), (45, ri y561.1)], [[di 0, di 0, di 0], [], (tsI3.leaves y561.2)], [], 74⟩
theorem halo_Most_l8_b : R41 C41.r.r.r.r.l.r.b.b (S41_4 n_ in_ y502 s532) (loopKont 3 q) = Option.bind (halo_Most_l8_p n_ in_ y502 s532) (either (fun y : (Int × Int × Int × Int) => q .normal ⟨[(1, rl tsI4 in_), (3, rC tsNode n_), (6, rF 0), (10, rF 2), (43, rO tsI2 y502 43), (44, ri (y502.length : Int)), (45, ri y.1)], [[di 0, di 0, di 0], [], (tsI3.leaves y.2)], [], 74⟩) (fun y561 : (Int × Int × Int × Int) => q (.exit 1) (S41_13 n_ in_ y502 y561))) := by
  refine .trans ?_ (bif_b (bind_b fun y547 => (bind_b fun y548 => (bind_b fun y560 => e2_0))) e2_1)
  refine (pre1 (halo_Most_fzx2 n_ in_ y502 s532 _)).trans ?_
  refine .trans seq_push ?_
  refine (cond_e (b := (decide (s532.1 < (y502.length : Int)))) (st' := (S41_4 n_ in_ y502 s532)) ).trans (bif_g ?_ ?_)
  · refine (skip_eq).trans ?_
    refine (seqC_normal (st' := (S41_4 n_ in_ y502 s532))).trans ?_
    refine .trans seq_push ?_
    refine (block_push (id := 2)).trans ?_
    refine (pre1 (halo_Most_r9 n_ in_ y502 s532 _)).trans (bind_g fun y547 => ?_)
    refine (pre1 (halo_Most_r10 n_ in_ y502 s532 _)).trans (bind_g fun y548 => ?_)
    refine (pre1 (halo_Most_f12 n_ in_ y502 s532 y548 _)).trans ?_
    refine (block_push (id := 3)).trans ?_
    refine (halo_Most_l12 n_ in_ y502 s532 y548 _).trans (bind_g fun y560 => ?_)
    refine block_same.trans ?_
    refine block_normal.trans ?_
    refine (seqC_normal (st' := (S41_12 n_ in_ y502 s532 y560))).trans ?_
    refine (halo_Most_r16 n_ in_ y502 s532 y560 _).trans ?_
    kernel_rfl
  · refine ((exit_eq (j := 1))).trans ?_
    refine seqC_exit.trans ?_
    kernel_rfl
theorem halo_Most_l8 : R41 C41.r.r.r.r.l.r.b (S41_3 n_ in_ y502) q = Option.bind (iterN (halo_Most_l8_p n_ in_ y502) LL ((0 : Int), (0 : Int), (0 : Int), (0 : Int))) (fun y561 : (Int × Int × Int × Int) => q (.exit 1) (S41_13 n_ in_ y502 y561)) :=
  Eq.trans (by kernel_rfl) (loop_iter1 (S := fun s532 : (Int × Int × Int × Int) => (S41_4 n_ in_ y502 s532)) (Y1 := fun y561 : (Int × Int × Int × Int) => ((.exit 1), (S41_13 n_ in_ y502 y561))) (fun s q => halo_Most_l8_b n_ in_ y502 s q) (fun z => rfl) LL ((0 : Int), (0 : Int), (0 : Int), (0 : Int)))
abbrev S41_14 : St := ⟨[(6, rF 0), (10, rF 2)], [[di 0, di 0, di 0], [], (tsI3.leaves y561.2)], [], 74⟩
theorem halo_Most_fzx4 : P41 1 C41.r.r.r.r.r (S41_14 y561) k = k ⟨[(6, rF 0), (7, ri 0)], [(tsI3.leaves y561.2), [], []], [], 74⟩ := by kernel_rfl
/-- quilt/halo.Most -/
def halo_Most : Option (I3 × Int) := (Option.bind (graph_Value n_ in_) (fun y272 : (I4 × Int) => (bif (y272.2 != 0) then (some (((0 : Int), (0 : Int), (0 : Int)), y272.2)) else (bif (halo_Most_r4_p rows y272) then (some (((0 : Int), (0 : Int), (0 : Int)), (1 : Int))) else (Option.bind (halo_Tiles y272.1.1 rows) (fun y502 : (List I2) => (Option.bind (iterN (halo_Most_l8_p n_ in_ y502) LL ((0 : Int), (0 : Int), (0 : Int), (0 : Int))) (fun y561 : (Int × Int × Int × Int) => (some (y561.2, (0 : Int)))))))))))
theorem halo_Most_is : stepS E cp41 noE 27 [rA tsNode n_, rl tsI4 in_, ri rows] = Option.bind (halo_Most n_ in_ rows) (fun y : (I3 × Int) => some (.tup [rA tsI3 y.1, ri y.2] : R)) := by
  refine .trans ?_ (bind_b fun y272 => (bif_b some_b (bif_b some_b (bind_b fun y502 => (bind_b fun y561 => some_b)))))
  refine (stepG_is (nt := 74) (regs := [(0, rA tsNode n_), (1, rl tsI4 in_), (2, ri rows)])).trans ?_
  refine (pre2 (halo_Most_r1 n_ in_ rows _)).trans (bind_g fun y272 => ?_)
  refine .trans seq_push ?_
  refine (block_push (id := 0)).trans ?_
  refine (pre1 (halo_Most_f1000003 n_ in_ rows y272 _)).trans ?_
  refine (cond_e (b := (y272.2 != 0)) (st' := (S41_0 n_ in_ rows y272)) ).trans (bif_g ?_ ?_)
  · refine (pre1 (halo_Most_fz n_ in_ rows y272 _)).trans ?_
    refine (ret_eq).trans ?_
    refine block_ret.trans ?_
    refine seqC_ret.trans ?_
    kernel_rfl
  · refine (pre1 (halo_Most_r4 n_ in_ rows y272 _)).trans ?_
    refine (cond_e (b := (halo_Most_r4_p rows y272)) (st' := (S41_1 n_ in_ rows y272)) ).trans (bif_g ?_ ?_)
    · refine (pre1 (halo_Most_fzx1 n_ in_ rows y272 _)).trans ?_
      refine (ret_eq).trans ?_
      refine block_ret.trans ?_
      refine seqC_ret.trans ?_
      kernel_rfl
    · refine (skip_eq).trans ?_
      refine block_normal.trans ?_
      refine (seqC_normal (st' := (S41_1 n_ in_ rows y272))).trans ?_
      refine (pre1 (halo_Most_f7 n_ in_ rows y272 _)).trans ?_
      refine .trans seq_push ?_
      refine (pre1 (halo_Most_r7 n_ in_ rows y272 _)).trans (bind_g fun y502 => ?_)
      refine (block_push (id := 1)).trans ?_
      refine (halo_Most_l8 n_ in_ y502 _).trans (bind_g fun y561 => ?_)
      refine block_same.trans ?_
      refine (seqC_normal (st' := (S41_14 y561))).trans ?_
      refine (pre1 (halo_Most_fzx4 y561 _)).trans ?_
      refine (ret_eq).trans ?_
      kernel_rfl
noncomputable def cp42 : CallP := withC cp41 27 [(.agg tsNode), (pL tsI4), pI] (.tup [(.agg tsI3), pI]) (fun y : (I3 × Int) => (y.1, y.2, ())) (fun x => halo_Most x.1 x.2.1 x.2.2.1)
theorem cp42_ok : PureOK E cp42 := conS eok cp41_ok noE_ok fun x => Eq.mp (by kernel_rfl) (halo_Most_is x.1 x.2.1 x.2.2.1)
end
section
variable {α : Type} (n_ : Node) (in_ : (List I4)) (rows : Int) (y562 : (I3 × Int)) (s569 : (Int × Int)) (y571 : Int) (y572 : (Int × Int)) (k : St → Option α) (q : Kont α)
noncomputable abbrev C42 := codeOf E.P 12
noncomputable abbrev P42 := @preK α E 12 cp42 noE
noncomputable abbrev R42 := @runCode α E 12 cp42 noE
abbrev S42_0 : St := ⟨[(8, rF 0), (9, ri y562.2)], [(tsI3.leaves y562.1)], [], 31⟩
theorem tile_Need_r1 : P42 2 C42 ⟨[(0, rA tsNode n_), (1, rl tsI4 in_), (2, ri rows)], [], [], 31⟩ k = Option.bind (halo_Most n_ in_ rows) fun y562 : (I3 × Int) => k (S42_0 y562) := by kernel_rfl
abbrev S42_1 : St := ⟨[(8, rF 0), (9, ri y562.2), (10, ri 0)], [(tsI3.leaves y562.1)], [], 31⟩
theorem tile_Need_f3 : P42 1 C42.r.r (S42_0 y562) k = k (S42_1 y562) := by kernel_rfl
abbrev S42_2 : St := ⟨[(9, ri y562.2), (10, ri 0), (20, rA tsI3 y562.1), (21, ri 0)], [[]], [], 31⟩
theorem tile_Need_f4 : P42 1 C42.r.r.r.l (S42_1 y562) k = k (S42_2 y562) := by kernel_rfl
abbrev S42_3 : St := ⟨[(9, ri y562.2), (10, ri s569.1), (20, rA tsI3 y562.1), (21, ri s569.2)], [[]], [], 31⟩
theorem tile_Need_fz : P42 1 C42.r.r.r.l.r.b.b (S42_3 y562 s569) k = k ⟨[(9, ri y562.2), (10, ri s569.1), (20, rA tsI3 y562.1), (21, ri s569.2), (22, rb (decide (s569.2 < 3)))], [[]], [], 31⟩ := by kernel_rfl
def tile_Need_r5_p : Option Int := (bif (s569.2 == 0) then (some y562.1.1) else (bif (s569.2 == 1) then (some y562.1.2.1) else (bif (s569.2 == 2) then (some y562.1.2.2) else none)))
abbrev S42_4 : St := ⟨[(9, ri y562.2), (10, ri s569.1), (12, ri y571), (20, rA tsI3 y562.1), (21, ri s569.2)], [[]], [], 31⟩
theorem tile_Need_r5 : P42 1 C42.r.r.r.l.r.b.b.r.r.l.b (S42_3 y562 s569) k = Option.bind (tile_Need_r5_p y562 s569) (fun y571 : Int => k (S42_4 y562 s569 y571)) := .trans (by kernel_rfl) (bif_b some_b (bif_b some_b (bif_b some_b none_b)))
abbrev S42_5 : St := ⟨[(9, ri y562.2), (10, ri (IntKind.wrap .i64 (s569.1 + (IntKind.wrap .i64 ((2 : Int) * y571))))), (20, rA tsI3 y562.1), (21, ri s569.2)], [[]], [], 31⟩
theorem tile_Need_r6 : R42 C42.r.r.r.l.r.b.b.r.r.l.b.r (S42_4 y562 s569 y571) q = q .normal (S42_5 y562 s569 y571) := by kernel_rfl
theorem tile_Need_r7 : R42 C42.r.r.r.l.r.b.b.r.r.r (S42_5 y562 s569 y571) q = q .normal ⟨[(9, ri y562.2), (10, ri (IntKind.wrap .i64 (s569.1 + (IntKind.wrap .i64 ((2 : Int) * y571))))), (20, rA tsI3 y562.1), (21, ri (IntKind.wrap .i64 (s569.2 + 1)))], [[]], [], 31⟩ := by kernel_rfl
def tile_Need_l4_p : Option ((Int × Int) ⊕ (Int × Int)) := (bif (decide (s569.2 < 3)) then (Option.bind (tile_Need_r5_p y562 s569) (fun y571 : Int => (some (Sum.inl ((IntKind.wrap .i64 (s569.1 + (IntKind.wrap .i64 ((2 : Int) * y571)))), (IntKind.wrap .i64 (s569.2 + 1))))))) else (some (Sum.inr s569)))
abbrev S42_6 : St := ⟨[(9, ri y562.2), (10, ri y572.1), (20, rA tsI3 y562.1), (21, ri y572.2)], [[]], [], 31⟩
theorem tile_Need_l4_b : R42 C42.r.r.r.l.r.b.b (S42_3 y562 s569) (loopKont 1 q) = Option.bind (tile_Need_l4_p y562 s569) (either (fun y : (Int × Int) => q .normal ⟨[(9, ri y562.2), (10, ri y.1), (20, rA tsI3 y562.1), (21, ri y.2)], [[]], [], 31⟩) (fun y572 : (Int × Int) => q (.exit 0) (S42_6 y562 y572))) := by
  refine .trans ?_ (bif_b (bind_b fun y571 => e2_0) e2_1)
  refine (pre1 (tile_Need_fz y562 s569 _)).trans ?_
  refine .trans seq_push ?_
  refine (cond_e (b := (decide (s569.2 < 3))) (st' := (S42_3 y562 s569)) ).trans (bif_g ?_ ?_)
  · refine (skip_eq).trans ?_
    refine (seqC_normal (st' := (S42_3 y562 s569))).trans ?_
    refine .trans seq_push ?_
    refine (block_push (id := 1)).trans ?_
    refine (pre1 (tile_Need_r5 y562 s569 _)).trans (bind_g fun y571 => ?_)
    refine (tile_Need_r6 y562 s569 y571 _).trans ?_
    refine block_normal.trans ?_
    refine (seqC_normal (st' := (S42_5 y562 s569 y571))).trans ?_
    refine (tile_Need_r7 y562 s569 y571 _).trans ?_
    kernel_rfl
  · refine ((exit_eq (j := 0))).trans ?_
    refine seqC_exit.trans ?_
    kernel_rfl
theorem tile_Need_l4 : R42 C42.r.r.r.l.r.b (S42_2 y562) q = Option.bind (iterN (tile_Need_l4_p y562) LL ((0 : Int), (0 : Int))) (fun y572 : (Int × Int) => q (.exit 0) (S42_6 y562 y572)) :=
  Eq.trans (by kernel_rfl) (loop_iter1 (S := fun s569 : (Int × Int) => (S42_3 y562 s569)) (Y1 := fun y572 : (Int × Int) => ((.exit 0), (S42_6 y562 y572))) (fun s q => tile_Need_l4_b y562 s q) (fun z => rfl) LL ((0 : Int), (0 : Int)))
theorem tile_Need_fzx1 : P42 1 C42.r.r.r.r ⟨[(9, ri y562.2), (10, ri y572.1)], [[]], [], 31⟩ k = k ⟨[(6, ri y572.1), (7, ri y562.2)], [[]], [], 31⟩ := by kernel_rfl
/-- quilt/tile.Need -/
def tile_Need : Option (Int × Int) := (Option.bind (halo_Most n_ in_ rows) (fun y562 : (I3 × Int) => (Option.bind (iterN (tile_Need_l4_p y562) LL ((0 : Int), (0 : Int))) (fun y572 : (Int × Int) => (some (y572.1, y562.2))))))
theorem tile_Need_is : stepS E cp42 noE 12 [rA tsNode n_, rl tsI4 in_, ri rows] = Option.bind (tile_Need n_ in_ rows) (fun y : (Int × Int) => some (.tup [ri y.1, ri y.2] : R)) := by
  refine .trans ?_ (bind_b fun y562 => (bind_b fun y572 => some_b))
  refine (stepG_is (nt := 31) (regs := [(0, rA tsNode n_), (1, rl tsI4 in_), (2, ri rows)])).trans ?_
  refine (pre2 (tile_Need_r1 n_ in_ rows _)).trans (bind_g fun y562 => ?_)
  refine (pre1 (tile_Need_f3 y562 _)).trans ?_
  refine .trans seq_push ?_
  refine (pre1 (tile_Need_f4 y562 _)).trans ?_
  refine (block_push (id := 0)).trans ?_
  refine (tile_Need_l4 y562 _).trans (bind_g fun y572 => ?_)
  refine block_same.trans ?_
  refine (seqC_normal (st' := ⟨[(9, ri y562.2), (10, ri y572.1)], [[]], [], 31⟩)).trans ?_
  refine (pre1 (tile_Need_fzx1 y562 y572 _)).trans ?_
  refine (ret_eq).trans ?_
  kernel_rfl
noncomputable def cp43 : CallP := withC cp42 12 [(.agg tsNode), (pL tsI4), pI] (.tup [pI, pI]) (fun y : (Int × Int) => (y.1, y.2, ())) (fun x => tile_Need x.1 x.2.1 x.2.2.1)
theorem cp43_ok : PureOK E cp43 := conS eok cp42_ok noE_ok fun x => Eq.mp (by kernel_rfl) (tile_Need_is x.1 x.2.1 x.2.2.1)
end
section
variable {α : Type} (n_ : Node) (in_ : (List I4)) (y247 : (I4 × Int)) (s583 : Int) (y585 : (Int × Int)) (k : St → Option α) (q : Kont α)
noncomputable abbrev C43 := codeOf E.P 14
noncomputable abbrev P43 := @preK α E 14 cp43 noE
noncomputable abbrev R43 := @runCode α E 14 cp43 noE
abbrev S43_0 : St := ⟨[(1, rl tsI4 in_), (2, rC tsNode n_), (6, rF 0), (7, ri y247.2)], [(tsI4.leaves y247.1)], [], 43⟩
theorem tile_Best_r1 : P43 2 C43 ⟨[(0, rA tsNode n_), (1, rl tsI4 in_)], [], [], 43⟩ k = Option.bind (graph_Value n_ in_) fun y247 : (I4 × Int) => k (S43_0 n_ in_ y247) := by kernel_rfl
def tile_Best_r2_p : Option Bool := (bif (y247.2 != 0) then (some true) else (Option.bind (halo_Npu n_.1) (fun y269 : Bool => (some (!y269)))))
theorem tile_Best_r2 : P43 1 C43.r.r.l (S43_0 n_ in_ y247) k = Option.bind (tile_Best_r2_p n_ y247) (fun y270 : Bool => k ⟨[(1, rl tsI4 in_), (2, rC tsNode n_), (6, rF 0), (7, ri y247.2), (24, rb y270)], [(tsI4.leaves y247.1)], [], 43⟩) := .trans (by kernel_rfl) (bif_b some_b (bind_b fun y269 => some_b))
theorem tile_Best_fz : P43 1 C43.r.r.l.r.t (S43_0 n_ in_ y247) k = k ⟨[(4, ri 0), (5, ri y247.2)], [[]], [], 43⟩ := by kernel_rfl
abbrev S43_1 : St := ⟨[(1, rl tsI4 in_), (2, rC tsNode n_), (6, rF 0)], [(tsI4.leaves y247.1)], [], 43⟩
abbrev S43_2 : St := ⟨[(1, rl tsI4 in_), (2, rC tsNode n_), (8, ri y247.1.1)], [[]], [], 43⟩
theorem tile_Best_f5 : P43 1 C43.r.r.r.l (S43_1 n_ in_ y247) k = k (S43_2 n_ in_ y247) := by kernel_rfl
abbrev S43_3 : St := ⟨[(1, rl tsI4 in_), (2, rC tsNode n_), (8, ri s583)], [[]], [], 43⟩
theorem tile_Best_fzx1 : P43 1 C43.r.r.r.l.r.b.b.l (S43_3 n_ in_ s583) k = k ⟨[(1, rl tsI4 in_), (2, rC tsNode n_), (8, ri s583), (30, rb (decide (s583 > 0)))], [[]], [], 43⟩ := by kernel_rfl
abbrev S43_4 : St := ⟨[(1, rl tsI4 in_), (2, rC tsNode n_), (8, ri s583), (9, ri y585.1)], [[]], [], 43⟩
theorem tile_Best_r7 : P43 1 C43.r.r.r.l.r.b.b.r.l.b (S43_3 n_ in_ s583) k = Option.bind (tile_Need n_ in_ s583) fun y585 : (Int × Int) => k (S43_4 n_ in_ s583 y585) := by kernel_rfl
theorem tile_Best_f1000009 : P43 1 C43.r.r.r.l.r.b.b.r.l.b.r (S43_4 n_ in_ s583 y585) k = k ⟨[(1, rl tsI4 in_), (2, rC tsNode n_), (8, ri s583), (41, rb (decide (y585.1 ≤ 1024)))], [[]], [], 43⟩ := by kernel_rfl
theorem tile_Best_fzx2 : P43 1 C43.r.r.r.l.r.b.b.r.l.b.r.r.t (S43_3 n_ in_ s583) k = k ⟨[(4, ri s583), (5, ri 0)], [[]], [], 43⟩ := by kernel_rfl
theorem tile_Best_r6 : R43 C43.r.r.r.l.r.b.b.r.r (S43_3 n_ in_ s583) q = q .normal ⟨[(1, rl tsI4 in_), (2, rC tsNode n_), (8, ri (IntKind.wrap .i64 (s583 - 1)))], [[]], [], 43⟩ := by kernel_rfl
def tile_Best_l5_p : Option (Int ⊕ (Int ⊕ Int)) := (bif (decide (s583 > 0)) then (Option.bind (tile_Need n_ in_ s583) (fun y585 : (Int × Int) => (bif (decide (y585.1 ≤ 1024)) then (some (Sum.inr (Sum.inr s583))) else (some (Sum.inl (IntKind.wrap .i64 (s583 - 1))))))) else (some (Sum.inr (Sum.inl s583))))
abbrev S43_5 (y586 : Int) : St := ⟨[(1, rl tsI4 in_), (2, rC tsNode n_), (8, ri y586)], [[]], [], 43⟩
abbrev S43_6 (y587 : Int) : St := ⟨[(4, ri y587), (5, ri 0)], [[]], [], 43⟩
theorem tile_Best_l5_b : R43 C43.r.r.r.l.r.b.b (S43_3 n_ in_ s583) (loopKont 1 q) = Option.bind (tile_Best_l5_p n_ in_ s583) (either (fun y : Int => q .normal ⟨[(1, rl tsI4 in_), (2, rC tsNode n_), (8, ri y)], [[]], [], 43⟩) (either (fun y586 : Int => q (.exit 0) (S43_5 n_ in_ y586)) (fun y587 : Int => q .ret (S43_6 y587)))) := by
  refine .trans ?_ (bif_b (bind_b fun y585 => (bif_b e3_2 e3_0)) e3_1)
  refine .trans seq_push ?_
  refine (pre1 (tile_Best_fzx1 n_ in_ s583 _)).trans ?_
  refine (cond_e (b := (decide (s583 > 0))) (st' := (S43_3 n_ in_ s583)) ).trans (bif_g ?_ ?_)
  · refine (skip_eq).trans ?_
    refine (seqC_normal (st' := (S43_3 n_ in_ s583))).trans ?_
    refine .trans seq_push ?_
    refine (block_push (id := 1)).trans ?_
    refine (pre1 (tile_Best_r7 n_ in_ s583 _)).trans (bind_g fun y585 => ?_)
    refine (pre1 (tile_Best_f1000009 n_ in_ s583 y585 _)).trans ?_
    refine (cond_e (b := (decide (y585.1 ≤ 1024))) (st' := (S43_3 n_ in_ s583)) ).trans (bif_g ?_ ?_)
    · refine (pre1 (tile_Best_fzx2 n_ in_ s583 _)).trans ?_
      refine (ret_eq).trans ?_
      refine block_ret.trans ?_
      refine seqC_ret.trans ?_
      kernel_rfl
    · refine (skip_eq).trans ?_
      refine block_normal.trans ?_
      refine (seqC_normal (st' := (S43_3 n_ in_ s583))).trans ?_
      refine (tile_Best_r6 n_ in_ s583 _).trans ?_
      kernel_rfl
  · refine ((exit_eq (j := 0))).trans ?_
    refine seqC_exit.trans ?_
    kernel_rfl
theorem tile_Best_l5 : R43 C43.r.r.r.l.r.b (S43_2 n_ in_ y247) q = Option.bind (iterN (tile_Best_l5_p n_ in_) LL y247.1.1) (either (fun y586 : Int => q (.exit 0) (S43_5 n_ in_ y586)) (fun y587 : Int => q .ret (S43_6 y587))) :=
  Eq.trans (by kernel_rfl) (loop_iter2 (S := fun s583 : Int => (S43_3 n_ in_ s583)) (Y1 := fun y586 : Int => ((.exit 0), (S43_5 n_ in_ y586))) (Y2 := fun y587 : Int => (.ret, (S43_6 y587))) (fun s q => tile_Best_l5_b n_ in_ s q) (fun z => rfl) (fun z => rfl) LL y247.1.1)
theorem tile_Best_fzx3 : P43 1 C43.r.r.r.r ⟨[], [[]], [], 43⟩ k = k ⟨[(4, ri 0), (5, ri 0)], [[]], [], 43⟩ := by kernel_rfl
/-- quilt/tile.Best -/
def tile_Best : Option (Int × Int) := (Option.bind (graph_Value n_ in_) (fun y247 : (I4 × Int) => (Option.bind (tile_Best_r2_p n_ y247) (fun y270 : Bool => (bif y270 then (some ((0 : Int), y247.2)) else (Option.bind (iterN (tile_Best_l5_p n_ in_) LL y247.1.1) (either (fun y586 : Int => (some ((0 : Int), (0 : Int)))) (fun y587 : Int => (some (y587, (0 : Int)))))))))))
theorem tile_Best_is : stepS E cp43 noE 14 [rA tsNode n_, rl tsI4 in_] = Option.bind (tile_Best n_ in_) (fun y : (Int × Int) => some (.tup [ri y.1, ri y.2] : R)) := by
  refine .trans ?_ (bind_b fun y247 => (bind_b fun y270 => (bif_b some_b (bind_b (either_b (fun y586 => some_b) (fun y587 => some_b))))))
  refine (stepG_is (nt := 43) (regs := [(0, rA tsNode n_), (1, rl tsI4 in_)])).trans ?_
  refine (pre2 (tile_Best_r1 n_ in_ _)).trans (bind_g fun y247 => ?_)
  refine .trans seq_push ?_
  refine (pre1 (tile_Best_r2 n_ in_ y247 _)).trans (bind_g fun y270 => ?_)
  refine (cond_e (b := y270) (st' := (S43_0 n_ in_ y247)) ).trans (bif_g ?_ ?_)
  · refine (pre1 (tile_Best_fz n_ in_ y247 _)).trans ?_
    refine (ret_eq).trans ?_
    refine seqC_ret.trans ?_
    kernel_rfl
  · refine (skip_eq).trans ?_
    refine (seqC_normal (st' := (S43_1 n_ in_ y247))).trans ?_
    refine .trans seq_push ?_
    refine (pre1 (tile_Best_f5 n_ in_ y247 _)).trans ?_
    refine (block_push (id := 0)).trans ?_
    refine (tile_Best_l5 n_ in_ y247 _).trans (bind_g (either_g (fun y586 => ?_) (fun y587 => ?_)))
    · refine block_same.trans ?_
      refine (seqC_normal (st' := ⟨[], [[]], [], 43⟩)).trans ?_
      refine (pre1 (tile_Best_fzx3 _)).trans ?_
      refine (ret_eq).trans ?_
      kernel_rfl
    · refine block_ret.trans ?_
      refine seqC_ret.trans ?_
      kernel_rfl
noncomputable def cp44 : CallP := withC cp43 14 [(.agg tsNode), (pL tsI4)] (.tup [pI, pI]) (fun y : (Int × Int) => (y.1, y.2, ())) (fun x => tile_Best x.1 x.2.1)
theorem cp44_ok : PureOK E cp44 := conS eok cp43_ok noE_ok fun x => Eq.mp (by kernel_rfl) (tile_Best_is x.1 x.2.1)
end
end Go.V.P
