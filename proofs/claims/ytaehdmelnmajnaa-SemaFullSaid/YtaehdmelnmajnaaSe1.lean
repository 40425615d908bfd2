/- What functions compute. -/
import Derived.Test.YtaehdmelnmajnaaSe0
namespace Go.V.P
open Go.RowKit Go.V Go.Proofs
set_option linter.unusedVariables false
set_option maxRecDepth 100000
section
variable {α β : Type} (at_ : Int) (many : Int) (y8 : Bool) (y9 : (List Int)) (s25 : (Int × (List Int))) (y27 : (Int × (List Int))) (y28 : (Int × (List Int))) (s41 : (Int × (List Int))) (y43 : (Int × (List Int))) (y44 : (Int × (List Int))) (k : St → Option α) (q : Kont α)
noncomputable abbrev C1 := codeOf E.P 3
noncomputable abbrev P1 := @preK α E 3 cp1 semE
noncomputable abbrev R1 := @runCode α E 3 cp1 semE
theorem law10_SemaFull_r1 : P1 2 C1 ⟨[(0, ri at_), (1, rk .u8 many)], [], [], 60⟩ k = Option.bind law10_shown fun y8 : Bool => k ⟨[(0, ri at_), (1, rk .u8 many), (5, rb y8)], [], [], 60⟩ := by kernel_rfl
abbrev S1_0 : St := ⟨[(0, ri at_), (1, rk .u8 many), (5, rb y8), (6, rF 0)], [[.sem y9]], [], 60⟩
theorem law10_SemaFull_r2 : P1 1 C1.r.r ⟨[(0, ri at_), (1, rk .u8 many), (5, rb y8)], [], [], 60⟩ k = Option.bind semNew fun y9 : (List Int) => k (S1_0 at_ many y8 y9) := by kernel_rfl
def law10_SemaFull_r3_q (K : Bool → β) : β := (bif (!y8) then (K true) else (K false))
def law10_SemaFull_r3_p : Bool := law10_SemaFull_r3_q y8 (fun y => y)
theorem law10_SemaFull_r3_n (K : Bool → β) : law10_SemaFull_r3_q y8 K = K (law10_SemaFull_r3_p y8) := (bif_k K rfl rfl)
theorem law10_SemaFull_r3 : P1 1 C1.r.r.r.l (S1_0 at_ many y8 y9) k = k ⟨[(0, ri at_), (1, rk .u8 many), (6, rF 0), (18, rb (law10_SemaFull_r3_p y8))], [[.sem y9]], [], 60⟩ := Eq.trans (by kernel_rfl) (law10_SemaFull_r3_n y8 (fun y11 : Bool => k ⟨[(0, ri at_), (1, rk .u8 many), (6, rF 0), (18, rb y11)], [[.sem y9]], [], 60⟩))
abbrev S1_1 : St := ⟨[(0, ri at_), (1, rk .u8 many), (6, rF 0)], [[.sem y9]], [], 60⟩
theorem law10_SemaFull_fz : P1 1 C1.r.r.r.l.r.t (S1_1 at_ many y9) k = k ⟨[(4, rb false)], [[.sem y9]], [], 60⟩ := by kernel_rfl
def law10_SemaFull_r5_q (K : Int → β) : β := (K (IntKind.wrap .i64 ((BitVec.ofInt (IntKind.bits .i64) at_ &&& BitVec.ofInt (IntKind.bits .i64) (7 : Int)).toNat : Int)))
def law10_SemaFull_r5_p : Int := law10_SemaFull_r5_q at_ (fun y => y)
theorem law10_SemaFull_r5_n (K : Int → β) : law10_SemaFull_r5_q at_ K = K (law10_SemaFull_r5_p at_) := rfl
abbrev S1_2 : St := ⟨[(1, rk .u8 many), (6, rF 0), (7, ri (law10_SemaFull_r5_p at_))], [[.sem y9]], [], 60⟩
theorem law10_SemaFull_r5 : P1 1 C1.r.r.r.r (S1_1 at_ many y9) k = k (S1_2 at_ many y9) := Eq.trans (by kernel_rfl) (law10_SemaFull_r5_n at_ (fun y12 : Int => k ⟨[(1, rk .u8 many), (6, rF 0), (7, ri y12)], [[.sem y9]], [], 60⟩))
def law10_SemaFull_r6_q (K : Int → β) : β := (K (IntKind.wrap .i64 (IntKind.wrap .u8 ((BitVec.ofInt (IntKind.bits .u8) many &&& BitVec.ofInt (IntKind.bits .u8) (31 : Int)).toNat : Int))))
def law10_SemaFull_r6_p : Int := law10_SemaFull_r6_q many (fun y => y)
theorem law10_SemaFull_r6_n (K : Int → β) : law10_SemaFull_r6_q many K = K (law10_SemaFull_r6_p many) := rfl
abbrev S1_3 : St := ⟨[(6, rF 0), (7, ri (law10_SemaFull_r5_p at_)), (8, ri (law10_SemaFull_r6_p many))], [[.sem y9]], [], 60⟩
theorem law10_SemaFull_r6 : P1 1 C1.r.r.r.r.r (S1_2 at_ many y9) k = k (S1_3 at_ many y9) := Eq.trans (by kernel_rfl) (law10_SemaFull_r6_n many (fun y13 : Int => k ⟨[(6, rF 0), (7, ri (law10_SemaFull_r5_p at_)), (8, ri y13)], [[.sem y9]], [], 60⟩))
abbrev S1_4 : St := ⟨[(6, rF 0), (7, ri (law10_SemaFull_r5_p at_)), (8, ri (law10_SemaFull_r6_p many)), (9, ri 0)], [[.sem y9]], [], 60⟩
theorem law10_SemaFull_f8 : P1 1 C1.r.r.r.r.r.r.l (S1_3 at_ many y9) k = k (S1_4 at_ many y9) := by kernel_rfl
abbrev S1_5 : St := ⟨[(6, rF 0), (7, ri (law10_SemaFull_r5_p at_)), (8, ri (law10_SemaFull_r6_p many)), (9, ri s25.1)], [[.sem s25.2]], [], 60⟩
theorem law10_SemaFull_fzx1 : P1 1 C1.r.r.r.r.r.r.l.r.b.b.l (S1_5 at_ many s25) k = k ⟨[(6, rF 0), (7, ri (law10_SemaFull_r5_p at_)), (8, ri (law10_SemaFull_r6_p many)), (9, ri s25.1), (26, rb (decide (s25.1 < (law10_SemaFull_r6_p many))))], [[.sem s25.2]], [], 60⟩ := by kernel_rfl
theorem law10_SemaFull_r10 : P1 1 C1.r.r.r.r.r.r.l.r.b.b.r.l.b (S1_5 at_ many s25) k = Option.bind (semSignal s25.2 (law10_SemaFull_r5_p at_)) fun y27 : (Int × (List Int)) => k ⟨[(6, rF 0), (7, ri (law10_SemaFull_r5_p at_)), (8, ri (law10_SemaFull_r6_p many)), (9, ri s25.1), (35, rb (!((y27.1 == 0) == (decide (s25.1 < 15)))))], [[.sem y27.2]], [], 60⟩ := by kernel_rfl
abbrev S1_6 : St := ⟨[(6, rF 0), (7, ri (law10_SemaFull_r5_p at_)), (8, ri (law10_SemaFull_r6_p many)), (9, ri s25.1)], [[.sem y27.2]], [], 60⟩
theorem law10_SemaFull_fzx2 : P1 1 C1.r.r.r.r.r.r.l.r.b.b.r.l.b.r.t (S1_6 at_ many s25 y27) k = k ⟨[(4, rb false)], [[.sem y27.2]], [], 60⟩ := by kernel_rfl
theorem law10_SemaFull_r9 : R1 C1.r.r.r.r.r.r.l.r.b.b.r.r (S1_6 at_ many s25 y27) q = q .normal ⟨[(6, rF 0), (7, ri (law10_SemaFull_r5_p at_)), (8, ri (law10_SemaFull_r6_p many)), (9, ri (IntKind.wrap .i64 (s25.1 + 1)))], [[.sem y27.2]], [], 60⟩ := by kernel_rfl
def law10_SemaFull_l8_p : Option ((Int × (List Int)) ⊕ ((Int × (List Int)) ⊕ (List Int))) := (bif (decide (s25.1 < (law10_SemaFull_r6_p many))) then (Option.bind (semSignal s25.2 (law10_SemaFull_r5_p at_)) (fun y27 : (Int × (List Int)) => (bif (!((y27.1 == 0) == (decide (s25.1 < 15)))) then (some (Sum.inr (Sum.inr y27.2))) else (some (Sum.inl ((IntKind.wrap .i64 (s25.1 + 1)), y27.2)))))) else (some (Sum.inr (Sum.inl s25))))
abbrev S1_7 : St := ⟨[(6, rF 0), (7, ri (law10_SemaFull_r5_p at_)), (8, ri (law10_SemaFull_r6_p many)), (9, ri y28.1)], [[.sem y28.2]], [], 60⟩
abbrev S1_8 (y29 : (List Int)) : St := ⟨[(4, rb false)], [[.sem y29]], [], 60⟩
theorem law10_SemaFull_l8_b : R1 C1.r.r.r.r.r.r.l.r.b.b (S1_5 at_ many s25) (loopKont 1 q) = Option.bind (law10_SemaFull_l8_p at_ many s25) (either (fun y : (Int × (List Int)) => q .normal ⟨[(6, rF 0), (7, ri (law10_SemaFull_r5_p at_)), (8, ri (law10_SemaFull_r6_p many)), (9, ri y.1)], [[.sem y.2]], [], 60⟩) (either (fun y28 : (Int × (List Int)) => q (.exit 0) (S1_7 at_ many y28)) (fun y29 : (List Int) => q .ret (S1_8 y29)))) := by
  refine .trans ?_ (bif_b (bind_b fun y27 => (bif_b e3_2 e3_0)) e3_1)
  refine .trans seq_push ?_
  refine (pre1 (law10_SemaFull_fzx1 at_ many s25 _)).trans ?_
  refine (cond_e (b := (decide (s25.1 < (law10_SemaFull_r6_p many)))) (st' := (S1_5 at_ many s25)) ).trans (bif_g ?_ ?_)
  · refine (skip_eq).trans ?_
    refine (seqC_normal (st' := (S1_5 at_ many s25))).trans ?_
    refine .trans seq_push ?_
    refine (block_push (id := 1)).trans ?_
    refine (pre1 (law10_SemaFull_r10 at_ many s25 _)).trans (bind_g fun y27 => ?_)
    refine (cond_e (b := (!((y27.1 == 0) == (decide (s25.1 < 15))))) (st' := (S1_6 at_ many s25 y27)) ).trans (bif_g ?_ ?_)
    · refine (pre1 (law10_SemaFull_fzx2 at_ many s25 y27 _)).trans ?_
      refine (ret_eq).trans ?_
      refine block_ret.trans ?_
      refine seqC_ret.trans ?_
      kernel_rfl
    · refine (skip_eq).trans ?_
      refine block_normal.trans ?_
      refine (seqC_normal (st' := (S1_6 at_ many s25 y27))).trans ?_
      refine (law10_SemaFull_r9 at_ many s25 y27 _).trans ?_
      kernel_rfl
  · refine ((exit_eq (j := 0))).trans ?_
    refine seqC_exit.trans ?_
    kernel_rfl
theorem law10_SemaFull_l8 : R1 C1.r.r.r.r.r.r.l.r.b (S1_4 at_ many y9) q = Option.bind (iterN (law10_SemaFull_l8_p at_ many) LL ((0 : Int), y9)) (either (fun y28 : (Int × (List Int)) => q (.exit 0) (S1_7 at_ many y28)) (fun y29 : (List Int) => q .ret (S1_8 y29))) :=
  Eq.trans (by kernel_rfl) (loop_iter2 (S := fun s25 : (Int × (List Int)) => (S1_5 at_ many s25)) (Y1 := fun y28 : (Int × (List Int)) => ((.exit 0), (S1_7 at_ many y28))) (Y2 := fun y29 : (List Int) => (.ret, (S1_8 y29))) (fun s q => law10_SemaFull_l8_b at_ many s q) (fun z => rfl) (fun z => rfl) LL ((0 : Int), y9))
abbrev S1_9 : St := ⟨[(6, rF 0), (7, ri (law10_SemaFull_r5_p at_)), (8, ri (law10_SemaFull_r6_p many))], [[.sem y28.2]], [], 60⟩
abbrev S1_10 : St := ⟨[(6, rF 0), (7, ri (law10_SemaFull_r5_p at_)), (8, ri (law10_SemaFull_r6_p many)), (10, ri 0)], [[.sem y28.2]], [], 60⟩
theorem law10_SemaFull_f13 : P1 1 C1.r.r.r.r.r.r.r.l (S1_9 at_ many y28) k = k (S1_10 at_ many y28) := by kernel_rfl
abbrev S1_11 : St := ⟨[(6, rF 0), (7, ri (law10_SemaFull_r5_p at_)), (8, ri (law10_SemaFull_r6_p many)), (10, ri s41.1)], [[.sem s41.2]], [], 60⟩
theorem law10_SemaFull_fzx3 : P1 1 C1.r.r.r.r.r.r.r.l.r.b.b.l (S1_11 at_ many s41) k = k ⟨[(6, rF 0), (7, ri (law10_SemaFull_r5_p at_)), (8, ri (law10_SemaFull_r6_p many)), (10, ri s41.1), (38, rb (decide (s41.1 < (law10_SemaFull_r6_p many))))], [[.sem s41.2]], [], 60⟩ := by kernel_rfl
theorem law10_SemaFull_r15 : P1 1 C1.r.r.r.r.r.r.r.l.r.b.b.r.l.b (S1_11 at_ many s41) k = Option.bind (semWait s41.2 (law10_SemaFull_r5_p at_)) fun y43 : (Int × (List Int)) => k ⟨[(6, rF 0), (7, ri (law10_SemaFull_r5_p at_)), (8, ri (law10_SemaFull_r6_p many)), (10, ri s41.1), (49, rb (!((y43.1 == 0) == (decide (s41.1 < (min (law10_SemaFull_r6_p many) (15 : Int)))))))], [[.sem y43.2]], [], 60⟩ := by kernel_rfl
abbrev S1_12 : St := ⟨[(6, rF 0), (7, ri (law10_SemaFull_r5_p at_)), (8, ri (law10_SemaFull_r6_p many)), (10, ri s41.1)], [[.sem y43.2]], [], 60⟩
theorem law10_SemaFull_fzx4 : P1 1 C1.r.r.r.r.r.r.r.l.r.b.b.r.l.b.r.t (S1_12 at_ many s41 y43) k = k ⟨[(4, rb false)], [[.sem y43.2]], [], 60⟩ := by kernel_rfl
theorem law10_SemaFull_r14 : R1 C1.r.r.r.r.r.r.r.l.r.b.b.r.r (S1_12 at_ many s41 y43) q = q .normal ⟨[(6, rF 0), (7, ri (law10_SemaFull_r5_p at_)), (8, ri (law10_SemaFull_r6_p many)), (10, ri (IntKind.wrap .i64 (s41.1 + 1)))], [[.sem y43.2]], [], 60⟩ := by kernel_rfl
def law10_SemaFull_l13_p : Option ((Int × (List Int)) ⊕ ((Int × (List Int)) ⊕ (List Int))) := (bif (decide (s41.1 < (law10_SemaFull_r6_p many))) then (Option.bind (semWait s41.2 (law10_SemaFull_r5_p at_)) (fun y43 : (Int × (List Int)) => (bif (!((y43.1 == 0) == (decide (s41.1 < (min (law10_SemaFull_r6_p many) (15 : Int)))))) then (some (Sum.inr (Sum.inr y43.2))) else (some (Sum.inl ((IntKind.wrap .i64 (s41.1 + 1)), y43.2)))))) else (some (Sum.inr (Sum.inl s41))))
abbrev S1_13 : St := ⟨[(6, rF 0), (7, ri (law10_SemaFull_r5_p at_)), (8, ri (law10_SemaFull_r6_p many)), (10, ri y44.1)], [[.sem y44.2]], [], 60⟩
abbrev S1_14 (y45 : (List Int)) : St := ⟨[(4, rb false)], [[.sem y45]], [], 60⟩
theorem law10_SemaFull_l13_b : R1 C1.r.r.r.r.r.r.r.l.r.b.b (S1_11 at_ many s41) (loopKont 1 q) = Option.bind (law10_SemaFull_l13_p at_ many s41) (either (fun y : (Int × (List Int)) => q .normal ⟨[(6, rF 0), (7, ri (law10_SemaFull_r5_p at_)), (8, ri (law10_SemaFull_r6_p many)), (10, ri y.1)], [[.sem y.2]], [], 60⟩) (either (fun y44 : (Int × (List Int)) => q (.exit 2) (S1_13 at_ many y44)) (fun y45 : (List Int) => q .ret (S1_14 y45)))) := by
  refine .trans ?_ (bif_b (bind_b fun y43 => (bif_b e3_2 e3_0)) e3_1)
  refine .trans seq_push ?_
  refine (pre1 (law10_SemaFull_fzx3 at_ many s41 _)).trans ?_
  refine (cond_e (b := (decide (s41.1 < (law10_SemaFull_r6_p many)))) (st' := (S1_11 at_ many s41)) ).trans (bif_g ?_ ?_)
  · refine (skip_eq).trans ?_
    refine (seqC_normal (st' := (S1_11 at_ many s41))).trans ?_
    refine .trans seq_push ?_
    refine (block_push (id := 3)).trans ?_
    refine (pre1 (law10_SemaFull_r15 at_ many s41 _)).trans (bind_g fun y43 => ?_)
    refine (cond_e (b := (!((y43.1 == 0) == (decide (s41.1 < (min (law10_SemaFull_r6_p many) (15 : Int))))))) (st' := (S1_12 at_ many s41 y43)) ).trans (bif_g ?_ ?_)
    · refine (pre1 (law10_SemaFull_fzx4 at_ many s41 y43 _)).trans ?_
      refine (ret_eq).trans ?_
      refine block_ret.trans ?_
      refine seqC_ret.trans ?_
      kernel_rfl
    · refine (skip_eq).trans ?_
      refine block_normal.trans ?_
      refine (seqC_normal (st' := (S1_12 at_ many s41 y43))).trans ?_
      refine (law10_SemaFull_r14 at_ many s41 y43 _).trans ?_
      kernel_rfl
  · refine ((exit_eq (j := 2))).trans ?_
    refine seqC_exit.trans ?_
    kernel_rfl
theorem law10_SemaFull_l13 : R1 C1.r.r.r.r.r.r.r.l.r.b (S1_10 at_ many y28) q = Option.bind (iterN (law10_SemaFull_l13_p at_ many) LL ((0 : Int), y28.2)) (either (fun y44 : (Int × (List Int)) => q (.exit 2) (S1_13 at_ many y44)) (fun y45 : (List Int) => q .ret (S1_14 y45))) :=
  Eq.trans (by kernel_rfl) (loop_iter2 (S := fun s41 : (Int × (List Int)) => (S1_11 at_ many s41)) (Y1 := fun y44 : (Int × (List Int)) => ((.exit 2), (S1_13 at_ many y44))) (Y2 := fun y45 : (List Int) => (.ret, (S1_14 y45))) (fun s q => law10_SemaFull_l13_b at_ many s q) (fun z => rfl) (fun z => rfl) LL ((0 : Int), y28.2))
def law10_SemaFull_r17_p : Option (Bool × (List Int)) := (Option.bind (semCount y44.2 (law10_SemaFull_r5_p at_)) (fun y46 : Int => (bif (y46 == 0) then (Option.bind (semWait y44.2 (law10_SemaFull_r5_p at_)) (fun y47 : (Int × (List Int)) => (some ((y47.1 == 20), y47.2)))) else (some (false, y44.2)))))
abbrev S1_15 : St := ⟨[(6, rF 0), (7, ri (law10_SemaFull_r5_p at_))], [[.sem y44.2]], [], 60⟩
theorem law10_SemaFull_r17 : P1 1 C1.r.r.r.r.r.r.r.r (S1_15 at_ y44) k = Option.bind (law10_SemaFull_r17_p at_ y44) (fun y48 : (Bool × (List Int)) => k ⟨[(4, rb y48.1)], [[.sem y48.2]], [], 60⟩) := .trans (by kernel_rfl) (bind_b fun y46 => (bif_b (bind_b fun y47 => some_b) some_b))
/-- quilt/quiltlaw10.SemaFull -/
def law10_SemaFull : Option Bool := (Option.bind law10_shown (fun y8 : Bool => (Option.bind semNew (fun y9 : (List Int) => (bif (law10_SemaFull_r3_p y8) then (some false) else (Option.bind (iterN (law10_SemaFull_l8_p at_ many) LL ((0 : Int), y9)) (either (fun y28 : (Int × (List Int)) => (Option.bind (iterN (law10_SemaFull_l13_p at_ many) LL ((0 : Int), y28.2)) (either (fun y44 : (Int × (List Int)) => (Option.bind (law10_SemaFull_r17_p at_ y44) (fun y48 : (Bool × (List Int)) => (some y48.1)))) (fun y45 : (List Int) => (some false))))) (fun y29 : (List Int) => (some false)))))))))
theorem law10_SemaFull_is : stepS E cp1 semE 3 [ri at_, rk .u8 many] = Option.bind (law10_SemaFull at_ many) (fun y : Bool => some (rb y : R)) := by
  refine .trans ?_ (bind_b fun y8 => (bind_b fun y9 => (bif_b some_b (bind_b (either_b (fun y28 => (bind_b (either_b (fun y44 => (bind_b fun y48 => some_b)) (fun y45 => some_b)))) (fun y29 => some_b))))))
  refine (stepG_is (nt := 60) (regs := [(0, ri at_), (1, rk .u8 many)])).trans ?_
  refine (pre2 (law10_SemaFull_r1 at_ many _)).trans (bind_g fun y8 => ?_)
  refine (pre1 (law10_SemaFull_r2 at_ many y8 _)).trans (bind_g fun y9 => ?_)
  refine .trans seq_push ?_
  refine (pre1 (law10_SemaFull_r3 at_ many y8 y9 _)).trans ?_
  refine (cond_e (b := (law10_SemaFull_r3_p y8)) (st' := (S1_1 at_ many y9)) ).trans (bif_g ?_ ?_)
  · refine (pre1 (law10_SemaFull_fz at_ many y9 _)).trans ?_
    refine (ret_eq).trans ?_
    refine seqC_ret.trans ?_
    kernel_rfl
  · refine (skip_eq).trans ?_
    refine (seqC_normal (st' := (S1_1 at_ many y9))).trans ?_
    refine (pre1 (law10_SemaFull_r5 at_ many y9 _)).trans ?_
    refine (pre1 (law10_SemaFull_r6 at_ many y9 _)).trans ?_
    refine .trans seq_push ?_
    refine (pre1 (law10_SemaFull_f8 at_ many y9 _)).trans ?_
    refine (block_push (id := 0)).trans ?_
    refine (law10_SemaFull_l8 at_ many y9 _).trans (bind_g (either_g (fun y28 => ?_) (fun y29 => ?_)))
    · refine block_same.trans ?_
      refine (seqC_normal (st' := (S1_9 at_ many y28))).trans ?_
      refine .trans seq_push ?_
      refine (pre1 (law10_SemaFull_f13 at_ many y28 _)).trans ?_
      refine (block_push (id := 2)).trans ?_
      refine (law10_SemaFull_l13 at_ many y28 _).trans (bind_g (either_g (fun y44 => ?_) (fun y45 => ?_)))
      · refine block_same.trans ?_
        refine (seqC_normal (st' := (S1_15 at_ y44))).trans ?_
        refine (pre1 (law10_SemaFull_r17 at_ y44 _)).trans (bind_g fun y48 => ?_)
        refine (ret_eq).trans ?_
        kernel_rfl
      · refine block_ret.trans ?_
        refine seqC_ret.trans ?_
        kernel_rfl
    · refine block_ret.trans ?_
      refine seqC_ret.trans ?_
      kernel_rfl
noncomputable def cp2 : CallP := withC cp1 3 [pI, (.one (.g (.int .u8)))] (.one pB) (fun y : Bool => y) (fun x => law10_SemaFull x.1 x.2.1)
theorem cp2_ok : PureOK E cp2 := conS eok cp1_ok semE_ok fun x => Eq.mp (by kernel_rfl) (law10_SemaFull_is x.1 x.2.1)
theorem law10_SemaFull_walk (ht : law10_SemaFull at_ many = some true) (w : World) (vs : List Value) (hrd : ∀ γ : Gh, Free γ → rdRs w γ [argR false (.one (.int .i64)) at_, argR false (.one (.int .u8)) many] vs) : Calls E.P 3 vs.toArray w fun e w' => e = .returned (.bool true) ∧ Below w.heap.size w w' :=
  walk_true (E := E) (stepS_ok eok cp1_ok semE_ok) (show stepS E cp1 semE 3 [ri at_, rk .u8 many] = some (.one (.g .bool true)) from by rw [law10_SemaFull_is, ht]; rfl) w fun γ hγ => Eq.mp (by kernel_rfl) (hrd γ hγ)
end
end Go.V.P
