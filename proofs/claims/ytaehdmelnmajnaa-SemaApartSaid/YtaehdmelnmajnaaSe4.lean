/- What functions compute. -/
import Derived.Test.YtaehdmelnmajnaaSe2
namespace Go.V.P
open Go.RowKit Go.V Go.Proofs
set_option linter.unusedVariables false
set_option maxRecDepth 100000
section
variable {α β : Type} (l_ : (List Op)) (y207 : Bool) (y208 : (List Int)) (s239 : (Int × (List Int))) (y247 : (List Int)) (y248 : (Int × (List Int))) (s506 : Int) (y549 : (List Int)) (s578 : (Int × (List Int))) (y583 : (List Int)) (y586 : (List Int)) (y587 : (Int × (List Int))) (k : St → Option α) (q : Kont α)
noncomputable abbrev C5 := codeOf E.P 4
noncomputable abbrev P5 := @preK α E 4 cp4 semE
noncomputable abbrev R5 := @runCode α E 4 cp4 semE
noncomputable abbrev Q5 := @seqC α E 4 cp4 semE
theorem law10_SemaApart_r1 : P5 2 C5 ⟨[(0, rl tsOp l_)], [], [], 106⟩ k = Option.bind law10_shown fun y207 : Bool => k ⟨[(0, rl tsOp l_), (3, rb y207)], [], [], 106⟩ := by kernel_rfl
abbrev S5_0 : St := ⟨[(0, rl tsOp l_), (3, rb y207), (4, rF 0)], [[.sem y208]], [], 106⟩
theorem law10_SemaApart_r2 : P5 1 C5.r.r ⟨[(0, rl tsOp l_), (3, rb y207)], [], [], 106⟩ k = Option.bind semNew fun y208 : (List Int) => k (S5_0 l_ y207 y208) := by kernel_rfl
def law10_SemaApart_r3_q (K : Bool → β) : β := (bif (!y207) then (K true) else (K false))
def law10_SemaApart_r3_p : Bool := law10_SemaApart_r3_q y207 (fun y => y)
theorem law10_SemaApart_r3_n (K : Bool → β) : law10_SemaApart_r3_q y207 K = K (law10_SemaApart_r3_p y207) := (bif_k K rfl rfl)
theorem law10_SemaApart_r3 : P5 1 C5.r.r.r.l (S5_0 l_ y207 y208) k = k ⟨[(0, rl tsOp l_), (4, rF 0), (16, rb (law10_SemaApart_r3_p y207))], [[.sem y208]], [], 106⟩ := Eq.trans (by kernel_rfl) (law10_SemaApart_r3_n y207 (fun y210 : Bool => k ⟨[(0, rl tsOp l_), (4, rF 0), (16, rb y210)], [[.sem y208]], [], 106⟩))
abbrev S5_1 : St := ⟨[(0, rl tsOp l_), (4, rF 0)], [[.sem y208]], [], 106⟩
theorem law10_SemaApart_fz : P5 1 C5.r.r.r.l.r.t (S5_1 l_ y208) k = k ⟨[(2, rb false)], [[.sem y208]], [], 106⟩ := by kernel_rfl
abbrev S5_2 : St := ⟨[(0, rl tsOp l_), (4, rF 0), (5, ri 0)], [[.sem y208]], [], 106⟩
theorem law10_SemaApart_f6 : P5 1 C5.r.r.r.r.l (S5_1 l_ y208) k = k (S5_2 l_ y208) := by kernel_rfl
def law10_SemaApart_r6_q (K : Bool → β) : β := (bif (decide (s239.1 < (l_.length : Int))) then (K (decide (s239.1 < 200))) else (K false))
def law10_SemaApart_r6_p : Bool := law10_SemaApart_r6_q l_ s239 (fun y => y)
theorem law10_SemaApart_r6_n (K : Bool → β) : law10_SemaApart_r6_q l_ s239 K = K (law10_SemaApart_r6_p l_ s239) := (bif_k K rfl rfl)
abbrev S5_3 : St := ⟨[(0, rl tsOp l_), (4, rF 0), (5, ri s239.1)], [[.sem s239.2]], [], 106⟩
theorem law10_SemaApart_r6 : P5 1 C5.r.r.r.r.l.r.b.b.l (S5_3 l_ s239) k = k ⟨[(0, rl tsOp l_), (4, rF 0), (5, ri s239.1), (24, rb (law10_SemaApart_r6_p l_ s239))], [[.sem s239.2]], [], 106⟩ := Eq.trans (by kernel_rfl) (law10_SemaApart_r6_n l_ s239 (fun y241 : Bool => k ⟨[(0, rl tsOp l_), (4, rF 0), (5, ri s239.1), (24, rb y241)], [[.sem s239.2]], [], 106⟩))
def law10_SemaApart_r8_p : Option Unit := (bif (decide ((0 : Int) ≤ s239.1)) then (bif (decide (s239.1 < (l_.length : Int))) then (some ()) else none) else none)
theorem law10_SemaApart_r8 : P5 1 C5.r.r.r.r.l.r.b.b.r.l.b (S5_3 l_ s239) k = Option.bind (law10_SemaApart_r8_p l_ s239) (fun y242 : Unit => k ⟨[(0, rl tsOp l_), (4, rF 0), (5, ri s239.1), (31, rb ((gt l_ s239.1 dOp).2))], [[.sem s239.2]], [], 106⟩) := .trans (by kernel_rfl) (bif_b (bif_b some_b none_b) none_b)
def law10_SemaApart_r9_p : Option (List Int) := (bif (decide ((0 : Int) ≤ s239.1)) then (bif (decide (s239.1 < (l_.length : Int))) then (Option.bind (semSignal s239.2 (IntKind.wrap .i64 ((BitVec.ofInt (IntKind.bits .i64) ((gt l_ s239.1 dOp).1) &&& BitVec.ofInt (IntKind.bits .i64) (7 : Int)).toNat : Int))) (fun y243 : (Int × (List Int)) => (some y243.2))) else none) else none)
abbrev S5_4 (y244 : (List Int)) : St := ⟨[(0, rl tsOp l_), (4, rF 0), (5, ri s239.1)], [[.sem y244]], [], 106⟩
theorem law10_SemaApart_r9 : R5 C5.r.r.r.r.l.r.b.b.r.l.b.r.t (S5_3 l_ s239) q = Option.bind (law10_SemaApart_r9_p l_ s239) (fun y244 : (List Int) => q .normal (S5_4 l_ s239 y244)) := .trans (by kernel_rfl) (bif_b (bif_b (bind_b fun y243 => some_b) none_b) none_b)
def law10_SemaApart_r10_p : Option (List Int) := (bif (decide ((0 : Int) ≤ s239.1)) then (bif (decide (s239.1 < (l_.length : Int))) then (Option.bind (semWait s239.2 (IntKind.wrap .i64 ((BitVec.ofInt (IntKind.bits .i64) ((gt l_ s239.1 dOp).1) &&& BitVec.ofInt (IntKind.bits .i64) (7 : Int)).toNat : Int))) (fun y245 : (Int × (List Int)) => (some y245.2))) else none) else none)
abbrev S5_5 (y246 : (List Int)) : St := ⟨[(0, rl tsOp l_), (4, rF 0), (5, ri s239.1)], [[.sem y246]], [], 106⟩
theorem law10_SemaApart_r10 : R5 C5.r.r.r.r.l.r.b.b.r.l.b.r.e (S5_3 l_ s239) q = Option.bind (law10_SemaApart_r10_p l_ s239) (fun y246 : (List Int) => q .normal (S5_5 l_ s239 y246)) := .trans (by kernel_rfl) (bif_b (bif_b (bind_b fun y245 => some_b) none_b) none_b)
def law10_SemaApart_j8_p : Option (List Int) := (Option.bind (law10_SemaApart_r8_p l_ s239) (fun y242 : Unit => (bif (gt l_ s239.1 dOp).2 then (Option.bind (law10_SemaApart_r9_p l_ s239) (fun y244 : (List Int) => (some y244))) else (Option.bind (law10_SemaApart_r10_p l_ s239) (fun y246 : (List Int) => (some y246))))))
abbrev S5_6 : St := ⟨[(0, rl tsOp l_), (4, rF 0), (5, ri s239.1)], [[.sem y247]], [], 106⟩
theorem law10_SemaApart_j8 : R5 C5.r.r.r.r.l.r.b.b.r.l (S5_3 l_ s239) (Q5 C5.r.r.r.r.l.r.b.b.r.r q) = Option.bind (law10_SemaApart_j8_p l_ s239) (fun y247 : (List Int) => R5 C5.r.r.r.r.l.r.b.b.r.r (S5_6 l_ s239 y247) q) := by
  refine .trans ?_ (bind_b fun y242 => (bif_b (bind_b fun y244 => some_b) (bind_b fun y246 => some_b)))
  refine (block_push (id := 1)).trans ?_
  refine (pre1 (law10_SemaApart_r8 l_ s239 _)).trans (bind_g fun y242 => ?_)
  refine (cond_e (b := (gt l_ s239.1 dOp).2) (st' := (S5_3 l_ s239)) ).trans (bif_g ?_ ?_)
  · refine (law10_SemaApart_r9 l_ s239 _).trans (bind_g fun y244 => ?_)
    refine block_normal.trans ?_
    refine (seqC_normal (st' := (S5_4 l_ s239 y244))).trans ?_
    kernel_rfl
  · refine (law10_SemaApart_r10 l_ s239 _).trans (bind_g fun y246 => ?_)
    refine block_normal.trans ?_
    refine (seqC_normal (st' := (S5_5 l_ s239 y246))).trans ?_
    kernel_rfl
theorem law10_SemaApart_r7 : R5 C5.r.r.r.r.l.r.b.b.r.r (S5_6 l_ s239 y247) q = q .normal ⟨[(0, rl tsOp l_), (4, rF 0), (5, ri (IntKind.wrap .i64 (s239.1 + 1)))], [[.sem y247]], [], 106⟩ := by kernel_rfl
def law10_SemaApart_l6_p : Option ((Int × (List Int)) ⊕ (Int × (List Int))) := (bif (law10_SemaApart_r6_p l_ s239) then (Option.bind (law10_SemaApart_j8_p l_ s239) (fun y247 : (List Int) => (some (Sum.inl ((IntKind.wrap .i64 (s239.1 + 1)), y247))))) else (some (Sum.inr s239)))
abbrev S5_7 : St := ⟨[(0, rl tsOp l_), (4, rF 0), (5, ri y248.1)], [[.sem y248.2]], [], 106⟩
theorem law10_SemaApart_l6_b : R5 C5.r.r.r.r.l.r.b.b (S5_3 l_ s239) (loopKont 1 q) = Option.bind (law10_SemaApart_l6_p l_ s239) (either (fun y : (Int × (List Int)) => q .normal ⟨[(0, rl tsOp l_), (4, rF 0), (5, ri y.1)], [[.sem y.2]], [], 106⟩) (fun y248 : (Int × (List Int)) => q (.exit 0) (S5_7 l_ y248))) := by
  refine .trans ?_ (bif_b (bind_b fun y247 => e2_0) e2_1)
  refine .trans seq_push ?_
  refine (pre1 (law10_SemaApart_r6 l_ s239 _)).trans ?_
  refine (cond_e (b := (law10_SemaApart_r6_p l_ s239)) (st' := (S5_3 l_ s239)) ).trans (bif_g ?_ ?_)
  · refine (skip_eq).trans ?_
    refine (seqC_normal (st' := (S5_3 l_ s239))).trans ?_
    refine .trans seq_push ?_
    refine (law10_SemaApart_j8 l_ s239 _).trans (bind_g fun y247 => ?_)
    refine (law10_SemaApart_r7 l_ s239 y247 _).trans ?_
    kernel_rfl
  · refine ((exit_eq (j := 0))).trans ?_
    refine seqC_exit.trans ?_
    kernel_rfl
theorem law10_SemaApart_l6 : R5 C5.r.r.r.r.l.r.b (S5_2 l_ y208) q = Option.bind (iterN (law10_SemaApart_l6_p l_) LL ((0 : Int), y208)) (fun y248 : (Int × (List Int)) => q (.exit 0) (S5_7 l_ y248)) :=
  Eq.trans (by kernel_rfl) (loop_iter1 (S := fun s239 : (Int × (List Int)) => (S5_3 l_ s239)) (Y1 := fun y248 : (Int × (List Int)) => ((.exit 0), (S5_7 l_ y248))) (fun s q => law10_SemaApart_l6_b l_ s q) (fun z => rfl) LL ((0 : Int), y208))
abbrev S5_8 : St := ⟨[(0, rl tsOp l_), (4, rF 0), (6, ri 0)], [[.sem y248.2]], [], 106⟩
theorem law10_SemaApart_f12 : P5 1 C5.r.r.r.r.r.l ⟨[(0, rl tsOp l_), (4, rF 0)], [[.sem y248.2]], [], 106⟩ k = k (S5_8 l_ y248) := by kernel_rfl
abbrev S5_9 : St := ⟨[(0, rl tsOp l_), (4, rF 0), (6, ri s506)], [[.sem y248.2]], [], 106⟩
theorem law10_SemaApart_fzx1 : P5 1 C5.r.r.r.r.r.l.r.b.b.l (S5_9 l_ y248 s506) k = k ⟨[(0, rl tsOp l_), (4, rF 0), (6, ri s506), (49, rb (decide (s506 < 8)))], [[.sem y248.2]], [], 106⟩ := by kernel_rfl
abbrev S5_10 : St := ⟨[(0, rl tsOp l_), (4, rF 0), (6, ri s506), (7, rF 1)], [[.sem y248.2], [.sem y549]], [], 106⟩
theorem law10_SemaApart_r14 : P5 1 C5.r.r.r.r.r.l.r.b.b.r.l.b (S5_9 l_ y248 s506) k = Option.bind semNew fun y549 : (List Int) => k (S5_10 l_ y248 s506 y549) := by kernel_rfl
theorem law10_SemaApart_f1000016 : P5 1 C5.r.r.r.r.r.l.r.b.b.r.l.b.r.l (S5_10 l_ y248 s506 y549) k = k ⟨[(0, rl tsOp l_), (4, rF 0), (6, ri s506), (7, rF 1), (54, rb false)], [[.sem y248.2], [.sem y549]], [], 106⟩ := by kernel_rfl
abbrev S5_11 : St := ⟨[(0, rl tsOp l_), (4, rF 0), (6, ri s506), (7, rF 1), (8, ri 0)], [[.sem y248.2], [.sem y549]], [], 106⟩
theorem law10_SemaApart_f18 : P5 1 C5.r.r.r.r.r.l.r.b.b.r.l.b.r.r.l (S5_10 l_ y248 s506 y549) k = k (S5_11 l_ y248 s506 y549) := by kernel_rfl
def law10_SemaApart_r18_q (K : Bool → β) : β := (bif (decide (s578.1 < (l_.length : Int))) then (K (decide (s578.1 < 200))) else (K false))
def law10_SemaApart_r18_p : Bool := law10_SemaApart_r18_q l_ s578 (fun y => y)
theorem law10_SemaApart_r18_n (K : Bool → β) : law10_SemaApart_r18_q l_ s578 K = K (law10_SemaApart_r18_p l_ s578) := (bif_k K rfl rfl)
abbrev S5_12 : St := ⟨[(0, rl tsOp l_), (4, rF 0), (6, ri s506), (7, rF 1), (8, ri s578.1)], [[.sem y248.2], [.sem s578.2]], [], 106⟩
theorem law10_SemaApart_r18 : P5 1 C5.r.r.r.r.r.l.r.b.b.r.l.b.r.r.l.r.b.b.l (S5_12 l_ y248 s506 s578) k = k ⟨[(0, rl tsOp l_), (4, rF 0), (6, ri s506), (7, rF 1), (8, ri s578.1), (62, rb (law10_SemaApart_r18_p l_ s578))], [[.sem y248.2], [.sem s578.2]], [], 106⟩ := Eq.trans (by kernel_rfl) (law10_SemaApart_r18_n l_ s578 (fun y580 : Bool => k ⟨[(0, rl tsOp l_), (4, rF 0), (6, ri s506), (7, rF 1), (8, ri s578.1), (62, rb y580)], [[.sem y248.2], [.sem s578.2]], [], 106⟩))
def law10_SemaApart_r20_p : Option Bool := (bif (decide ((0 : Int) ≤ s578.1)) then (bif (decide (s578.1 < (l_.length : Int))) then (bif ((IntKind.wrap .i64 ((BitVec.ofInt (IntKind.bits .i64) ((gt l_ s578.1 dOp).1) &&& BitVec.ofInt (IntKind.bits .i64) (7 : Int)).toNat : Int)) == s506) then (bif (decide ((0 : Int) ≤ s578.1)) then (bif (decide (s578.1 < (l_.length : Int))) then (some ((gt l_ s578.1 dOp).2)) else none) else none) else (some false)) else none) else none)
theorem law10_SemaApart_r20 : P5 1 C5.r.r.r.r.r.l.r.b.b.r.l.b.r.r.l.r.b.b.r.l.b.l (S5_12 l_ y248 s506 s578) k = Option.bind (law10_SemaApart_r20_p l_ s506 s578) (fun y581 : Bool => k ⟨[(0, rl tsOp l_), (4, rF 0), (6, ri s506), (7, rF 1), (8, ri s578.1), (79, rb y581)], [[.sem y248.2], [.sem s578.2]], [], 106⟩) := .trans (by kernel_rfl) (bif_b (bif_b (bif_b (bif_b (bif_b some_b none_b) none_b) some_b) none_b) none_b)
abbrev S5_13 (y582 : (Int × (List Int))) : St := ⟨[(0, rl tsOp l_), (4, rF 0), (6, ri s506), (7, rF 1), (8, ri s578.1)], [[.sem y248.2], [.sem y582.2]], [], 106⟩
theorem law10_SemaApart_r21 : R5 C5.r.r.r.r.r.l.r.b.b.r.l.b.r.r.l.r.b.b.r.l.b.l.r.t (S5_12 l_ y248 s506 s578) q = Option.bind (semSignal s578.2 (0 : Int)) fun y582 : (Int × (List Int)) => q .normal (S5_13 l_ y248 s506 s578 y582) := by kernel_rfl
def law10_SemaApart_j20_p : Option (List Int) := (Option.bind (law10_SemaApart_r20_p l_ s506 s578) (fun y581 : Bool => (bif y581 then (Option.bind (semSignal s578.2 (0 : Int)) (fun y582 : (Int × (List Int)) => (some y582.2))) else (some s578.2))))
abbrev S5_14 : St := ⟨[(0, rl tsOp l_), (4, rF 0), (6, ri s506), (7, rF 1), (8, ri s578.1)], [[.sem y248.2], [.sem y583]], [], 106⟩
theorem law10_SemaApart_j20 : R5 C5.r.r.r.r.r.l.r.b.b.r.l.b.r.r.l.r.b.b.r.l.b.l (S5_12 l_ y248 s506 s578) (Q5 C5.r.r.r.r.r.l.r.b.b.r.l.b.r.r.l.r.b.b.r.l.b.r q) = Option.bind (law10_SemaApart_j20_p l_ s506 s578) (fun y583 : (List Int) => R5 C5.r.r.r.r.r.l.r.b.b.r.l.b.r.r.l.r.b.b.r.l.b.r (S5_14 l_ y248 s506 s578 y583) q) := by
  refine .trans ?_ (bind_b fun y581 => (bif_b (bind_b fun y582 => some_b) some_b))
  refine (pre1 (law10_SemaApart_r20 l_ y248 s506 s578 _)).trans (bind_g fun y581 => ?_)
  refine (cond_e (b := y581) (st' := (S5_12 l_ y248 s506 s578)) ).trans (bif_g ?_ ?_)
  · refine (law10_SemaApart_r21 l_ y248 s506 s578 _).trans (bind_g fun y582 => ?_)
    refine (seqC_normal (st' := (S5_13 l_ y248 s506 s578 y582))).trans ?_
    kernel_rfl
  · refine (skip_eq).trans ?_
    refine (seqC_normal (st' := (S5_12 l_ y248 s506 s578))).trans ?_
    kernel_rfl
def law10_SemaApart_r22_p : Option Bool := (bif (decide ((0 : Int) ≤ s578.1)) then (bif (decide (s578.1 < (l_.length : Int))) then (bif ((IntKind.wrap .i64 ((BitVec.ofInt (IntKind.bits .i64) ((gt l_ s578.1 dOp).1) &&& BitVec.ofInt (IntKind.bits .i64) (7 : Int)).toNat : Int)) == s506) then (bif (decide ((0 : Int) ≤ s578.1)) then (bif (decide (s578.1 < (l_.length : Int))) then (some (!(gt l_ s578.1 dOp).2)) else none) else none) else (some false)) else none) else none)
theorem law10_SemaApart_r22 : P5 1 C5.r.r.r.r.r.l.r.b.b.r.l.b.r.r.l.r.b.b.r.l.b.r (S5_14 l_ y248 s506 s578 y583) k = Option.bind (law10_SemaApart_r22_p l_ s506 s578) (fun y584 : Bool => k ⟨[(0, rl tsOp l_), (4, rF 0), (6, ri s506), (7, rF 1), (8, ri s578.1), (97, rb y584)], [[.sem y248.2], [.sem y583]], [], 106⟩) := .trans (by kernel_rfl) (bif_b (bif_b (bif_b (bif_b (bif_b some_b none_b) none_b) some_b) none_b) none_b)
abbrev S5_15 (y585 : (Int × (List Int))) : St := ⟨[(0, rl tsOp l_), (4, rF 0), (6, ri s506), (7, rF 1), (8, ri s578.1)], [[.sem y248.2], [.sem y585.2]], [], 106⟩
theorem law10_SemaApart_r23 : R5 C5.r.r.r.r.r.l.r.b.b.r.l.b.r.r.l.r.b.b.r.l.b.r.r.t (S5_14 l_ y248 s506 s578 y583) q = Option.bind (semWait y583 (0 : Int)) fun y585 : (Int × (List Int)) => q .normal (S5_15 l_ y248 s506 s578 y585) := by kernel_rfl
def law10_SemaApart_j20x1_p : Option (List Int) := (Option.bind (law10_SemaApart_j20_p l_ s506 s578) (fun y583 : (List Int) => (Option.bind (law10_SemaApart_r22_p l_ s506 s578) (fun y584 : Bool => (bif y584 then (Option.bind (semWait y583 (0 : Int)) (fun y585 : (Int × (List Int)) => (some y585.2))) else (some y583))))))
abbrev S5_16 : St := ⟨[(0, rl tsOp l_), (4, rF 0), (6, ri s506), (7, rF 1), (8, ri s578.1)], [[.sem y248.2], [.sem y586]], [], 106⟩
theorem law10_SemaApart_j20x1 : R5 C5.r.r.r.r.r.l.r.b.b.r.l.b.r.r.l.r.b.b.r.l (S5_12 l_ y248 s506 s578) (Q5 C5.r.r.r.r.r.l.r.b.b.r.l.b.r.r.l.r.b.b.r.r q) = Option.bind (law10_SemaApart_j20x1_p l_ s506 s578) (fun y586 : (List Int) => R5 C5.r.r.r.r.r.l.r.b.b.r.l.b.r.r.l.r.b.b.r.r (S5_16 l_ y248 s506 s578 y586) q) := by
  refine .trans ?_ (bind_b fun y583 => (bind_b fun y584 => (bif_b (bind_b fun y585 => some_b) some_b)))
  refine (block_push (id := 5)).trans ?_
  refine .trans seq_push ?_
  refine (law10_SemaApart_j20 l_ y248 s506 s578 _).trans (bind_g fun y583 => ?_)
  refine (pre1 (law10_SemaApart_r22 l_ y248 s506 s578 y583 _)).trans (bind_g fun y584 => ?_)
  refine (cond_e (b := y584) (st' := (S5_14 l_ y248 s506 s578 y583)) ).trans (bif_g ?_ ?_)
  · refine (law10_SemaApart_r23 l_ y248 s506 s578 y583 _).trans (bind_g fun y585 => ?_)
    refine block_normal.trans ?_
    refine (seqC_normal (st' := (S5_15 l_ y248 s506 s578 y585))).trans ?_
    kernel_rfl
  · refine (skip_eq).trans ?_
    refine block_normal.trans ?_
    refine (seqC_normal (st' := (S5_14 l_ y248 s506 s578 y583))).trans ?_
    kernel_rfl
theorem law10_SemaApart_r19 : R5 C5.r.r.r.r.r.l.r.b.b.r.l.b.r.r.l.r.b.b.r.r (S5_16 l_ y248 s506 s578 y586) q = q .normal ⟨[(0, rl tsOp l_), (4, rF 0), (6, ri s506), (7, rF 1), (8, ri (IntKind.wrap .i64 (s578.1 + 1)))], [[.sem y248.2], [.sem y586]], [], 106⟩ := by kernel_rfl
def law10_SemaApart_l18_p : Option ((Int × (List Int)) ⊕ (Int × (List Int))) := (bif (law10_SemaApart_r18_p l_ s578) then (Option.bind (law10_SemaApart_j20x1_p l_ s506 s578) (fun y586 : (List Int) => (some (Sum.inl ((IntKind.wrap .i64 (s578.1 + 1)), y586))))) else (some (Sum.inr s578)))
abbrev S5_17 : St := ⟨[(0, rl tsOp l_), (4, rF 0), (6, ri s506), (7, rF 1), (8, ri y587.1)], [[.sem y248.2], [.sem y587.2]], [], 106⟩
theorem law10_SemaApart_l18_b : R5 C5.r.r.r.r.r.l.r.b.b.r.l.b.r.r.l.r.b.b (S5_12 l_ y248 s506 s578) (loopKont 2 q) = Option.bind (law10_SemaApart_l18_p l_ s506 s578) (either (fun y : (Int × (List Int)) => q .normal ⟨[(0, rl tsOp l_), (4, rF 0), (6, ri s506), (7, rF 1), (8, ri y.1)], [[.sem y248.2], [.sem y.2]], [], 106⟩) (fun y587 : (Int × (List Int)) => q (.exit 4) (S5_17 l_ y248 s506 y587))) := by
  refine .trans ?_ (bif_b (bind_b fun y586 => e2_0) e2_1)
  refine .trans seq_push ?_
  refine (pre1 (law10_SemaApart_r18 l_ y248 s506 s578 _)).trans ?_
  refine (cond_e (b := (law10_SemaApart_r18_p l_ s578)) (st' := (S5_12 l_ y248 s506 s578)) ).trans (bif_g ?_ ?_)
  · refine (skip_eq).trans ?_
    refine (seqC_normal (st' := (S5_12 l_ y248 s506 s578))).trans ?_
    refine .trans seq_push ?_
    refine (law10_SemaApart_j20x1 l_ y248 s506 s578 _).trans (bind_g fun y586 => ?_)
    refine (law10_SemaApart_r19 l_ y248 s506 s578 y586 _).trans ?_
    kernel_rfl
  · refine ((exit_eq (j := 4))).trans ?_
    refine seqC_exit.trans ?_
    kernel_rfl
theorem law10_SemaApart_l18 : R5 C5.r.r.r.r.r.l.r.b.b.r.l.b.r.r.l.r.b (S5_11 l_ y248 s506 y549) q = Option.bind (iterN (law10_SemaApart_l18_p l_ s506) LL ((0 : Int), y549)) (fun y587 : (Int × (List Int)) => q (.exit 4) (S5_17 l_ y248 s506 y587)) :=
  Eq.trans (by kernel_rfl) (loop_iter1 (S := fun s578 : (Int × (List Int)) => (S5_12 l_ y248 s506 s578)) (Y1 := fun y587 : (Int × (List Int)) => ((.exit 4), (S5_17 l_ y248 s506 y587))) (fun s q => law10_SemaApart_l18_b l_ y248 s506 s q) (fun z => rfl) LL ((0 : Int), y549))
def law10_SemaApart_r24_p : Option Bool := (Option.bind (semCount y587.2 (0 : Int)) (fun y588 : Int => (Option.bind (semCount y248.2 s506) (fun y589 : Int => (some (y588 != y589))))))
abbrev S5_18 : St := ⟨[(0, rl tsOp l_), (4, rF 0), (6, ri s506), (7, rF 1)], [[.sem y248.2], [.sem y587.2]], [], 106⟩
theorem law10_SemaApart_r24 : P5 1 C5.r.r.r.r.r.l.r.b.b.r.l.b.r.r.r (S5_18 l_ y248 s506 y587) k = Option.bind (law10_SemaApart_r24_p y248 s506 y587) (fun y590 : Bool => k ⟨[(0, rl tsOp l_), (4, rF 0), (6, ri s506), (105, rb y590)], [[.sem y248.2], [.sem y587.2]], [], 106⟩) := .trans (by kernel_rfl) (bind_b fun y588 => (bind_b fun y589 => some_b))
abbrev S5_19 : St := ⟨[(0, rl tsOp l_), (4, rF 0), (6, ri s506)], [[.sem y248.2], [.sem y587.2]], [], 106⟩
theorem law10_SemaApart_fzx2 : P5 1 C5.r.r.r.r.r.l.r.b.b.r.l.b.r.r.r.r.t (S5_19 l_ y248 s506 y587) k = k ⟨[(2, rb false)], [[.sem y248.2], [.sem y587.2]], [], 106⟩ := by kernel_rfl
theorem law10_SemaApart_r13 : R5 C5.r.r.r.r.r.l.r.b.b.r.r (S5_19 l_ y248 s506 y587) q = q .normal ⟨[(0, rl tsOp l_), (4, rF 0), (6, ri (IntKind.wrap .i64 (s506 + 1)))], [[.sem y248.2], [.sem y587.2]], [], 106⟩ := by kernel_rfl
def law10_SemaApart_l12_p : Option (Int ⊕ (Int ⊕ (List Int))) := (bif (decide (s506 < 8)) then (Option.bind semNew (fun y549 : (List Int) => (Option.bind (iterN (law10_SemaApart_l18_p l_ s506) LL ((0 : Int), y549)) (fun y587 : (Int × (List Int)) => (Option.bind (law10_SemaApart_r24_p y248 s506 y587) (fun y590 : Bool => (bif y590 then (some (Sum.inr (Sum.inr y587.2))) else (some (Sum.inl (IntKind.wrap .i64 (s506 + 1))))))))))) else (some (Sum.inr (Sum.inl s506))))
abbrev S5_20 (y591 : Int) : St := ⟨[(0, rl tsOp l_), (4, rF 0), (6, ri y591)], [[.sem y248.2]], [], 106⟩
abbrev S5_21 (y592 : (List Int)) : St := ⟨[(2, rb false)], [[.sem y248.2], [.sem y592]], [], 106⟩
theorem law10_SemaApart_l12_b : R5 C5.r.r.r.r.r.l.r.b.b (S5_9 l_ y248 s506) (loopKont 1 q) = Option.bind (law10_SemaApart_l12_p l_ y248 s506) (either (fun y : Int => q .normal ⟨[(0, rl tsOp l_), (4, rF 0), (6, ri y)], [[.sem y248.2]], [], 106⟩) (either (fun y591 : Int => q (.exit 2) (S5_20 l_ y248 y591)) (fun y592 : (List Int) => q .ret (S5_21 y248 y592)))) := by
  refine .trans ?_ (bif_b (bind_b fun y549 => (bind_b fun y587 => (bind_b fun y590 => (bif_b e3_2 e3_0)))) e3_1)
  refine .trans seq_push ?_
  refine (pre1 (law10_SemaApart_fzx1 l_ y248 s506 _)).trans ?_
  refine (cond_e (b := (decide (s506 < 8))) (st' := (S5_9 l_ y248 s506)) ).trans (bif_g ?_ ?_)
  · refine (skip_eq).trans ?_
    refine (seqC_normal (st' := (S5_9 l_ y248 s506))).trans ?_
    refine .trans seq_push ?_
    refine (block_push (id := 3)).trans ?_
    refine (pre1 (law10_SemaApart_r14 l_ y248 s506 _)).trans (bind_g fun y549 => ?_)
    refine .trans seq_push ?_
    refine (pre1 (law10_SemaApart_f1000016 l_ y248 s506 y549 _)).trans ?_
    refine (cond_f (st' := (S5_10 l_ y248 s506 y549)) ).trans ?_
    refine (skip_eq).trans ?_
    refine (seqC_normal (st' := (S5_10 l_ y248 s506 y549))).trans ?_
    refine .trans seq_push ?_
    refine (pre1 (law10_SemaApart_f18 l_ y248 s506 y549 _)).trans ?_
    refine (block_push (id := 4)).trans ?_
    refine (law10_SemaApart_l18 l_ y248 s506 y549 _).trans (bind_g fun y587 => ?_)
    refine block_same.trans ?_
    refine (seqC_normal (st' := (S5_18 l_ y248 s506 y587))).trans ?_
    refine (pre1 (law10_SemaApart_r24 l_ y248 s506 y587 _)).trans (bind_g fun y590 => ?_)
    refine (cond_e (b := y590) (st' := (S5_19 l_ y248 s506 y587)) ).trans (bif_g ?_ ?_)
    · refine (pre1 (law10_SemaApart_fzx2 l_ y248 s506 y587 _)).trans ?_
      refine (ret_eq).trans ?_
      refine block_ret.trans ?_
      refine seqC_ret.trans ?_
      kernel_rfl
    · refine (skip_eq).trans ?_
      refine block_normal.trans ?_
      refine (seqC_normal (st' := (S5_19 l_ y248 s506 y587))).trans ?_
      refine (law10_SemaApart_r13 l_ y248 s506 y587 _).trans ?_
      kernel_rfl
  · refine ((exit_eq (j := 2))).trans ?_
    refine seqC_exit.trans ?_
    kernel_rfl
theorem law10_SemaApart_l12 : R5 C5.r.r.r.r.r.l.r.b (S5_8 l_ y248) q = Option.bind (iterN (law10_SemaApart_l12_p l_ y248) LL (0 : Int)) (either (fun y591 : Int => q (.exit 2) (S5_20 l_ y248 y591)) (fun y592 : (List Int) => q .ret (S5_21 y248 y592))) :=
  Eq.trans (by kernel_rfl) (loop_iter2 (S := fun s506 : Int => (S5_9 l_ y248 s506)) (Y1 := fun y591 : Int => ((.exit 2), (S5_20 l_ y248 y591))) (Y2 := fun y592 : (List Int) => (.ret, (S5_21 y248 y592))) (fun s q => law10_SemaApart_l12_b l_ y248 s q) (fun z => rfl) (fun z => rfl) LL (0 : Int))
theorem law10_SemaApart_fzx3 : P5 1 C5.r.r.r.r.r.r ⟨[], [[.sem y248.2]], [], 106⟩ k = k ⟨[(2, rb true)], [[.sem y248.2]], [], 106⟩ := by kernel_rfl
/-- quilt/quiltlaw10.SemaApart -/
def law10_SemaApart : Option Bool := (Option.bind law10_shown (fun y207 : Bool => (Option.bind semNew (fun y208 : (List Int) => (bif (law10_SemaApart_r3_p y207) then (some false) else (Option.bind (iterN (law10_SemaApart_l6_p l_) LL ((0 : Int), y208)) (fun y248 : (Int × (List Int)) => (Option.bind (iterN (law10_SemaApart_l12_p l_ y248) LL (0 : Int)) (either (fun y591 : Int => (some true)) (fun y592 : (List Int) => (some false)))))))))))
theorem law10_SemaApart_is : stepS E cp4 semE 4 [rl tsOp l_] = Option.bind (law10_SemaApart l_) (fun y : Bool => some (rb y : R)) := by
  refine .trans ?_ (bind_b fun y207 => (bind_b fun y208 => (bif_b some_b (bind_b fun y248 => (bind_b (either_b (fun y591 => some_b) (fun y592 => some_b)))))))
  refine (stepG_is (nt := 106) (regs := [(0, rl tsOp l_)])).trans ?_
  refine (pre2 (law10_SemaApart_r1 l_ _)).trans (bind_g fun y207 => ?_)
  refine (pre1 (law10_SemaApart_r2 l_ y207 _)).trans (bind_g fun y208 => ?_)
  refine .trans seq_push ?_
  refine (pre1 (law10_SemaApart_r3 l_ y207 y208 _)).trans ?_
  refine (cond_e (b := (law10_SemaApart_r3_p y207)) (st' := (S5_1 l_ y208)) ).trans (bif_g ?_ ?_)
  · refine (pre1 (law10_SemaApart_fz l_ y208 _)).trans ?_
    refine (ret_eq).trans ?_
    refine seqC_ret.trans ?_
    kernel_rfl
  · refine (skip_eq).trans ?_
    refine (seqC_normal (st' := (S5_1 l_ y208))).trans ?_
    refine .trans seq_push ?_
    refine (pre1 (law10_SemaApart_f6 l_ y208 _)).trans ?_
    refine (block_push (id := 0)).trans ?_
    refine (law10_SemaApart_l6 l_ y208 _).trans (bind_g fun y248 => ?_)
    refine block_same.trans ?_
    refine (seqC_normal (st' := ⟨[(0, rl tsOp l_), (4, rF 0)], [[.sem y248.2]], [], 106⟩)).trans ?_
    refine .trans seq_push ?_
    refine (pre1 (law10_SemaApart_f12 l_ y248 _)).trans ?_
    refine (block_push (id := 2)).trans ?_
    refine (law10_SemaApart_l12 l_ y248 _).trans (bind_g (either_g (fun y591 => ?_) (fun y592 => ?_)))
    · refine block_same.trans ?_
      refine (seqC_normal (st' := ⟨[], [[.sem y248.2]], [], 106⟩)).trans ?_
      refine (pre1 (law10_SemaApart_fzx3 y248 _)).trans ?_
      refine (ret_eq).trans ?_
      kernel_rfl
    · refine block_ret.trans ?_
      refine seqC_ret.trans ?_
      kernel_rfl
noncomputable def cp6 : CallP := withC cp4 4 [(pL tsOp)] (.one pB) (fun y : Bool => y) (fun x => law10_SemaApart x.1)
theorem cp6_ok : PureOK E cp6 := conS eok cp4_ok semE_ok fun x => Eq.mp (by kernel_rfl) (law10_SemaApart_is x.1)
theorem law10_SemaApart_walk (ht : law10_SemaApart l_ = some true) (w : World) (vs : List Value) (hrd : ∀ γ : Gh, Free γ → rdRs w γ [argR false (.one (.sl tsOp)) l_] vs) : Calls E.P 4 vs.toArray w fun e w' => e = .returned (.bool true) ∧ Below w.heap.size w w' :=
  walk_true (E := E) (stepS_ok eok cp4_ok semE_ok) (show stepS E cp4 semE 4 [rl tsOp l_] = some (.one (.g .bool true)) from by rw [law10_SemaApart_is, ht]; rfl) w fun γ hγ => Eq.mp (by kernel_rfl) (hrd γ hγ)
end
end Go.V.P
