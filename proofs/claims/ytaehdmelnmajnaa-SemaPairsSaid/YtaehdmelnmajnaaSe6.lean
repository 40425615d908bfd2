/- What functions compute. -/
import Derived.Test.YtaehdmelnmajnaaSe5
namespace Go.V.P
open Go.RowKit Go.V Go.Proofs
set_option linter.unusedVariables false
set_option maxRecDepth 100000
section
variable {α β : Type} (l_ : (List Op)) (y593 : Bool) (y594 : (List Int)) (s756 : (Int × (List Int))) (y759 : Int) (y760 : (List Int)) (y761 : (Unit × (List Int))) (y765 : (Bool × (List Int))) (y768 : (Bool × (List Int))) (y769 : (List Int)) (y773 : Bool) (y776 : Bool) (y782 : ((List Int) × (List Int))) (y784 : (Int × (List Int))) (k : St → Option α) (q : Kont α)
noncomputable abbrev C7 := codeOf E.P 6
noncomputable abbrev P7 := @preK α E 6 cp4 ce1
noncomputable abbrev R7 := @runCode α E 6 cp4 ce1
noncomputable abbrev Q7 := @seqC α E 6 cp4 ce1
theorem law10_SemaPairs_r1 : P7 2 C7 ⟨[(0, rl tsOp l_)], [], [], 91⟩ k = Option.bind law10_shown fun y593 : Bool => k ⟨[(0, rl tsOp l_), (3, rb y593)], [], [], 91⟩ := by kernel_rfl
theorem law10_SemaPairs_r2 : P7 1 C7.r.r ⟨[(0, rl tsOp l_), (3, rb y593)], [], [], 91⟩ k = Option.bind semNew fun y594 : (List Int) => k ⟨[(0, rl tsOp l_), (3, rb y593), (4, rF 0)], [[.sem y594]], [], 91⟩ := by kernel_rfl
def law10_SemaPairs_r3_q (K : Bool → β) : β := (bif (!y593) then (K true) else (K false))
def law10_SemaPairs_r3_p : Bool := law10_SemaPairs_r3_q y593 (fun y => y)
theorem law10_SemaPairs_r3_n (K : Bool → β) : law10_SemaPairs_r3_q y593 K = K (law10_SemaPairs_r3_p y593) := (bif_k K rfl rfl)
theorem law10_SemaPairs_r3 : P7 1 C7.r.r.r.l ⟨[(0, rl tsOp l_), (3, rb y593), (4, rF 0)], [[.sem y594]], [], 91⟩ k = k ⟨[(0, rl tsOp l_), (4, rF 0), (18, rb (law10_SemaPairs_r3_p y593))], [[.sem y594]], [], 91⟩ := Eq.trans (by kernel_rfl) (law10_SemaPairs_r3_n y593 (fun y596 : Bool => k ⟨[(0, rl tsOp l_), (4, rF 0), (18, rb y596)], [[.sem y594]], [], 91⟩))
abbrev S7_0 : St := ⟨[(0, rl tsOp l_), (4, rF 0)], [[.sem y594]], [], 91⟩
theorem law10_SemaPairs_fz : P7 1 C7.r.r.r.l.r.t (S7_0 l_ y594) k = k ⟨[(2, rb false)], [[.sem y594]], [], 91⟩ := by kernel_rfl
abbrev S7_1 : St := ⟨[(0, rl tsOp l_), (4, rF 0), (5, ri 0)], [[.sem y594]], [], 91⟩
theorem law10_SemaPairs_f6 : P7 1 C7.r.r.r.r.l (S7_0 l_ y594) k = k (S7_1 l_ y594) := by kernel_rfl
def law10_SemaPairs_r6_q (K : Bool → β) : β := (bif (decide (s756.1 < (l_.length : Int))) then (K (decide (s756.1 < 200))) else (K false))
def law10_SemaPairs_r6_p : Bool := law10_SemaPairs_r6_q l_ s756 (fun y => y)
theorem law10_SemaPairs_r6_n (K : Bool → β) : law10_SemaPairs_r6_q l_ s756 K = K (law10_SemaPairs_r6_p l_ s756) := (bif_k K rfl rfl)
abbrev S7_2 : St := ⟨[(0, rl tsOp l_), (4, rF 0), (5, ri s756.1)], [[.sem s756.2]], [], 91⟩
theorem law10_SemaPairs_r6 : P7 1 C7.r.r.r.r.l.r.b.b.l (S7_2 l_ s756) k = k ⟨[(0, rl tsOp l_), (4, rF 0), (5, ri s756.1), (26, rb (law10_SemaPairs_r6_p l_ s756))], [[.sem s756.2]], [], 91⟩ := Eq.trans (by kernel_rfl) (law10_SemaPairs_r6_n l_ s756 (fun y758 : Bool => k ⟨[(0, rl tsOp l_), (4, rF 0), (5, ri s756.1), (26, rb y758)], [[.sem s756.2]], [], 91⟩))
def law10_SemaPairs_r8_p : Option Int := (bif (decide ((0 : Int) ≤ s756.1)) then (bif (decide (s756.1 < (l_.length : Int))) then (some (IntKind.wrap .i64 ((BitVec.ofInt (IntKind.bits .i64) ((gt l_ s756.1 dOp).1) &&& BitVec.ofInt (IntKind.bits .i64) (7 : Int)).toNat : Int))) else none) else none)
abbrev S7_3 : St := ⟨[(0, rl tsOp l_), (4, rF 0), (5, ri s756.1), (6, ri y759)], [[.sem s756.2]], [], 91⟩
theorem law10_SemaPairs_r8 : P7 1 C7.r.r.r.r.l.r.b.b.r.l.b (S7_2 l_ s756) k = Option.bind (law10_SemaPairs_r8_p l_ s756) (fun y759 : Int => k (S7_3 l_ s756 y759)) := .trans (by kernel_rfl) (bif_b (bif_b some_b none_b) none_b)
abbrev S7_4 : St := ⟨[(0, rl tsOp l_), (4, rF 0), (5, ri s756.1), (6, ri y759), (7, rl (.one (.int .i64)) y760)], [[.sem s756.2]], [], 91⟩
theorem law10_SemaPairs_r9 : P7 1 C7.r.r.r.r.l.r.b.b.r.l.b.r (S7_3 l_ s756 y759) k = Option.bind (semAll s756.2) fun y760 : (List Int) => k (S7_4 l_ s756 y759 y760) := by kernel_rfl
abbrev S7_5 : St := ⟨[(0, rl tsOp l_), (4, rF 0), (5, ri s756.1), (6, ri y759), (7, rl (.one (.int .i64)) y760), (8, rF 1)], [[.sem s756.2], [.sem y761.2]], [], 91⟩
theorem law10_SemaPairs_r10 : P7 1 C7.r.r.r.r.l.r.b.b.r.l.b.r.r (S7_4 l_ s756 y759 y760) k = Option.bind (sema_Sems_Clone s756.2) fun y761 : (Unit × (List Int)) => k (S7_5 l_ s756 y759 y760 y761) := by kernel_rfl
theorem law10_SemaPairs_f1000012 : P7 1 C7.r.r.r.r.l.r.b.b.r.l.b.r.r.r.l (S7_5 l_ s756 y759 y760 y761) k = k ⟨[(0, rl tsOp l_), (4, rF 0), (5, ri s756.1), (6, ri y759), (7, rl (.one (.int .i64)) y760), (8, rF 1), (40, rb false)], [[.sem s756.2], [.sem y761.2]], [], 91⟩ := by kernel_rfl
def law10_SemaPairs_r13_p : Option Unit := (bif (decide ((0 : Int) ≤ s756.1)) then (bif (decide (s756.1 < (l_.length : Int))) then (some ()) else none) else none)
theorem law10_SemaPairs_r13 : P7 1 C7.r.r.r.r.l.r.b.b.r.l.b.r.r.r.r.l (S7_5 l_ s756 y759 y760 y761) k = Option.bind (law10_SemaPairs_r13_p l_ s756) (fun y762 : Unit => k ⟨[(0, rl tsOp l_), (4, rF 0), (5, ri s756.1), (6, ri y759), (7, rl (.one (.int .i64)) y760), (8, rF 1), (45, rb ((gt l_ s756.1 dOp).2))], [[.sem s756.2], [.sem y761.2]], [], 91⟩) := .trans (by kernel_rfl) (bif_b (bif_b some_b none_b) none_b)
def law10_SemaPairs_r14_p : Option (Bool × (List Int)) := (Option.bind (semSignal y761.2 y759) (fun y763 : (Int × (List Int)) => (bif (y763.1 == 0) then (Option.bind (semWait y763.2 y759) (fun y764 : (Int × (List Int)) => (some ((y764.1 != 0), y764.2)))) else (some (false, y763.2)))))
theorem law10_SemaPairs_r14 : P7 1 C7.r.r.r.r.l.r.b.b.r.l.b.r.r.r.r.l.r.t (S7_5 l_ s756 y759 y760 y761) k = Option.bind (law10_SemaPairs_r14_p y759 y761) (fun y765 : (Bool × (List Int)) => k ⟨[(0, rl tsOp l_), (4, rF 0), (5, ri s756.1), (6, ri y759), (7, rl (.one (.int .i64)) y760), (8, rF 1), (55, rb y765.1)], [[.sem s756.2], [.sem y765.2]], [], 91⟩) := .trans (by kernel_rfl) (bind_b fun y763 => (bif_b (bind_b fun y764 => some_b) some_b))
abbrev S7_6 : St := ⟨[(0, rl tsOp l_), (4, rF 0), (5, ri s756.1), (6, ri y759), (7, rl (.one (.int .i64)) y760), (8, rF 1)], [[.sem s756.2], [.sem y765.2]], [], 91⟩
theorem law10_SemaPairs_fzx1 : P7 1 C7.r.r.r.r.l.r.b.b.r.l.b.r.r.r.r.l.r.t.r.t (S7_6 l_ s756 y759 y760 y765) k = k ⟨[(2, rb false)], [[.sem s756.2], [.sem y765.2]], [], 91⟩ := by kernel_rfl
def law10_SemaPairs_r16_p : Option (Bool × (List Int)) := (Option.bind (semWait y761.2 y759) (fun y766 : (Int × (List Int)) => (bif (y766.1 == 0) then (Option.bind (semSignal y766.2 y759) (fun y767 : (Int × (List Int)) => (some ((y767.1 != 0), y767.2)))) else (some (false, y766.2)))))
theorem law10_SemaPairs_r16 : P7 1 C7.r.r.r.r.l.r.b.b.r.l.b.r.r.r.r.l.r.e (S7_5 l_ s756 y759 y760 y761) k = Option.bind (law10_SemaPairs_r16_p y759 y761) (fun y768 : (Bool × (List Int)) => k ⟨[(0, rl tsOp l_), (4, rF 0), (5, ri s756.1), (6, ri y759), (7, rl (.one (.int .i64)) y760), (8, rF 1), (65, rb y768.1)], [[.sem s756.2], [.sem y768.2]], [], 91⟩) := .trans (by kernel_rfl) (bind_b fun y766 => (bif_b (bind_b fun y767 => some_b) some_b))
abbrev S7_7 : St := ⟨[(0, rl tsOp l_), (4, rF 0), (5, ri s756.1), (6, ri y759), (7, rl (.one (.int .i64)) y760), (8, rF 1)], [[.sem s756.2], [.sem y768.2]], [], 91⟩
theorem law10_SemaPairs_fzx2 : P7 1 C7.r.r.r.r.l.r.b.b.r.l.b.r.r.r.r.l.r.e.r.t (S7_7 l_ s756 y759 y760 y768) k = k ⟨[(2, rb false)], [[.sem s756.2], [.sem y768.2]], [], 91⟩ := by kernel_rfl
def law10_SemaPairs_j13_p : Option ((List Int) ⊕ (List Int)) := (Option.bind (law10_SemaPairs_r13_p l_ s756) (fun y762 : Unit => (bif (gt l_ s756.1 dOp).2 then (Option.bind (law10_SemaPairs_r14_p y759 y761) (fun y765 : (Bool × (List Int)) => (bif y765.1 then (some (Sum.inr y765.2)) else (some (Sum.inl y765.2))))) else (Option.bind (law10_SemaPairs_r16_p y759 y761) (fun y768 : (Bool × (List Int)) => (bif y768.1 then (some (Sum.inr y768.2)) else (some (Sum.inl y768.2))))))))
abbrev S7_8 : St := ⟨[(0, rl tsOp l_), (4, rF 0), (5, ri s756.1), (6, ri y759), (7, rl (.one (.int .i64)) y760), (8, rF 1)], [[.sem s756.2], [.sem y769]], [], 91⟩
theorem law10_SemaPairs_j13 : R7 C7.r.r.r.r.l.r.b.b.r.l.b.r.r.r.r.l (S7_5 l_ s756 y759 y760 y761) (Q7 C7.r.r.r.r.l.r.b.b.r.l.b.r.r.r.r.r q) = Option.bind (law10_SemaPairs_j13_p l_ s756 y759 y761) (either (fun y769 : (List Int) => R7 C7.r.r.r.r.l.r.b.b.r.l.b.r.r.r.r.r (S7_8 l_ s756 y759 y760 y769) q) (fun y770 : (List Int) => q .ret ⟨[(2, rb false)], [[.sem s756.2], [.sem y770]], [], 91⟩)) := by
  refine .trans ?_ (bind_b fun y762 => (bif_b (bind_b fun y765 => (bif_b e2_1 e2_0)) (bind_b fun y768 => (bif_b e2_1 e2_0))))
  refine (pre1 (law10_SemaPairs_r13 l_ s756 y759 y760 y761 _)).trans (bind_g fun y762 => ?_)
  refine (cond_e (b := (gt l_ s756.1 dOp).2) (st' := (S7_5 l_ s756 y759 y760 y761)) ).trans (bif_g ?_ ?_)
  · refine (pre1 (law10_SemaPairs_r14 l_ s756 y759 y760 y761 _)).trans (bind_g fun y765 => ?_)
    refine (cond_e (b := y765.1) (st' := (S7_6 l_ s756 y759 y760 y765)) ).trans (bif_g ?_ ?_)
    · refine (pre1 (law10_SemaPairs_fzx1 l_ s756 y759 y760 y765 _)).trans ?_
      refine (ret_eq).trans ?_
      refine seqC_ret.trans ?_
      kernel_rfl
    · refine (skip_eq).trans ?_
      refine (seqC_normal (st' := (S7_6 l_ s756 y759 y760 y765))).trans ?_
      kernel_rfl
  · refine (pre1 (law10_SemaPairs_r16 l_ s756 y759 y760 y761 _)).trans (bind_g fun y768 => ?_)
    refine (cond_e (b := y768.1) (st' := (S7_7 l_ s756 y759 y760 y768)) ).trans (bif_g ?_ ?_)
    · refine (pre1 (law10_SemaPairs_fzx2 l_ s756 y759 y760 y768 _)).trans ?_
      refine (ret_eq).trans ?_
      refine seqC_ret.trans ?_
      kernel_rfl
    · refine (skip_eq).trans ?_
      refine (seqC_normal (st' := (S7_7 l_ s756 y759 y760 y768))).trans ?_
      kernel_rfl
def law10_SemaPairs_r18_p : Option Bool := (Option.bind (semAll y769) (fun y771 : (List Int) => (Option.bind (ref03_Ints y771 y760) (fun y772 : Bool => (some y772)))))
abbrev S7_9 : St := ⟨[(0, rl tsOp l_), (4, rF 0), (5, ri s756.1), (6, ri y759), (7, rl (.one (.int .i64)) y760), (9, rb y773)], [[.sem s756.2], [.sem y769]], [], 91⟩
theorem law10_SemaPairs_r18 : P7 1 C7.r.r.r.r.l.r.b.b.r.l.b.r.r.r.r.r (S7_8 l_ s756 y759 y760 y769) k = Option.bind (law10_SemaPairs_r18_p y760 y769) (fun y773 : Bool => k (S7_9 l_ s756 y759 y760 y769 y773)) := .trans (by kernel_rfl) (bind_b fun y771 => (bind_b fun y772 => some_b))
def law10_SemaPairs_r19_p : Option Bool := (Option.bind (semAll s756.2) (fun y774 : (List Int) => (Option.bind (ref03_Ints y774 y760) (fun y775 : Bool => (some y775)))))
abbrev S7_10 : St := ⟨[(0, rl tsOp l_), (4, rF 0), (5, ri s756.1), (6, ri y759), (9, rb y773), (10, rb y776)], [[.sem s756.2], [.sem y769]], [], 91⟩
theorem law10_SemaPairs_r19 : P7 1 C7.r.r.r.r.l.r.b.b.r.l.b.r.r.r.r.r.r (S7_9 l_ s756 y759 y760 y769 y773) k = Option.bind (law10_SemaPairs_r19_p s756 y760) (fun y776 : Bool => k (S7_10 l_ s756 y759 y769 y773 y776)) := .trans (by kernel_rfl) (bind_b fun y774 => (bind_b fun y775 => some_b))
def law10_SemaPairs_r20_q (K : Bool → β) : β := (bif (!y773) then (K true) else (K (!y776)))
def law10_SemaPairs_r20_p : Bool := law10_SemaPairs_r20_q y773 y776 (fun y => y)
theorem law10_SemaPairs_r20_n (K : Bool → β) : law10_SemaPairs_r20_q y773 y776 K = K (law10_SemaPairs_r20_p y773 y776) := (bif_k K rfl rfl)
theorem law10_SemaPairs_r20 : P7 1 C7.r.r.r.r.l.r.b.b.r.l.b.r.r.r.r.r.r.r.l (S7_10 l_ s756 y759 y769 y773 y776) k = k ⟨[(0, rl tsOp l_), (4, rF 0), (5, ri s756.1), (6, ri y759), (79, rb (law10_SemaPairs_r20_p y773 y776))], [[.sem s756.2], [.sem y769]], [], 91⟩ := Eq.trans (by kernel_rfl) (law10_SemaPairs_r20_n y773 y776 (fun y778 : Bool => k ⟨[(0, rl tsOp l_), (4, rF 0), (5, ri s756.1), (6, ri y759), (79, rb y778)], [[.sem s756.2], [.sem y769]], [], 91⟩))
abbrev S7_11 : St := ⟨[(0, rl tsOp l_), (4, rF 0), (5, ri s756.1), (6, ri y759)], [[.sem s756.2], [.sem y769]], [], 91⟩
theorem law10_SemaPairs_fzx3 : P7 1 C7.r.r.r.r.l.r.b.b.r.l.b.r.r.r.r.r.r.r.l.r.t (S7_11 l_ s756 y759 y769) k = k ⟨[(2, rb false)], [[.sem s756.2], [.sem y769]], [], 91⟩ := by kernel_rfl
def law10_SemaPairs_r22_p : Option Unit := (bif (decide ((0 : Int) ≤ s756.1)) then (bif (decide (s756.1 < (l_.length : Int))) then (some ()) else none) else none)
theorem law10_SemaPairs_r22 : P7 1 C7.r.r.r.r.l.r.b.b.r.l.b.r.r.r.r.r.r.r.r (S7_11 l_ s756 y759 y769) k = Option.bind (law10_SemaPairs_r22_p l_ s756) (fun y779 : Unit => k ⟨[(0, rl tsOp l_), (4, rF 0), (5, ri s756.1), (6, ri y759), (84, rb ((gt l_ s756.1 dOp).2))], [[.sem s756.2], [.sem y769]], [], 91⟩) := .trans (by kernel_rfl) (bif_b (bif_b some_b none_b) none_b)
abbrev S7_12 (y780 : (Int × (List Int))) : St := ⟨[(0, rl tsOp l_), (4, rF 0), (5, ri s756.1)], [[.sem y780.2], [.sem y769]], [], 91⟩
theorem law10_SemaPairs_r23 : R7 C7.r.r.r.r.l.r.b.b.r.l.b.r.r.r.r.r.r.r.r.r.t (S7_11 l_ s756 y759 y769) q = Option.bind (semSignal s756.2 y759) fun y780 : (Int × (List Int)) => q .normal (S7_12 l_ s756 y769 y780) := by kernel_rfl
abbrev S7_13 (y781 : (Int × (List Int))) : St := ⟨[(0, rl tsOp l_), (4, rF 0), (5, ri s756.1)], [[.sem y781.2], [.sem y769]], [], 91⟩
theorem law10_SemaPairs_r24 : R7 C7.r.r.r.r.l.r.b.b.r.l.b.r.r.r.r.r.r.r.r.r.e (S7_11 l_ s756 y759 y769) q = Option.bind (semWait s756.2 y759) fun y781 : (Int × (List Int)) => q .normal (S7_13 l_ s756 y769 y781) := by kernel_rfl
def law10_SemaPairs_j8_p : Option (((List Int) × (List Int)) ⊕ (List Int)) := (Option.bind (law10_SemaPairs_r8_p l_ s756) (fun y759 : Int => (Option.bind (semAll s756.2) (fun y760 : (List Int) => (Option.bind (sema_Sems_Clone s756.2) (fun y761 : (Unit × (List Int)) => (Option.bind (law10_SemaPairs_j13_p l_ s756 y759 y761) (either (fun y769 : (List Int) => (Option.bind (law10_SemaPairs_r18_p y760 y769) (fun y773 : Bool => (Option.bind (law10_SemaPairs_r19_p s756 y760) (fun y776 : Bool => (bif (law10_SemaPairs_r20_p y773 y776) then (some (Sum.inr y769)) else (Option.bind (law10_SemaPairs_r22_p l_ s756) (fun y779 : Unit => (bif (gt l_ s756.1 dOp).2 then (Option.bind (semSignal s756.2 y759) (fun y780 : (Int × (List Int)) => (some (Sum.inl (y780.2, y769))))) else (Option.bind (semWait s756.2 y759) (fun y781 : (Int × (List Int)) => (some (Sum.inl (y781.2, y769)))))))))))))) (fun y770 : (List Int) => (some (Sum.inr y770)))))))))))
abbrev S7_14 : St := ⟨[(0, rl tsOp l_), (4, rF 0), (5, ri s756.1)], [[.sem y782.1], [.sem y782.2]], [], 91⟩
theorem law10_SemaPairs_j8 : R7 C7.r.r.r.r.l.r.b.b.r.l (S7_2 l_ s756) (Q7 C7.r.r.r.r.l.r.b.b.r.r q) = Option.bind (law10_SemaPairs_j8_p l_ s756) (either (fun y782 : ((List Int) × (List Int)) => R7 C7.r.r.r.r.l.r.b.b.r.r (S7_14 l_ s756 y782) q) (fun y783 : (List Int) => q .ret ⟨[(2, rb false)], [[.sem s756.2], [.sem y783]], [], 91⟩)) := by
  refine .trans ?_ (bind_b fun y759 => (bind_b fun y760 => (bind_b fun y761 => (bind_b (either_b (fun y769 => (bind_b fun y773 => (bind_b fun y776 => (bif_b e2_1 (bind_b fun y779 => (bif_b (bind_b fun y780 => e2_0) (bind_b fun y781 => e2_0))))))) (fun y770 => e2_1))))))
  refine (block_push (id := 1)).trans ?_
  refine (pre1 (law10_SemaPairs_r8 l_ s756 _)).trans (bind_g fun y759 => ?_)
  refine (pre1 (law10_SemaPairs_r9 l_ s756 y759 _)).trans (bind_g fun y760 => ?_)
  refine (pre1 (law10_SemaPairs_r10 l_ s756 y759 y760 _)).trans (bind_g fun y761 => ?_)
  refine .trans seq_push ?_
  refine (pre1 (law10_SemaPairs_f1000012 l_ s756 y759 y760 y761 _)).trans ?_
  refine (cond_f (st' := (S7_5 l_ s756 y759 y760 y761)) ).trans ?_
  refine (skip_eq).trans ?_
  refine (seqC_normal (st' := (S7_5 l_ s756 y759 y760 y761))).trans ?_
  refine .trans seq_push ?_
  refine (law10_SemaPairs_j13 l_ s756 y759 y760 y761 _).trans (bind_g (either_g (fun y769 => ?_) (fun y770 => ?_)))
  · refine (pre1 (law10_SemaPairs_r18 l_ s756 y759 y760 y769 _)).trans (bind_g fun y773 => ?_)
    refine (pre1 (law10_SemaPairs_r19 l_ s756 y759 y760 y769 y773 _)).trans (bind_g fun y776 => ?_)
    refine .trans seq_push ?_
    refine (pre1 (law10_SemaPairs_r20 l_ s756 y759 y769 y773 y776 _)).trans ?_
    refine (cond_e (b := (law10_SemaPairs_r20_p y773 y776)) (st' := (S7_11 l_ s756 y759 y769)) ).trans (bif_g ?_ ?_)
    · refine (pre1 (law10_SemaPairs_fzx3 l_ s756 y759 y769 _)).trans ?_
      refine (ret_eq).trans ?_
      refine seqC_ret.trans ?_
      refine block_ret.trans ?_
      refine seqC_ret.trans ?_
      kernel_rfl
    · refine (skip_eq).trans ?_
      refine (seqC_normal (st' := (S7_11 l_ s756 y759 y769))).trans ?_
      refine (pre1 (law10_SemaPairs_r22 l_ s756 y759 y769 _)).trans (bind_g fun y779 => ?_)
      refine (cond_e (b := (gt l_ s756.1 dOp).2) (st' := (S7_11 l_ s756 y759 y769)) ).trans (bif_g ?_ ?_)
      · refine (law10_SemaPairs_r23 l_ s756 y759 y769 _).trans (bind_g fun y780 => ?_)
        refine block_normal.trans ?_
        refine (seqC_normal (st' := (S7_12 l_ s756 y769 y780))).trans ?_
        kernel_rfl
      · refine (law10_SemaPairs_r24 l_ s756 y759 y769 _).trans (bind_g fun y781 => ?_)
        refine block_normal.trans ?_
        refine (seqC_normal (st' := (S7_13 l_ s756 y769 y781))).trans ?_
        kernel_rfl
  · refine block_ret.trans ?_
    refine seqC_ret.trans ?_
    kernel_rfl
theorem law10_SemaPairs_r7 : R7 C7.r.r.r.r.l.r.b.b.r.r (S7_14 l_ s756 y782) q = q .normal ⟨[(0, rl tsOp l_), (4, rF 0), (5, ri (IntKind.wrap .i64 (s756.1 + 1)))], [[.sem y782.1], [.sem y782.2]], [], 91⟩ := by kernel_rfl
def law10_SemaPairs_l6_p : Option ((Int × (List Int)) ⊕ ((Int × (List Int)) ⊕ ((List Int) × (List Int)))) := (bif (law10_SemaPairs_r6_p l_ s756) then (Option.bind (law10_SemaPairs_j8_p l_ s756) (either (fun y782 : ((List Int) × (List Int)) => (some (Sum.inl ((IntKind.wrap .i64 (s756.1 + 1)), y782.1)))) (fun y783 : (List Int) => (some (Sum.inr (Sum.inr (s756.2, y783))))))) else (some (Sum.inr (Sum.inl s756))))
abbrev S7_15 : St := ⟨[(0, rl tsOp l_), (4, rF 0), (5, ri y784.1)], [[.sem y784.2]], [], 91⟩
abbrev S7_16 (y785 : ((List Int) × (List Int))) : St := ⟨[(2, rb false)], [[.sem y785.1], [.sem y785.2]], [], 91⟩
theorem law10_SemaPairs_l6_b : R7 C7.r.r.r.r.l.r.b.b (S7_2 l_ s756) (loopKont 1 q) = Option.bind (law10_SemaPairs_l6_p l_ s756) (either (fun y : (Int × (List Int)) => q .normal ⟨[(0, rl tsOp l_), (4, rF 0), (5, ri y.1)], [[.sem y.2]], [], 91⟩) (either (fun y784 : (Int × (List Int)) => q (.exit 0) (S7_15 l_ y784)) (fun y785 : ((List Int) × (List Int)) => q .ret (S7_16 y785)))) := by
  refine .trans ?_ (bif_b (bind_b (either_b (fun y782 => e3_0) (fun y783 => e3_2))) e3_1)
  refine .trans seq_push ?_
  refine (pre1 (law10_SemaPairs_r6 l_ s756 _)).trans ?_
  refine (cond_e (b := (law10_SemaPairs_r6_p l_ s756)) (st' := (S7_2 l_ s756)) ).trans (bif_g ?_ ?_)
  · refine (skip_eq).trans ?_
    refine (seqC_normal (st' := (S7_2 l_ s756))).trans ?_
    refine .trans seq_push ?_
    refine (law10_SemaPairs_j8 l_ s756 _).trans (bind_g (either_g (fun y782 => ?_) (fun y783 => ?_)))
    · refine (law10_SemaPairs_r7 l_ s756 y782 _).trans ?_
      kernel_rfl
    · kernel_rfl
  · refine ((exit_eq (j := 0))).trans ?_
    refine seqC_exit.trans ?_
    kernel_rfl
theorem law10_SemaPairs_l6 : R7 C7.r.r.r.r.l.r.b (S7_1 l_ y594) q = Option.bind (iterN (law10_SemaPairs_l6_p l_) LL ((0 : Int), y594)) (either (fun y784 : (Int × (List Int)) => q (.exit 0) (S7_15 l_ y784)) (fun y785 : ((List Int) × (List Int)) => q .ret (S7_16 y785))) :=
  Eq.trans (by kernel_rfl) (loop_iter2 (S := fun s756 : (Int × (List Int)) => (S7_2 l_ s756)) (Y1 := fun y784 : (Int × (List Int)) => ((.exit 0), (S7_15 l_ y784))) (Y2 := fun y785 : ((List Int) × (List Int)) => (.ret, (S7_16 y785))) (fun s q => law10_SemaPairs_l6_b l_ s q) (fun z => rfl) (fun z => rfl) LL ((0 : Int), y594))
theorem law10_SemaPairs_fzx4 : P7 1 C7.r.r.r.r.r ⟨[], [[.sem y784.2]], [], 91⟩ k = k ⟨[(2, rb true)], [[.sem y784.2]], [], 91⟩ := by kernel_rfl
/-- quilt/quiltlaw10.SemaPairs -/
def law10_SemaPairs : Option Bool := (Option.bind law10_shown (fun y593 : Bool => (Option.bind semNew (fun y594 : (List Int) => (bif (law10_SemaPairs_r3_p y593) then (some false) else (Option.bind (iterN (law10_SemaPairs_l6_p l_) LL ((0 : Int), y594)) (either (fun y784 : (Int × (List Int)) => (some true)) (fun y785 : ((List Int) × (List Int)) => (some false)))))))))
theorem law10_SemaPairs_is : stepS E cp4 ce1 6 [rl tsOp l_] = Option.bind (law10_SemaPairs l_) (fun y : Bool => some (rb y : R)) := by
  refine .trans ?_ (bind_b fun y593 => (bind_b fun y594 => (bif_b some_b (bind_b (either_b (fun y784 => some_b) (fun y785 => some_b))))))
  refine (stepG_is (nt := 91) (regs := [(0, rl tsOp l_)])).trans ?_
  refine (pre2 (law10_SemaPairs_r1 l_ _)).trans (bind_g fun y593 => ?_)
  refine (pre1 (law10_SemaPairs_r2 l_ y593 _)).trans (bind_g fun y594 => ?_)
  refine .trans seq_push ?_
  refine (pre1 (law10_SemaPairs_r3 l_ y593 y594 _)).trans ?_
  refine (cond_e (b := (law10_SemaPairs_r3_p y593)) (st' := (S7_0 l_ y594)) ).trans (bif_g ?_ ?_)
  · refine (pre1 (law10_SemaPairs_fz l_ y594 _)).trans ?_
    refine (ret_eq).trans ?_
    refine seqC_ret.trans ?_
    kernel_rfl
  · refine (skip_eq).trans ?_
    refine (seqC_normal (st' := (S7_0 l_ y594))).trans ?_
    refine .trans seq_push ?_
    refine (pre1 (law10_SemaPairs_f6 l_ y594 _)).trans ?_
    refine (block_push (id := 0)).trans ?_
    refine (law10_SemaPairs_l6 l_ y594 _).trans (bind_g (either_g (fun y784 => ?_) (fun y785 => ?_)))
    · refine block_same.trans ?_
      refine (seqC_normal (st' := ⟨[], [[.sem y784.2]], [], 91⟩)).trans ?_
      refine (pre1 (law10_SemaPairs_fzx4 y784 _)).trans ?_
      refine (ret_eq).trans ?_
      kernel_rfl
    · refine block_ret.trans ?_
      refine seqC_ret.trans ?_
      kernel_rfl
noncomputable def cp7 : CallP := withC cp4 6 [(pL tsOp)] (.one pB) (fun y : Bool => y) (fun x => law10_SemaPairs x.1)
theorem cp7_ok : PureOK E cp7 := conS eok cp4_ok ce1_ok fun x => Eq.mp (by kernel_rfl) (law10_SemaPairs_is x.1)
theorem law10_SemaPairs_walk (ht : law10_SemaPairs l_ = some true) (w : World) (vs : List Value) (hrd : ∀ γ : Gh, Free γ → rdRs w γ [argR false (.one (.sl tsOp)) l_] vs) : Calls E.P 6 vs.toArray w fun e w' => e = .returned (.bool true) ∧ Below w.heap.size w w' :=
  walk_true (E := E) (stepS_ok eok cp4_ok ce1_ok) (show stepS E cp4 ce1 6 [rl tsOp l_] = some (.one (.g .bool true)) from by rw [law10_SemaPairs_is, ht]; rfl) w fun γ hγ => Eq.mp (by kernel_rfl) (hrd γ hγ)
end
end Go.V.P
