/- What functions compute. -/
import Derived.Test.YtaehdmelnmajnaaSe2
namespace Go.V.P
open Go.RowKit Go.V Go.Proofs
set_option linter.unusedVariables false
set_option maxRecDepth 100000
section
variable {α β : Type} (l_ : (List Op)) (y49 : Bool) (y50 : (List Int)) (s172 : (Int × (List Int) × (List Int))) (y190 : Int) (y192 : (Int × (List Int))) (y196 : (Int × (List Int))) (y200 : ((List Int) × (List Int))) (y204 : Bool) (y205 : (Int × (List Int) × (List Int))) (k : St → Option α) (q : Kont α)
noncomputable abbrev C4 := codeOf E.P 5
noncomputable abbrev P4 := @preK α E 5 cp4 semE
noncomputable abbrev R4 := @runCode α E 5 cp4 semE
noncomputable abbrev Q4 := @seqC α E 5 cp4 semE
theorem law10_SemaCounts_r1 : P4 2 C4 ⟨[(0, rl tsOp l_)], [], [], 101⟩ k = Option.bind law10_shown fun y49 : Bool => k ⟨[(0, rl tsOp l_), (3, rb y49)], [], [], 101⟩ := by kernel_rfl
abbrev S4_0 : St := ⟨[(0, rl tsOp l_), (3, rb y49), (4, rF 0)], [[.sem y50]], [], 101⟩
theorem law10_SemaCounts_r2 : P4 1 C4.r.r ⟨[(0, rl tsOp l_), (3, rb y49)], [], [], 101⟩ k = Option.bind semNew fun y50 : (List Int) => k (S4_0 l_ y49 y50) := by kernel_rfl
def law10_SemaCounts_r3_q (K : Bool → β) : β := (bif (!y49) then (K true) else (K false))
def law10_SemaCounts_r3_p : Bool := law10_SemaCounts_r3_q y49 (fun y => y)
theorem law10_SemaCounts_r3_n (K : Bool → β) : law10_SemaCounts_r3_q y49 K = K (law10_SemaCounts_r3_p y49) := (bif_k K rfl rfl)
theorem law10_SemaCounts_r3 : P4 1 C4.r.r.r.l (S4_0 l_ y49 y50) k = k ⟨[(0, rl tsOp l_), (4, rF 0), (18, rb (law10_SemaCounts_r3_p y49))], [[.sem y50]], [], 101⟩ := Eq.trans (by kernel_rfl) (law10_SemaCounts_r3_n y49 (fun y52 : Bool => k ⟨[(0, rl tsOp l_), (4, rF 0), (18, rb y52)], [[.sem y50]], [], 101⟩))
abbrev S4_1 : St := ⟨[(0, rl tsOp l_), (4, rF 0)], [[.sem y50]], [], 101⟩
theorem law10_SemaCounts_fz : P4 1 C4.r.r.r.l.r.t (S4_1 l_ y50) k = k ⟨[(2, rb false)], [[.sem y50]], [], 101⟩ := by kernel_rfl
def law10_SemaCounts_r5_p : Option Unit := (bif (decide ((8 : Int) ≤ (maxL : Int))) then (some ()) else none)
abbrev S4_2 : St := ⟨[(0, rl tsOp l_), (4, rF 0), (5, .one (.vref 1 8))], [[.sem y50], [.vec (.int .i64) (List.replicate 8 (0 : Int))]], [], 101⟩
theorem law10_SemaCounts_r5 : P4 1 C4.r.r.r.r (S4_1 l_ y50) k = Option.bind (law10_SemaCounts_r5_p) (fun y53 : Unit => k (S4_2 l_ y50)) := .trans (by kernel_rfl) (bif_b some_b none_b)
abbrev S4_3 : St := ⟨[(0, rl tsOp l_), (4, rF 0), (5, .one (.vref 1 8)), (6, ri 0)], [[.sem y50], [.vec (.int .i64) (List.replicate 8 (0 : Int))]], [], 101⟩
theorem law10_SemaCounts_f7 : P4 1 C4.r.r.r.r.r.l (S4_2 l_ y50) k = k (S4_3 l_ y50) := by kernel_rfl
def law10_SemaCounts_r7_q (K : Bool → β) : β := (bif (decide (s172.1 < (l_.length : Int))) then (K (decide (s172.1 < 200))) else (K false))
def law10_SemaCounts_r7_p : Bool := law10_SemaCounts_r7_q l_ s172 (fun y => y)
theorem law10_SemaCounts_r7_n (K : Bool → β) : law10_SemaCounts_r7_q l_ s172 K = K (law10_SemaCounts_r7_p l_ s172) := (bif_k K rfl rfl)
abbrev S4_4 : St := ⟨[(0, rl tsOp l_), (4, rF 0), (5, .one (.vref 1 8)), (6, ri s172.1)], [[.sem s172.2.1], [.vec (.int .i64) s172.2.2]], [], 101⟩
theorem law10_SemaCounts_r7 : P4 1 C4.r.r.r.r.r.l.r.b.b.l (S4_4 l_ s172) k = k ⟨[(0, rl tsOp l_), (4, rF 0), (5, .one (.vref 1 8)), (6, ri s172.1), (27, rb (law10_SemaCounts_r7_p l_ s172))], [[.sem s172.2.1], [.vec (.int .i64) s172.2.2]], [], 101⟩ := Eq.trans (by kernel_rfl) (law10_SemaCounts_r7_n l_ s172 (fun y174 : Bool => k ⟨[(0, rl tsOp l_), (4, rF 0), (5, .one (.vref 1 8)), (6, ri s172.1), (27, rb y174)], [[.sem s172.2.1], [.vec (.int .i64) s172.2.2]], [], 101⟩))
def law10_SemaCounts_r9_p : Option Int := (bif (decide ((0 : Int) ≤ s172.1)) then (bif (decide (s172.1 < (l_.length : Int))) then (some (IntKind.wrap .i64 ((BitVec.ofInt (IntKind.bits .i64) ((gt l_ s172.1 dOp).1) &&& BitVec.ofInt (IntKind.bits .i64) (7 : Int)).toNat : Int))) else none) else none)
abbrev S4_5 : St := ⟨[(0, rl tsOp l_), (4, rF 0), (5, .one (.vref 1 8)), (6, ri s172.1), (7, ri y190)], [[.sem s172.2.1], [.vec (.int .i64) s172.2.2]], [], 101⟩
theorem law10_SemaCounts_r9 : P4 1 C4.r.r.r.r.r.l.r.b.b.r.l.b (S4_4 l_ s172) k = Option.bind (law10_SemaCounts_r9_p l_ s172) (fun y190 : Int => k (S4_5 l_ s172 y190)) := .trans (by kernel_rfl) (bif_b (bif_b some_b none_b) none_b)
def law10_SemaCounts_r10_p : Option Unit := (bif (decide ((0 : Int) ≤ s172.1)) then (bif (decide (s172.1 < (l_.length : Int))) then (some ()) else none) else none)
theorem law10_SemaCounts_r10 : P4 1 C4.r.r.r.r.r.l.r.b.b.r.l.b.r.l (S4_5 l_ s172 y190) k = Option.bind (law10_SemaCounts_r10_p l_ s172) (fun y191 : Unit => k ⟨[(0, rl tsOp l_), (4, rF 0), (5, .one (.vref 1 8)), (6, ri s172.1), (7, ri y190), (40, rb ((gt l_ s172.1 dOp).2))], [[.sem s172.2.1], [.vec (.int .i64) s172.2.2]], [], 101⟩) := .trans (by kernel_rfl) (bif_b (bif_b some_b none_b) none_b)
abbrev S4_6 : St := ⟨[(0, rl tsOp l_), (4, rF 0), (5, .one (.vref 1 8)), (6, ri s172.1), (7, ri y190), (8, ri y192.1)], [[.sem y192.2], [.vec (.int .i64) s172.2.2]], [], 101⟩
theorem law10_SemaCounts_r11 : P4 1 C4.r.r.r.r.r.l.r.b.b.r.l.b.r.l.r.t (S4_5 l_ s172 y190) k = Option.bind (semSignal s172.2.1 y190) fun y192 : (Int × (List Int)) => k (S4_6 l_ s172 y190 y192) := by kernel_rfl
def law10_SemaCounts_r12_p : Option Bool := (bif (decide ((0 : Int) ≤ y190)) then (bif (decide (y190 < 8)) then (bif (decide ((Int.toNat y190) < s172.2.2.length)) then (bif (!((y192.1 == 0) == (decide ((gt s172.2.2 y190 (0 : Int)) < 15)))) then (some true) else (bif (y192.1 != 0) then (some (y192.1 != 22)) else (some false))) else none) else none) else none)
theorem law10_SemaCounts_r12 : P4 1 C4.r.r.r.r.r.l.r.b.b.r.l.b.r.l.r.t.r.l (S4_6 l_ s172 y190 y192) k = Option.bind (law10_SemaCounts_r12_p s172 y190 y192) (fun y194 : Bool => k ⟨[(0, rl tsOp l_), (4, rF 0), (5, .one (.vref 1 8)), (6, ri s172.1), (7, ri y190), (8, ri y192.1), (59, rb y194)], [[.sem y192.2], [.vec (.int .i64) s172.2.2]], [], 101⟩) := .trans (by kernel_rfl) (bif_b (bif_b (bif_b (bif_b some_b (bif_b some_b some_b)) none_b) none_b) none_b)
theorem law10_SemaCounts_fzx1 : P4 1 C4.r.r.r.r.r.l.r.b.b.r.l.b.r.l.r.t.r.l.r.t (S4_6 l_ s172 y190 y192) k = k ⟨[(2, rb false)], [[.sem y192.2], [.vec (.int .i64) s172.2.2]], [], 101⟩ := by kernel_rfl
theorem law10_SemaCounts_f1000015 : P4 1 C4.r.r.r.r.r.l.r.b.b.r.l.b.r.l.r.t.r.r (S4_6 l_ s172 y190 y192) k = k ⟨[(0, rl tsOp l_), (4, rF 0), (5, .one (.vref 1 8)), (6, ri s172.1), (7, ri y190), (61, rb (y192.1 == 0))], [[.sem y192.2], [.vec (.int .i64) s172.2.2]], [], 101⟩ := by kernel_rfl
def law10_SemaCounts_r15_p : Option Unit := (bif (decide ((0 : Int) ≤ y190)) then (bif (decide (y190 < 8)) then (bif (decide ((Int.toNat y190) < s172.2.2.length)) then (bif (decide ((0 : Int) ≤ y190)) then (bif (decide (y190 < 8)) then (bif (decide ((Int.toNat y190) < s172.2.2.length)) then (some ()) else none) else none) else none) else none) else none) else none)
abbrev S4_7 : St := ⟨[(0, rl tsOp l_), (4, rF 0), (5, .one (.vref 1 8)), (6, ri s172.1), (7, ri y190)], [[.sem y192.2], [.vec (.int .i64) s172.2.2]], [], 101⟩
abbrev S4_8 : St := ⟨[(0, rl tsOp l_), (4, rF 0), (5, .one (.vref 1 8)), (6, ri s172.1)], [[.sem y192.2], [.vec (.int .i64) (s172.2.2.set (Int.toNat y190) (IntKind.wrap .i64 ((gt s172.2.2 y190 (0 : Int)) + 1)))]], [], 101⟩
theorem law10_SemaCounts_r15 : R4 C4.r.r.r.r.r.l.r.b.b.r.l.b.r.l.r.t.r.r.r.t (S4_7 l_ s172 y190 y192) q = Option.bind (law10_SemaCounts_r15_p s172 y190) (fun y195 : Unit => q .normal (S4_8 l_ s172 y190 y192)) := .trans (by kernel_rfl) (bif_b (bif_b (bif_b (bif_b (bif_b (bif_b some_b none_b) none_b) none_b) none_b) none_b) none_b)
abbrev S4_9 : St := ⟨[(0, rl tsOp l_), (4, rF 0), (5, .one (.vref 1 8)), (6, ri s172.1), (7, ri y190), (9, ri y196.1)], [[.sem y196.2], [.vec (.int .i64) s172.2.2]], [], 101⟩
theorem law10_SemaCounts_r16 : P4 1 C4.r.r.r.r.r.l.r.b.b.r.l.b.r.l.r.e (S4_5 l_ s172 y190) k = Option.bind (semWait s172.2.1 y190) fun y196 : (Int × (List Int)) => k (S4_9 l_ s172 y190 y196) := by kernel_rfl
def law10_SemaCounts_r17_p : Option Bool := (bif (decide ((0 : Int) ≤ y190)) then (bif (decide (y190 < 8)) then (bif (decide ((Int.toNat y190) < s172.2.2.length)) then (bif (!((y196.1 == 0) == (decide ((gt s172.2.2 y190 (0 : Int)) > 0)))) then (some true) else (bif (y196.1 != 0) then (some (y196.1 != 20)) else (some false))) else none) else none) else none)
theorem law10_SemaCounts_r17 : P4 1 C4.r.r.r.r.r.l.r.b.b.r.l.b.r.l.r.e.r.l (S4_9 l_ s172 y190 y196) k = Option.bind (law10_SemaCounts_r17_p s172 y190 y196) (fun y198 : Bool => k ⟨[(0, rl tsOp l_), (4, rF 0), (5, .one (.vref 1 8)), (6, ri s172.1), (7, ri y190), (9, ri y196.1), (86, rb y198)], [[.sem y196.2], [.vec (.int .i64) s172.2.2]], [], 101⟩) := .trans (by kernel_rfl) (bif_b (bif_b (bif_b (bif_b some_b (bif_b some_b some_b)) none_b) none_b) none_b)
theorem law10_SemaCounts_fzx2 : P4 1 C4.r.r.r.r.r.l.r.b.b.r.l.b.r.l.r.e.r.l.r.t (S4_9 l_ s172 y190 y196) k = k ⟨[(2, rb false)], [[.sem y196.2], [.vec (.int .i64) s172.2.2]], [], 101⟩ := by kernel_rfl
theorem law10_SemaCounts_f1000020 : P4 1 C4.r.r.r.r.r.l.r.b.b.r.l.b.r.l.r.e.r.r (S4_9 l_ s172 y190 y196) k = k ⟨[(0, rl tsOp l_), (4, rF 0), (5, .one (.vref 1 8)), (6, ri s172.1), (7, ri y190), (88, rb (y196.1 == 0))], [[.sem y196.2], [.vec (.int .i64) s172.2.2]], [], 101⟩ := by kernel_rfl
def law10_SemaCounts_r20_p : Option Unit := (bif (decide ((0 : Int) ≤ y190)) then (bif (decide (y190 < 8)) then (bif (decide ((Int.toNat y190) < s172.2.2.length)) then (bif (decide ((0 : Int) ≤ y190)) then (bif (decide (y190 < 8)) then (bif (decide ((Int.toNat y190) < s172.2.2.length)) then (some ()) else none) else none) else none) else none) else none) else none)
abbrev S4_10 : St := ⟨[(0, rl tsOp l_), (4, rF 0), (5, .one (.vref 1 8)), (6, ri s172.1), (7, ri y190)], [[.sem y196.2], [.vec (.int .i64) s172.2.2]], [], 101⟩
abbrev S4_11 : St := ⟨[(0, rl tsOp l_), (4, rF 0), (5, .one (.vref 1 8)), (6, ri s172.1)], [[.sem y196.2], [.vec (.int .i64) (s172.2.2.set (Int.toNat y190) (IntKind.wrap .i64 ((gt s172.2.2 y190 (0 : Int)) - 1)))]], [], 101⟩
theorem law10_SemaCounts_r20 : R4 C4.r.r.r.r.r.l.r.b.b.r.l.b.r.l.r.e.r.r.r.t (S4_10 l_ s172 y190 y196) q = Option.bind (law10_SemaCounts_r20_p s172 y190) (fun y199 : Unit => q .normal (S4_11 l_ s172 y190 y196)) := .trans (by kernel_rfl) (bif_b (bif_b (bif_b (bif_b (bif_b (bif_b some_b none_b) none_b) none_b) none_b) none_b) none_b)
def law10_SemaCounts_j10_p : Option (((List Int) × (List Int)) ⊕ (List Int)) := (Option.bind (law10_SemaCounts_r10_p l_ s172) (fun y191 : Unit => (bif (gt l_ s172.1 dOp).2 then (Option.bind (semSignal s172.2.1 y190) (fun y192 : (Int × (List Int)) => (Option.bind (law10_SemaCounts_r12_p s172 y190 y192) (fun y194 : Bool => (bif y194 then (some (Sum.inr y192.2)) else (bif (y192.1 == 0) then (Option.bind (law10_SemaCounts_r15_p s172 y190) (fun y195 : Unit => (some (Sum.inl (y192.2, (s172.2.2.set (Int.toNat y190) (IntKind.wrap .i64 ((gt s172.2.2 y190 (0 : Int)) + 1)))))))) else (some (Sum.inl (y192.2, s172.2.2))))))))) else (Option.bind (semWait s172.2.1 y190) (fun y196 : (Int × (List Int)) => (Option.bind (law10_SemaCounts_r17_p s172 y190 y196) (fun y198 : Bool => (bif y198 then (some (Sum.inr y196.2)) else (bif (y196.1 == 0) then (Option.bind (law10_SemaCounts_r20_p s172 y190) (fun y199 : Unit => (some (Sum.inl (y196.2, (s172.2.2.set (Int.toNat y190) (IntKind.wrap .i64 ((gt s172.2.2 y190 (0 : Int)) - 1)))))))) else (some (Sum.inl (y196.2, s172.2.2))))))))))))
abbrev S4_12 : St := ⟨[(0, rl tsOp l_), (4, rF 0), (5, .one (.vref 1 8)), (6, ri s172.1)], [[.sem y200.1], [.vec (.int .i64) y200.2]], [], 101⟩
theorem law10_SemaCounts_j10 : R4 C4.r.r.r.r.r.l.r.b.b.r.l.b.r.l (S4_5 l_ s172 y190) (Q4 C4.r.r.r.r.r.l.r.b.b.r.l.b.r.r q) = Option.bind (law10_SemaCounts_j10_p l_ s172 y190) (either (fun y200 : ((List Int) × (List Int)) => R4 C4.r.r.r.r.r.l.r.b.b.r.l.b.r.r (S4_12 l_ s172 y200) q) (fun y201 : (List Int) => q .ret ⟨[(2, rb false)], [[.sem y201], [.vec (.int .i64) s172.2.2]], [], 101⟩)) := by
  refine .trans ?_ (bind_b fun y191 => (bif_b (bind_b fun y192 => (bind_b fun y194 => (bif_b e2_1 (bif_b (bind_b fun y195 => e2_0) e2_0)))) (bind_b fun y196 => (bind_b fun y198 => (bif_b e2_1 (bif_b (bind_b fun y199 => e2_0) e2_0))))))
  refine (pre1 (law10_SemaCounts_r10 l_ s172 y190 _)).trans (bind_g fun y191 => ?_)
  refine (cond_e (b := (gt l_ s172.1 dOp).2) (st' := (S4_5 l_ s172 y190)) ).trans (bif_g ?_ ?_)
  · refine (pre1 (law10_SemaCounts_r11 l_ s172 y190 _)).trans (bind_g fun y192 => ?_)
    refine .trans seq_push ?_
    refine (pre1 (law10_SemaCounts_r12 l_ s172 y190 y192 _)).trans (bind_g fun y194 => ?_)
    refine (cond_e (b := y194) (st' := (S4_6 l_ s172 y190 y192)) ).trans (bif_g ?_ ?_)
    · refine (pre1 (law10_SemaCounts_fzx1 l_ s172 y190 y192 _)).trans ?_
      refine (ret_eq).trans ?_
      refine seqC_ret.trans ?_
      refine seqC_ret.trans ?_
      kernel_rfl
    · refine (skip_eq).trans ?_
      refine (seqC_normal (st' := (S4_6 l_ s172 y190 y192))).trans ?_
      refine (pre1 (law10_SemaCounts_f1000015 l_ s172 y190 y192 _)).trans ?_
      refine (cond_e (b := (y192.1 == 0)) (st' := (S4_7 l_ s172 y190 y192)) ).trans (bif_g ?_ ?_)
      · refine (law10_SemaCounts_r15 l_ s172 y190 y192 _).trans (bind_g fun y195 => ?_)
        refine (seqC_normal (st' := (S4_8 l_ s172 y190 y192))).trans ?_
        kernel_rfl
      · refine (skip_eq).trans ?_
        refine (seqC_normal (st' := ⟨[(0, rl tsOp l_), (4, rF 0), (5, .one (.vref 1 8)), (6, ri s172.1)], [[.sem y192.2], [.vec (.int .i64) s172.2.2]], [], 101⟩)).trans ?_
        kernel_rfl
  · refine (pre1 (law10_SemaCounts_r16 l_ s172 y190 _)).trans (bind_g fun y196 => ?_)
    refine .trans seq_push ?_
    refine (pre1 (law10_SemaCounts_r17 l_ s172 y190 y196 _)).trans (bind_g fun y198 => ?_)
    refine (cond_e (b := y198) (st' := (S4_9 l_ s172 y190 y196)) ).trans (bif_g ?_ ?_)
    · refine (pre1 (law10_SemaCounts_fzx2 l_ s172 y190 y196 _)).trans ?_
      refine (ret_eq).trans ?_
      refine seqC_ret.trans ?_
      refine seqC_ret.trans ?_
      kernel_rfl
    · refine (skip_eq).trans ?_
      refine (seqC_normal (st' := (S4_9 l_ s172 y190 y196))).trans ?_
      refine (pre1 (law10_SemaCounts_f1000020 l_ s172 y190 y196 _)).trans ?_
      refine (cond_e (b := (y196.1 == 0)) (st' := (S4_10 l_ s172 y190 y196)) ).trans (bif_g ?_ ?_)
      · refine (law10_SemaCounts_r20 l_ s172 y190 y196 _).trans (bind_g fun y199 => ?_)
        refine (seqC_normal (st' := (S4_11 l_ s172 y190 y196))).trans ?_
        kernel_rfl
      · refine (skip_eq).trans ?_
        refine (seqC_normal (st' := ⟨[(0, rl tsOp l_), (4, rF 0), (5, .one (.vref 1 8)), (6, ri s172.1)], [[.sem y196.2], [.vec (.int .i64) s172.2.2]], [], 101⟩)).trans ?_
        kernel_rfl
def law10_SemaCounts_r21_p : Option Bool := (Option.bind (semAll y200.1) (fun y202 : (List Int) => (bif (Nat.beq 8 y200.2.length) then (Option.bind (ref03_Ints y202 y200.2) (fun y203 : Bool => (some y203))) else none)))
abbrev S4_13 : St := ⟨[(0, rl tsOp l_), (4, rF 0), (5, .one (.vref 1 8)), (6, ri s172.1), (10, rb y204)], [[.sem y200.1], [.vec (.int .i64) y200.2]], [], 101⟩
theorem law10_SemaCounts_r21 : P4 1 C4.r.r.r.r.r.l.r.b.b.r.l.b.r.r (S4_12 l_ s172 y200) k = Option.bind (law10_SemaCounts_r21_p y200) (fun y204 : Bool => k (S4_13 l_ s172 y200 y204)) := .trans (by kernel_rfl) (bind_b fun y202 => (bif_b (bind_b fun y203 => some_b) none_b))
theorem law10_SemaCounts_f1000023 : P4 1 C4.r.r.r.r.r.l.r.b.b.r.l.b.r.r.r (S4_13 l_ s172 y200 y204) k = k ⟨[(0, rl tsOp l_), (4, rF 0), (5, .one (.vref 1 8)), (6, ri s172.1), (100, rb (!y204))], [[.sem y200.1], [.vec (.int .i64) y200.2]], [], 101⟩ := by kernel_rfl
theorem law10_SemaCounts_fzx3 : P4 1 C4.r.r.r.r.r.l.r.b.b.r.l.b.r.r.r.r.t (S4_12 l_ s172 y200) k = k ⟨[(2, rb false)], [[.sem y200.1], [.vec (.int .i64) y200.2]], [], 101⟩ := by kernel_rfl
theorem law10_SemaCounts_r8 : R4 C4.r.r.r.r.r.l.r.b.b.r.r (S4_12 l_ s172 y200) q = q .normal ⟨[(0, rl tsOp l_), (4, rF 0), (5, .one (.vref 1 8)), (6, ri (IntKind.wrap .i64 (s172.1 + 1)))], [[.sem y200.1], [.vec (.int .i64) y200.2]], [], 101⟩ := by kernel_rfl
def law10_SemaCounts_l7_p : Option ((Int × (List Int) × (List Int)) ⊕ ((Int × (List Int) × (List Int)) ⊕ ((List Int) × (List Int)))) := (bif (law10_SemaCounts_r7_p l_ s172) then (Option.bind (law10_SemaCounts_r9_p l_ s172) (fun y190 : Int => (Option.bind (law10_SemaCounts_j10_p l_ s172 y190) (either (fun y200 : ((List Int) × (List Int)) => (Option.bind (law10_SemaCounts_r21_p y200) (fun y204 : Bool => (bif (!y204) then (some (Sum.inr (Sum.inr y200))) else (some (Sum.inl ((IntKind.wrap .i64 (s172.1 + 1)), y200.1, y200.2))))))) (fun y201 : (List Int) => (some (Sum.inr (Sum.inr (y201, s172.2.2))))))))) else (some (Sum.inr (Sum.inl s172))))
abbrev S4_14 : St := ⟨[(0, rl tsOp l_), (4, rF 0), (5, .one (.vref 1 8)), (6, ri y205.1)], [[.sem y205.2.1], [.vec (.int .i64) y205.2.2]], [], 101⟩
abbrev S4_15 (y206 : ((List Int) × (List Int))) : St := ⟨[(2, rb false)], [[.sem y206.1], [.vec (.int .i64) y206.2]], [], 101⟩
theorem law10_SemaCounts_l7_b : R4 C4.r.r.r.r.r.l.r.b.b (S4_4 l_ s172) (loopKont 2 q) = Option.bind (law10_SemaCounts_l7_p l_ s172) (either (fun y : (Int × (List Int) × (List Int)) => q .normal ⟨[(0, rl tsOp l_), (4, rF 0), (5, .one (.vref 1 8)), (6, ri y.1)], [[.sem y.2.1], [.vec (.int .i64) y.2.2]], [], 101⟩) (either (fun y205 : (Int × (List Int) × (List Int)) => q (.exit 0) (S4_14 l_ y205)) (fun y206 : ((List Int) × (List Int)) => q .ret (S4_15 y206)))) := by
  refine .trans ?_ (bif_b (bind_b fun y190 => (bind_b (either_b (fun y200 => (bind_b fun y204 => (bif_b e3_2 e3_0))) (fun y201 => e3_2)))) e3_1)
  refine .trans seq_push ?_
  refine (pre1 (law10_SemaCounts_r7 l_ s172 _)).trans ?_
  refine (cond_e (b := (law10_SemaCounts_r7_p l_ s172)) (st' := (S4_4 l_ s172)) ).trans (bif_g ?_ ?_)
  · refine (skip_eq).trans ?_
    refine (seqC_normal (st' := (S4_4 l_ s172))).trans ?_
    refine .trans seq_push ?_
    refine (block_push (id := 1)).trans ?_
    refine (pre1 (law10_SemaCounts_r9 l_ s172 _)).trans (bind_g fun y190 => ?_)
    refine .trans seq_push ?_
    refine (law10_SemaCounts_j10 l_ s172 y190 _).trans (bind_g (either_g (fun y200 => ?_) (fun y201 => ?_)))
    · refine (pre1 (law10_SemaCounts_r21 l_ s172 y200 _)).trans (bind_g fun y204 => ?_)
      refine (pre1 (law10_SemaCounts_f1000023 l_ s172 y200 y204 _)).trans ?_
      refine (cond_e (b := (!y204)) (st' := (S4_12 l_ s172 y200)) ).trans (bif_g ?_ ?_)
      · refine (pre1 (law10_SemaCounts_fzx3 l_ s172 y200 _)).trans ?_
        refine (ret_eq).trans ?_
        refine block_ret.trans ?_
        refine seqC_ret.trans ?_
        kernel_rfl
      · refine (skip_eq).trans ?_
        refine block_normal.trans ?_
        refine (seqC_normal (st' := (S4_12 l_ s172 y200))).trans ?_
        refine (law10_SemaCounts_r8 l_ s172 y200 _).trans ?_
        kernel_rfl
    · refine block_ret.trans ?_
      refine seqC_ret.trans ?_
      kernel_rfl
  · refine ((exit_eq (j := 0))).trans ?_
    refine seqC_exit.trans ?_
    kernel_rfl
theorem law10_SemaCounts_l7 : R4 C4.r.r.r.r.r.l.r.b (S4_3 l_ y50) q = Option.bind (iterN (law10_SemaCounts_l7_p l_) LL ((0 : Int), y50, (List.replicate 8 (0 : Int)))) (either (fun y205 : (Int × (List Int) × (List Int)) => q (.exit 0) (S4_14 l_ y205)) (fun y206 : ((List Int) × (List Int)) => q .ret (S4_15 y206))) :=
  Eq.trans (by kernel_rfl) (loop_iter2 (S := fun s172 : (Int × (List Int) × (List Int)) => (S4_4 l_ s172)) (Y1 := fun y205 : (Int × (List Int) × (List Int)) => ((.exit 0), (S4_14 l_ y205))) (Y2 := fun y206 : ((List Int) × (List Int)) => (.ret, (S4_15 y206))) (fun s q => law10_SemaCounts_l7_b l_ s q) (fun z => rfl) (fun z => rfl) LL ((0 : Int), y50, (List.replicate 8 (0 : Int))))
theorem law10_SemaCounts_fzx4 : P4 1 C4.r.r.r.r.r.r ⟨[], [[.sem y205.2.1], [.vec (.int .i64) y205.2.2]], [], 101⟩ k = k ⟨[(2, rb true)], [[.sem y205.2.1], [.vec (.int .i64) y205.2.2]], [], 101⟩ := by kernel_rfl
/-- quilt/quiltlaw10.SemaCounts -/
def law10_SemaCounts : Option Bool := (Option.bind law10_shown (fun y49 : Bool => (Option.bind semNew (fun y50 : (List Int) => (bif (law10_SemaCounts_r3_p y49) then (some false) else (Option.bind law10_SemaCounts_r5_p (fun y53 : Unit => (Option.bind (iterN (law10_SemaCounts_l7_p l_) LL ((0 : Int), y50, (List.replicate 8 (0 : Int)))) (either (fun y205 : (Int × (List Int) × (List Int)) => (some true)) (fun y206 : ((List Int) × (List Int)) => (some false)))))))))))
theorem law10_SemaCounts_is : stepS E cp4 semE 5 [rl tsOp l_] = Option.bind (law10_SemaCounts l_) (fun y : Bool => some (rb y : R)) := by
  refine .trans ?_ (bind_b fun y49 => (bind_b fun y50 => (bif_b some_b (bind_b fun y53 => (bind_b (either_b (fun y205 => some_b) (fun y206 => some_b)))))))
  refine (stepG_is (nt := 101) (regs := [(0, rl tsOp l_)])).trans ?_
  refine (pre2 (law10_SemaCounts_r1 l_ _)).trans (bind_g fun y49 => ?_)
  refine (pre1 (law10_SemaCounts_r2 l_ y49 _)).trans (bind_g fun y50 => ?_)
  refine .trans seq_push ?_
  refine (pre1 (law10_SemaCounts_r3 l_ y49 y50 _)).trans ?_
  refine (cond_e (b := (law10_SemaCounts_r3_p y49)) (st' := (S4_1 l_ y50)) ).trans (bif_g ?_ ?_)
  · refine (pre1 (law10_SemaCounts_fz l_ y50 _)).trans ?_
    refine (ret_eq).trans ?_
    refine seqC_ret.trans ?_
    kernel_rfl
  · refine (skip_eq).trans ?_
    refine (seqC_normal (st' := (S4_1 l_ y50))).trans ?_
    refine (pre1 (law10_SemaCounts_r5 l_ y50 _)).trans (bind_g fun y53 => ?_)
    refine .trans seq_push ?_
    refine (pre1 (law10_SemaCounts_f7 l_ y50 _)).trans ?_
    refine (block_push (id := 0)).trans ?_
    refine (law10_SemaCounts_l7 l_ y50 _).trans (bind_g (either_g (fun y205 => ?_) (fun y206 => ?_)))
    · refine block_same.trans ?_
      refine (seqC_normal (st' := ⟨[], [[.sem y205.2.1], [.vec (.int .i64) y205.2.2]], [], 101⟩)).trans ?_
      refine (pre1 (law10_SemaCounts_fzx4 y205 _)).trans ?_
      refine (ret_eq).trans ?_
      kernel_rfl
    · refine block_ret.trans ?_
      refine seqC_ret.trans ?_
      kernel_rfl
noncomputable def cp5 : CallP := withC cp4 5 [(pL tsOp)] (.one pB) (fun y : Bool => y) (fun x => law10_SemaCounts x.1)
theorem cp5_ok : PureOK E cp5 := conS eok cp4_ok semE_ok fun x => Eq.mp (by kernel_rfl) (law10_SemaCounts_is x.1)
theorem law10_SemaCounts_walk (ht : law10_SemaCounts l_ = some true) (w : World) (vs : List Value) (hrd : ∀ γ : Gh, Free γ → rdRs w γ [argR false (.one (.sl tsOp)) l_] vs) : Calls E.P 5 vs.toArray w fun e w' => e = .returned (.bool true) ∧ Below w.heap.size w w' :=
  walk_true (E := E) (stepS_ok eok cp4_ok semE_ok) (show stepS E cp4 semE 5 [rl tsOp l_] = some (.one (.g .bool true)) from by rw [law10_SemaCounts_is, ht]; rfl) w fun γ hγ => Eq.mp (by kernel_rfl) (hrd γ hγ)
end
end Go.V.P
