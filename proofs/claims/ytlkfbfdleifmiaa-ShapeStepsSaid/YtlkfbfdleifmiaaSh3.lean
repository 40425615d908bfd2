/- What functions compute. -/
import Derived.Test.YtlkfbfdleifmiaaSh2
namespace Go.V.P
open Go.RowKit Go.V Go.Proofs
set_option linter.unusedVariables false
set_option maxRecDepth 100000
noncomputable abbrev C20 : Code := codeOf E.P 39
noncomputable abbrev P20 {α : Type} (n : Nat) (c : Code) (st : St) (k : St → Option α) : Option α := preK E 39 cp20 noE n c st k
noncomputable abbrev R20 {α : Type} (c : Code) (st : St) (k : Kont α) : Option α := runCode E 39 cp20 noE c st k
noncomputable abbrev Q20 {α : Type} (c : Code) (k : Kont α) : Kont α := seqC E 39 cp20 noE c k
theorem ref02_Index_f2 {α : Type} (s_ : I3) (y_ : Int) (x_ : Int) (c_ : Int) (k : St → Option α) : P20 2 C20 ⟨[(0, .agg (tsI3.leaves s_)), (1, ri y_), (2, ri x_), (3, ri c_)], [], [], 52⟩ k = k ⟨[(1, ri y_), (2, ri x_), (3, ri c_), (4, .one (.cell (tsI3.leaves s_))), (9, ri (0 : Int))], [], [], 52⟩ := by kernel_rfl
theorem ref02_Index_f3 {α : Type} (s_ : I3) (y_ : Int) (x_ : Int) (c_ : Int) (k : St → Option α) : P20 1 C20.r.r.l ⟨[(1, ri y_), (2, ri x_), (3, ri c_), (4, .one (.cell (tsI3.leaves s_))), (9, ri (0 : Int))], [], [], 52⟩ k = k ⟨[(1, ri y_), (2, ri x_), (3, ri c_), (4, .one (.cell (tsI3.leaves s_))), (9, ri (0 : Int)), (10, ri (0 : Int))], [], [], 52⟩ := by kernel_rfl
def ref02_Index_r3_q {β : Type} (s_ : I3) (s632 : (Int × Int)) (K : Bool → β) : β := (bif (decide (s632.2 < s_.1)) then (K ((ref02_May s_) == (0 : Int))) else (K false))
def ref02_Index_r3_p (s_ : I3) (s632 : (Int × Int)) : Bool := ref02_Index_r3_q s_ s632 (fun y => y)
theorem ref02_Index_r3_n {β : Type} (s_ : I3) (s632 : (Int × Int)) (K : Bool → β) : ref02_Index_r3_q s_ s632 K = K (ref02_Index_r3_p s_ s632) := (bif_k K rfl rfl)
theorem ref02_Index_r3 {α : Type} (s_ : I3) (y_ : Int) (x_ : Int) (c_ : Int) (s632 : (Int × Int)) (k : St → Option α) : P20 1 (bodyOf (bodyOf C20.r.r.l.r)).l ⟨[(1, ri y_), (2, ri x_), (3, ri c_), (4, .one (.cell (tsI3.leaves s_))), (9, ri s632.1), (10, ri s632.2)], [], [], 52⟩ k = k ⟨[(1, ri y_), (2, ri x_), (3, ri c_), (4, .one (.cell (tsI3.leaves s_))), (9, ri s632.1), (10, ri s632.2), (21, rb (ref02_Index_r3_p s_ s632))], [], [], 52⟩ := Eq.trans (by kernel_rfl) (ref02_Index_r3_n s_ s632 (fun y634 : Bool => k ⟨[(1, ri y_), (2, ri x_), (3, ri c_), (4, .one (.cell (tsI3.leaves s_))), (9, ri s632.1), (10, ri s632.2), (21, rb y634)], [], [], 52⟩))
theorem ref02_Index_f6 {α : Type} (s_ : I3) (y_ : Int) (x_ : Int) (c_ : Int) (s632 : (Int × Int)) (k : St → Option α) : P20 1 (bodyOf (bodyOf (bodyOf C20.r.r.l.r)).r.l) ⟨[(1, ri y_), (2, ri x_), (3, ri c_), (4, .one (.cell (tsI3.leaves s_))), (9, ri s632.1), (10, ri s632.2)], [], [], 52⟩ k = k ⟨[(1, ri y_), (2, ri x_), (3, ri c_), (4, .one (.cell (tsI3.leaves s_))), (9, ri s632.1), (10, ri s632.2), (11, ri (0 : Int))], [], [], 52⟩ := by kernel_rfl
theorem ref02_Index_fz {α : Type} (s_ : I3) (y_ : Int) (x_ : Int) (c_ : Int) (s632 : (Int × Int)) (s712 : (Int × Int)) (k : St → Option α) : P20 1 (bodyOf (bodyOf (bodyOf (bodyOf (bodyOf C20.r.r.l.r)).r.l).r)).l ⟨[(1, ri y_), (2, ri x_), (3, ri c_), (4, .one (.cell (tsI3.leaves s_))), (9, ri s712.1), (10, ri s632.2), (11, ri s712.2)], [], [], 52⟩ k = k ⟨[(1, ri y_), (2, ri x_), (3, ri c_), (4, .one (.cell (tsI3.leaves s_))), (9, ri s712.1), (10, ri s632.2), (11, ri s712.2), (27, rb (decide (s712.2 < s_.2.1)))], [], [], 52⟩ := by kernel_rfl
theorem ref02_Index_f9 {α : Type} (s_ : I3) (y_ : Int) (x_ : Int) (c_ : Int) (s632 : (Int × Int)) (s712 : (Int × Int)) (k : St → Option α) : P20 1 (bodyOf (bodyOf (bodyOf (bodyOf (bodyOf (bodyOf C20.r.r.l.r)).r.l).r)).r.l) ⟨[(1, ri y_), (2, ri x_), (3, ri c_), (4, .one (.cell (tsI3.leaves s_))), (9, ri s712.1), (10, ri s632.2), (11, ri s712.2)], [], [], 52⟩ k = k ⟨[(1, ri y_), (2, ri x_), (3, ri c_), (4, .one (.cell (tsI3.leaves s_))), (9, ri s712.1), (10, ri s632.2), (11, ri s712.2), (12, ri (0 : Int))], [], [], 52⟩ := by kernel_rfl
theorem ref02_Index_fzx1 {α : Type} (s_ : I3) (y_ : Int) (x_ : Int) (c_ : Int) (s632 : (Int × Int)) (s712 : (Int × Int)) (s730 : (Int × Int)) (k : St → Option α) : P20 1 (bodyOf (bodyOf (bodyOf (bodyOf (bodyOf (bodyOf (bodyOf (bodyOf C20.r.r.l.r)).r.l).r)).r.l).r)).l ⟨[(1, ri y_), (2, ri x_), (3, ri c_), (4, .one (.cell (tsI3.leaves s_))), (9, ri s730.1), (10, ri s632.2), (11, ri s712.2), (12, ri s730.2)], [], [], 52⟩ k = k ⟨[(1, ri y_), (2, ri x_), (3, ri c_), (4, .one (.cell (tsI3.leaves s_))), (9, ri s730.1), (10, ri s632.2), (11, ri s712.2), (12, ri s730.2), (33, rb (decide (s730.2 < s_.2.2)))], [], [], 52⟩ := by kernel_rfl
def ref02_Index_r11_q {β : Type} (y_ : Int) (x_ : Int) (c_ : Int) (s632 : (Int × Int)) (s712 : (Int × Int)) (s730 : (Int × Int)) (K : Bool → β) : β := (bif (s632.2 == y_) then (bif (s712.2 == x_) then (K (s730.2 == c_)) else (K false)) else (K false))
def ref02_Index_r11_p (y_ : Int) (x_ : Int) (c_ : Int) (s632 : (Int × Int)) (s712 : (Int × Int)) (s730 : (Int × Int)) : Bool := ref02_Index_r11_q y_ x_ c_ s632 s712 s730 (fun y => y)
theorem ref02_Index_r11_n {β : Type} (y_ : Int) (x_ : Int) (c_ : Int) (s632 : (Int × Int)) (s712 : (Int × Int)) (s730 : (Int × Int)) (K : Bool → β) : ref02_Index_r11_q y_ x_ c_ s632 s712 s730 K = K (ref02_Index_r11_p y_ x_ c_ s632 s712 s730) := (bif_k K (bif_k K rfl rfl) rfl)
theorem ref02_Index_r11 {α : Type} (s_ : I3) (y_ : Int) (x_ : Int) (c_ : Int) (s632 : (Int × Int)) (s712 : (Int × Int)) (s730 : (Int × Int)) (k : St → Option α) : P20 1 (bodyOf (bodyOf (bodyOf (bodyOf (bodyOf (bodyOf (bodyOf (bodyOf (bodyOf C20.r.r.l.r)).r.l).r)).r.l).r)).r.l).l ⟨[(1, ri y_), (2, ri x_), (3, ri c_), (4, .one (.cell (tsI3.leaves s_))), (9, ri s730.1), (10, ri s632.2), (11, ri s712.2), (12, ri s730.2)], [], [], 52⟩ k = k ⟨[(1, ri y_), (2, ri x_), (3, ri c_), (4, .one (.cell (tsI3.leaves s_))), (9, ri s730.1), (10, ri s632.2), (11, ri s712.2), (12, ri s730.2), (48, rb (ref02_Index_r11_p y_ x_ c_ s632 s712 s730))], [], [], 52⟩ := Eq.trans (by kernel_rfl) (ref02_Index_r11_n y_ x_ c_ s632 s712 s730 (fun y734 : Bool => k ⟨[(1, ri y_), (2, ri x_), (3, ri c_), (4, .one (.cell (tsI3.leaves s_))), (9, ri s730.1), (10, ri s632.2), (11, ri s712.2), (12, ri s730.2), (48, rb y734)], [], [], 52⟩))
theorem ref02_Index_fzx2 {α : Type} (s_ : I3) (y_ : Int) (x_ : Int) (c_ : Int) (s632 : (Int × Int)) (s712 : (Int × Int)) (s730 : (Int × Int)) (k : St → Option α) : P20 1 (bodyOf (bodyOf (bodyOf (bodyOf (bodyOf (bodyOf (bodyOf (bodyOf (bodyOf C20.r.r.l.r)).r.l).r)).r.l).r)).r.l).l.r.t ⟨[(1, ri y_), (2, ri x_), (3, ri c_), (4, .one (.cell (tsI3.leaves s_))), (9, ri s730.1), (10, ri s632.2), (11, ri s712.2), (12, ri s730.2)], [], [], 52⟩ k = k ⟨[(8, ri s730.1)], [], [], 52⟩ := by kernel_rfl
theorem ref02_Index_r13 {α : Type} (s_ : I3) (y_ : Int) (x_ : Int) (c_ : Int) (s632 : (Int × Int)) (s712 : (Int × Int)) (s730 : (Int × Int)) (k : Kont α) : R20 (bodyOf (bodyOf (bodyOf (bodyOf (bodyOf (bodyOf (bodyOf (bodyOf (bodyOf C20.r.r.l.r)).r.l).r)).r.l).r)).r.l).r ⟨[(1, ri y_), (2, ri x_), (3, ri c_), (4, .one (.cell (tsI3.leaves s_))), (9, ri s730.1), (10, ri s632.2), (11, ri s712.2), (12, ri s730.2)], [], [], 52⟩ k = k .normal ⟨[(1, ri y_), (2, ri x_), (3, ri c_), (4, .one (.cell (tsI3.leaves s_))), (9, ri (IntKind.wrap .i64 (s730.1 + (1 : Int)))), (10, ri s632.2), (11, ri s712.2), (12, ri s730.2)], [], [], 52⟩ := by kernel_rfl
theorem ref02_Index_r10 {α : Type} (s_ : I3) (y_ : Int) (x_ : Int) (c_ : Int) (s632 : (Int × Int)) (s712 : (Int × Int)) (s730 : (Int × Int)) (k : Kont α) : R20 (bodyOf (bodyOf (bodyOf (bodyOf (bodyOf (bodyOf (bodyOf (bodyOf C20.r.r.l.r)).r.l).r)).r.l).r)).r.r ⟨[(1, ri y_), (2, ri x_), (3, ri c_), (4, .one (.cell (tsI3.leaves s_))), (9, ri (IntKind.wrap .i64 (s730.1 + (1 : Int)))), (10, ri s632.2), (11, ri s712.2), (12, ri s730.2)], [], [], 52⟩ k = k .normal ⟨[(1, ri y_), (2, ri x_), (3, ri c_), (4, .one (.cell (tsI3.leaves s_))), (9, ri (IntKind.wrap .i64 (s730.1 + (1 : Int)))), (10, ri s632.2), (11, ri s712.2), (12, ri (IntKind.wrap .i64 (s730.2 + (1 : Int))))], [], [], 52⟩ := by kernel_rfl
def ref02_Index_l9_q {β : Type} (s_ : I3) (y_ : Int) (x_ : Int) (c_ : Int) (s632 : (Int × Int)) (s712 : (Int × Int)) (s730 : (Int × Int)) (K0 : (Int × Int) → Option β) (K1 : (Int × Int) → Option β) (K2 : Int → Option β) : Option β := (bif (decide (s730.2 < s_.2.2)) then (bif (ref02_Index_r11_p y_ x_ c_ s632 s712 s730) then (K2 s730.1) else (K0 ((IntKind.wrap .i64 (s730.1 + (1 : Int))), (IntKind.wrap .i64 (s730.2 + (1 : Int)))))) else (K1 s730))
def ref02_Index_l9_p (s_ : I3) (y_ : Int) (x_ : Int) (c_ : Int) (s632 : (Int × Int)) (s712 : (Int × Int)) (s730 : (Int × Int)) : Option ((Int × Int) ⊕ ((Int × Int) ⊕ Int)) := ref02_Index_l9_q s_ y_ x_ c_ s632 s712 s730 (fun y => some (Sum.inl y)) (fun y => some (Sum.inr (Sum.inl y))) (fun y => some (Sum.inr (Sum.inr y)))
theorem ref02_Index_l9_n {β : Type} (s_ : I3) (y_ : Int) (x_ : Int) (c_ : Int) (s632 : (Int × Int)) (s712 : (Int × Int)) (s730 : (Int × Int)) (K0 : (Int × Int) → Option β) (K1 : (Int × Int) → Option β) (K2 : Int → Option β) : ref02_Index_l9_q s_ y_ x_ c_ s632 s712 s730 K0 K1 K2 = (ref02_Index_l9_p s_ y_ x_ c_ s632 s712 s730).bind (either K0 (either K1 K2)) := (bif_b (bif_b e3_2 e3_0) e3_1)
theorem ref02_Index_l9_b {α : Type} (s_ : I3) (y_ : Int) (x_ : Int) (c_ : Int) (s632 : (Int × Int)) (s712 : (Int × Int)) (s730 : (Int × Int)) (k : Kont α) : R20 (bodyOf (bodyOf (bodyOf (bodyOf (bodyOf (bodyOf (bodyOf (bodyOf C20.r.r.l.r)).r.l).r)).r.l).r)) ⟨[(1, ri y_), (2, ri x_), (3, ri c_), (4, .one (.cell (tsI3.leaves s_))), (9, ri s730.1), (10, ri s632.2), (11, ri s712.2), (12, ri s730.2)], [], [], 52⟩ (loopKont 0 k) = Option.bind (ref02_Index_l9_p s_ y_ x_ c_ s632 s712 s730) (either (fun y : (Int × Int) => k .normal ⟨[(1, ri y_), (2, ri x_), (3, ri c_), (4, .one (.cell (tsI3.leaves s_))), (9, ri y.1), (10, ri s632.2), (11, ri s712.2), (12, ri y.2)], [], [], 52⟩) (either (fun y735 : (Int × Int) => k (.exit 4) ⟨[(1, ri y_), (2, ri x_), (3, ri c_), (4, .one (.cell (tsI3.leaves s_))), (9, ri y735.1), (10, ri s632.2), (11, ri s712.2), (12, ri y735.2)], [], [], 52⟩) (fun y736 : Int => k .ret ⟨[(8, ri y736)], [], [], 52⟩))) := by
  refine Eq.trans ?_ (ref02_Index_l9_n s_ y_ x_ c_ s632 s712 s730 _ _ _)
  unfold ref02_Index_l9_q
  refine (seq_push (by kernel_rfl)).trans ?_
  refine (pre (n := 1) (c' := (bodyOf (bodyOf (bodyOf (bodyOf (bodyOf (bodyOf (bodyOf (bodyOf C20.r.r.l.r)).r.l).r)).r.l).r)).l.r) (by kernel_rfl) (by kernel_rfl) (ref02_Index_fzx1 s_ y_ x_ c_ s632 s712 s730 _)).trans ?_
  refine (cond_eq (b := (decide (s730.2 < s_.2.2))) (st' := ⟨[(1, ri y_), (2, ri x_), (3, ri c_), (4, .one (.cell (tsI3.leaves s_))), (9, ri s730.1), (10, ri s632.2), (11, ri s712.2), (12, ri s730.2)], [], [], 52⟩) (by kernel_rfl) (by kernel_rfl) (by kernel_rfl)).trans (bif_g ?_ ?_)
  · refine (skip_eq (by kernel_rfl)).trans ?_
    refine (seqC_normal (st' := ⟨[(1, ri y_), (2, ri x_), (3, ri c_), (4, .one (.cell (tsI3.leaves s_))), (9, ri s730.1), (10, ri s632.2), (11, ri s712.2), (12, ri s730.2)], [], [], 52⟩) (by kernel_rfl)).trans ?_
    refine (seq_push (by kernel_rfl)).trans ?_
    refine (block_push (id := 5) (by kernel_rfl)).trans ?_
    refine (seq_push (by kernel_rfl)).trans ?_
    refine (pre (n := 1) (c' := (bodyOf (bodyOf (bodyOf (bodyOf (bodyOf (bodyOf (bodyOf (bodyOf (bodyOf C20.r.r.l.r)).r.l).r)).r.l).r)).r.l).l.r) (by kernel_rfl) (by kernel_rfl) (ref02_Index_r11 s_ y_ x_ c_ s632 s712 s730 _)).trans ?_
    refine (cond_eq (b := (ref02_Index_r11_p y_ x_ c_ s632 s712 s730)) (st' := ⟨[(1, ri y_), (2, ri x_), (3, ri c_), (4, .one (.cell (tsI3.leaves s_))), (9, ri s730.1), (10, ri s632.2), (11, ri s712.2), (12, ri s730.2)], [], [], 52⟩) (by kernel_rfl) (by kernel_rfl) (by kernel_rfl)).trans (bif_g ?_ ?_)
    · refine (pre (n := 1) (c' := (bodyOf (bodyOf (bodyOf (bodyOf (bodyOf (bodyOf (bodyOf (bodyOf (bodyOf C20.r.r.l.r)).r.l).r)).r.l).r)).r.l).l.r.t.r) (by kernel_rfl) (by kernel_rfl) (ref02_Index_fzx2 s_ y_ x_ c_ s632 s712 s730 _)).trans ?_
      refine (ret_eq (by kernel_rfl)).trans ?_
      refine seqC_ret.trans ?_
      refine block_ret.trans ?_
      refine seqC_ret.trans ?_
      kernel_rfl
    · refine (skip_eq (by kernel_rfl)).trans ?_
      refine (seqC_normal (st' := ⟨[(1, ri y_), (2, ri x_), (3, ri c_), (4, .one (.cell (tsI3.leaves s_))), (9, ri s730.1), (10, ri s632.2), (11, ri s712.2), (12, ri s730.2)], [], [], 52⟩) (by kernel_rfl)).trans ?_
      refine (ref02_Index_r13 s_ y_ x_ c_ s632 s712 s730 _).trans ?_
      refine block_normal.trans ?_
      refine (seqC_normal (st' := ⟨[(1, ri y_), (2, ri x_), (3, ri c_), (4, .one (.cell (tsI3.leaves s_))), (9, ri (IntKind.wrap .i64 (s730.1 + (1 : Int)))), (10, ri s632.2), (11, ri s712.2), (12, ri s730.2)], [], [], 52⟩) (by kernel_rfl)).trans ?_
      refine (ref02_Index_r10 s_ y_ x_ c_ s632 s712 s730 _).trans ?_
      kernel_rfl
  · refine (exit_eq (j := 4) (by kernel_rfl)).trans ?_
    refine seqC_exit.trans ?_
    kernel_rfl
theorem ref02_Index_l9 {α : Type} (s_ : I3) (y_ : Int) (x_ : Int) (c_ : Int) (s632 : (Int × Int)) (s712 : (Int × Int)) (k : Kont α) : R20 (bodyOf (bodyOf (bodyOf (bodyOf (bodyOf (bodyOf (bodyOf C20.r.r.l.r)).r.l).r)).r.l).r) ⟨[(1, ri y_), (2, ri x_), (3, ri c_), (4, .one (.cell (tsI3.leaves s_))), (9, ri s712.1), (10, ri s632.2), (11, ri s712.2), (12, ri (0 : Int))], [], [], 52⟩ k = Option.bind (iterN (ref02_Index_l9_p s_ y_ x_ c_ s632 s712) LL (s712.1, (0 : Int))) (either (fun y735 : (Int × Int) => k (.exit 4) ⟨[(1, ri y_), (2, ri x_), (3, ri c_), (4, .one (.cell (tsI3.leaves s_))), (9, ri y735.1), (10, ri s632.2), (11, ri s712.2), (12, ri y735.2)], [], [], 52⟩) (fun y736 : Int => k .ret ⟨[(8, ri y736)], [], [], 52⟩)) :=
  Eq.trans (by kernel_rfl) (loop_iter2 (S := fun s730 : (Int × Int) => ⟨[(1, ri y_), (2, ri x_), (3, ri c_), (4, .one (.cell (tsI3.leaves s_))), (9, ri s730.1), (10, ri s632.2), (11, ri s712.2), (12, ri s730.2)], [], [], 52⟩) (Y1 := fun y735 : (Int × Int) => ((.exit 4), ⟨[(1, ri y_), (2, ri x_), (3, ri c_), (4, .one (.cell (tsI3.leaves s_))), (9, ri y735.1), (10, ri s632.2), (11, ri s712.2), (12, ri y735.2)], [], [], 52⟩)) (Y2 := fun y736 : Int => (.ret, ⟨[(8, ri y736)], [], [], 52⟩)) (fun s k => ref02_Index_l9_b s_ y_ x_ c_ s632 s712 s k) (fun z => rfl) (fun z => rfl) LL (s712.1, (0 : Int)))
theorem ref02_Index_r7 {α : Type} (s_ : I3) (y_ : Int) (x_ : Int) (c_ : Int) (s632 : (Int × Int)) (s712 : (Int × Int)) (y735 : (Int × Int)) (k : Kont α) : R20 (bodyOf (bodyOf (bodyOf (bodyOf (bodyOf C20.r.r.l.r)).r.l).r)).r.r ⟨[(1, ri y_), (2, ri x_), (3, ri c_), (4, .one (.cell (tsI3.leaves s_))), (9, ri y735.1), (10, ri s632.2), (11, ri s712.2)], [], [], 52⟩ k = k .normal ⟨[(1, ri y_), (2, ri x_), (3, ri c_), (4, .one (.cell (tsI3.leaves s_))), (9, ri y735.1), (10, ri s632.2), (11, ri (IntKind.wrap .i64 (s712.2 + (1 : Int))))], [], [], 52⟩ := by kernel_rfl
def ref02_Index_l6_q {β : Type} (s_ : I3) (y_ : Int) (x_ : Int) (c_ : Int) (s632 : (Int × Int)) (s712 : (Int × Int)) (K0 : (Int × Int) → Option β) (K1 : (Int × Int) → Option β) (K2 : Int → Option β) : Option β := (bif (decide (s712.2 < s_.2.1)) then (Option.bind (iterN (ref02_Index_l9_p s_ y_ x_ c_ s632 s712) LL (s712.1, (0 : Int))) (either (fun y735 : (Int × Int) => (K0 (y735.1, (IntKind.wrap .i64 (s712.2 + (1 : Int)))))) (fun y736 : Int => (K2 y736)))) else (K1 s712))
def ref02_Index_l6_p (s_ : I3) (y_ : Int) (x_ : Int) (c_ : Int) (s632 : (Int × Int)) (s712 : (Int × Int)) : Option ((Int × Int) ⊕ ((Int × Int) ⊕ Int)) := ref02_Index_l6_q s_ y_ x_ c_ s632 s712 (fun y => some (Sum.inl y)) (fun y => some (Sum.inr (Sum.inl y))) (fun y => some (Sum.inr (Sum.inr y)))
theorem ref02_Index_l6_n {β : Type} (s_ : I3) (y_ : Int) (x_ : Int) (c_ : Int) (s632 : (Int × Int)) (s712 : (Int × Int)) (K0 : (Int × Int) → Option β) (K1 : (Int × Int) → Option β) (K2 : Int → Option β) : ref02_Index_l6_q s_ y_ x_ c_ s632 s712 K0 K1 K2 = (ref02_Index_l6_p s_ y_ x_ c_ s632 s712).bind (either K0 (either K1 K2)) := (bif_b (bind_b (either_b (fun y735 => e3_0) (fun y736 => e3_2))) e3_1)
theorem ref02_Index_l6_b {α : Type} (s_ : I3) (y_ : Int) (x_ : Int) (c_ : Int) (s632 : (Int × Int)) (s712 : (Int × Int)) (k : Kont α) : R20 (bodyOf (bodyOf (bodyOf (bodyOf (bodyOf C20.r.r.l.r)).r.l).r)) ⟨[(1, ri y_), (2, ri x_), (3, ri c_), (4, .one (.cell (tsI3.leaves s_))), (9, ri s712.1), (10, ri s632.2), (11, ri s712.2)], [], [], 52⟩ (loopKont 0 k) = Option.bind (ref02_Index_l6_p s_ y_ x_ c_ s632 s712) (either (fun y : (Int × Int) => k .normal ⟨[(1, ri y_), (2, ri x_), (3, ri c_), (4, .one (.cell (tsI3.leaves s_))), (9, ri y.1), (10, ri s632.2), (11, ri y.2)], [], [], 52⟩) (either (fun y737 : (Int × Int) => k (.exit 2) ⟨[(1, ri y_), (2, ri x_), (3, ri c_), (4, .one (.cell (tsI3.leaves s_))), (9, ri y737.1), (10, ri s632.2), (11, ri y737.2)], [], [], 52⟩) (fun y738 : Int => k .ret ⟨[(8, ri y738)], [], [], 52⟩))) := by
  refine Eq.trans ?_ (ref02_Index_l6_n s_ y_ x_ c_ s632 s712 _ _ _)
  unfold ref02_Index_l6_q
  refine (seq_push (by kernel_rfl)).trans ?_
  refine (pre (n := 1) (c' := (bodyOf (bodyOf (bodyOf (bodyOf (bodyOf C20.r.r.l.r)).r.l).r)).l.r) (by kernel_rfl) (by kernel_rfl) (ref02_Index_fz s_ y_ x_ c_ s632 s712 _)).trans ?_
  refine (cond_eq (b := (decide (s712.2 < s_.2.1))) (st' := ⟨[(1, ri y_), (2, ri x_), (3, ri c_), (4, .one (.cell (tsI3.leaves s_))), (9, ri s712.1), (10, ri s632.2), (11, ri s712.2)], [], [], 52⟩) (by kernel_rfl) (by kernel_rfl) (by kernel_rfl)).trans (bif_g ?_ ?_)
  · refine (skip_eq (by kernel_rfl)).trans ?_
    refine (seqC_normal (st' := ⟨[(1, ri y_), (2, ri x_), (3, ri c_), (4, .one (.cell (tsI3.leaves s_))), (9, ri s712.1), (10, ri s632.2), (11, ri s712.2)], [], [], 52⟩) (by kernel_rfl)).trans ?_
    refine (seq_push (by kernel_rfl)).trans ?_
    refine (block_push (id := 3) (by kernel_rfl)).trans ?_
    refine (pre (n := 1) (c' := (bodyOf (bodyOf (bodyOf (bodyOf (bodyOf (bodyOf C20.r.r.l.r)).r.l).r)).r.l).r) (by kernel_rfl) (by kernel_rfl) (ref02_Index_f9 s_ y_ x_ c_ s632 s712 _)).trans ?_
    refine (block_push (id := 4) (by kernel_rfl)).trans ?_
    refine (ref02_Index_l9 s_ y_ x_ c_ s632 s712 _).trans (bind_g (either_g (fun y735 => ?_) (fun y736 => ?_)))
    · refine block_same.trans ?_
      refine block_normal.trans ?_
      refine (seqC_normal (st' := ⟨[(1, ri y_), (2, ri x_), (3, ri c_), (4, .one (.cell (tsI3.leaves s_))), (9, ri y735.1), (10, ri s632.2), (11, ri s712.2)], [], [], 52⟩) (by kernel_rfl)).trans ?_
      refine (ref02_Index_r7 s_ y_ x_ c_ s632 s712 y735 _).trans ?_
      kernel_rfl
    · refine block_ret.trans ?_
      refine block_ret.trans ?_
      refine seqC_ret.trans ?_
      kernel_rfl
  · refine (exit_eq (j := 2) (by kernel_rfl)).trans ?_
    refine seqC_exit.trans ?_
    kernel_rfl
theorem ref02_Index_l6 {α : Type} (s_ : I3) (y_ : Int) (x_ : Int) (c_ : Int) (s632 : (Int × Int)) (k : Kont α) : R20 (bodyOf (bodyOf (bodyOf (bodyOf C20.r.r.l.r)).r.l).r) ⟨[(1, ri y_), (2, ri x_), (3, ri c_), (4, .one (.cell (tsI3.leaves s_))), (9, ri s632.1), (10, ri s632.2), (11, ri (0 : Int))], [], [], 52⟩ k = Option.bind (iterN (ref02_Index_l6_p s_ y_ x_ c_ s632) LL (s632.1, (0 : Int))) (either (fun y737 : (Int × Int) => k (.exit 2) ⟨[(1, ri y_), (2, ri x_), (3, ri c_), (4, .one (.cell (tsI3.leaves s_))), (9, ri y737.1), (10, ri s632.2), (11, ri y737.2)], [], [], 52⟩) (fun y738 : Int => k .ret ⟨[(8, ri y738)], [], [], 52⟩)) :=
  Eq.trans (by kernel_rfl) (loop_iter2 (S := fun s712 : (Int × Int) => ⟨[(1, ri y_), (2, ri x_), (3, ri c_), (4, .one (.cell (tsI3.leaves s_))), (9, ri s712.1), (10, ri s632.2), (11, ri s712.2)], [], [], 52⟩) (Y1 := fun y737 : (Int × Int) => ((.exit 2), ⟨[(1, ri y_), (2, ri x_), (3, ri c_), (4, .one (.cell (tsI3.leaves s_))), (9, ri y737.1), (10, ri s632.2), (11, ri y737.2)], [], [], 52⟩)) (Y2 := fun y738 : Int => (.ret, ⟨[(8, ri y738)], [], [], 52⟩)) (fun s k => ref02_Index_l6_b s_ y_ x_ c_ s632 s k) (fun z => rfl) (fun z => rfl) LL (s632.1, (0 : Int)))
theorem ref02_Index_r4 {α : Type} (s_ : I3) (y_ : Int) (x_ : Int) (c_ : Int) (s632 : (Int × Int)) (y737 : (Int × Int)) (k : Kont α) : R20 (bodyOf (bodyOf C20.r.r.l.r)).r.r ⟨[(1, ri y_), (2, ri x_), (3, ri c_), (4, .one (.cell (tsI3.leaves s_))), (9, ri y737.1), (10, ri s632.2)], [], [], 52⟩ k = k .normal ⟨[(1, ri y_), (2, ri x_), (3, ri c_), (4, .one (.cell (tsI3.leaves s_))), (9, ri y737.1), (10, ri (IntKind.wrap .i64 (s632.2 + (1 : Int))))], [], [], 52⟩ := by kernel_rfl
def ref02_Index_l3_q {β : Type} (s_ : I3) (y_ : Int) (x_ : Int) (c_ : Int) (s632 : (Int × Int)) (K0 : (Int × Int) → Option β) (K1 : (Int × Int) → Option β) (K2 : Int → Option β) : Option β := (bif (ref02_Index_r3_p s_ s632) then (Option.bind (iterN (ref02_Index_l6_p s_ y_ x_ c_ s632) LL (s632.1, (0 : Int))) (either (fun y737 : (Int × Int) => (K0 (y737.1, (IntKind.wrap .i64 (s632.2 + (1 : Int)))))) (fun y738 : Int => (K2 y738)))) else (K1 s632))
def ref02_Index_l3_p (s_ : I3) (y_ : Int) (x_ : Int) (c_ : Int) (s632 : (Int × Int)) : Option ((Int × Int) ⊕ ((Int × Int) ⊕ Int)) := ref02_Index_l3_q s_ y_ x_ c_ s632 (fun y => some (Sum.inl y)) (fun y => some (Sum.inr (Sum.inl y))) (fun y => some (Sum.inr (Sum.inr y)))
theorem ref02_Index_l3_n {β : Type} (s_ : I3) (y_ : Int) (x_ : Int) (c_ : Int) (s632 : (Int × Int)) (K0 : (Int × Int) → Option β) (K1 : (Int × Int) → Option β) (K2 : Int → Option β) : ref02_Index_l3_q s_ y_ x_ c_ s632 K0 K1 K2 = (ref02_Index_l3_p s_ y_ x_ c_ s632).bind (either K0 (either K1 K2)) := (bif_b (bind_b (either_b (fun y737 => e3_0) (fun y738 => e3_2))) e3_1)
theorem ref02_Index_l3_b {α : Type} (s_ : I3) (y_ : Int) (x_ : Int) (c_ : Int) (s632 : (Int × Int)) (k : Kont α) : R20 (bodyOf (bodyOf C20.r.r.l.r)) ⟨[(1, ri y_), (2, ri x_), (3, ri c_), (4, .one (.cell (tsI3.leaves s_))), (9, ri s632.1), (10, ri s632.2)], [], [], 52⟩ (loopKont 0 k) = Option.bind (ref02_Index_l3_p s_ y_ x_ c_ s632) (either (fun y : (Int × Int) => k .normal ⟨[(1, ri y_), (2, ri x_), (3, ri c_), (4, .one (.cell (tsI3.leaves s_))), (9, ri y.1), (10, ri y.2)], [], [], 52⟩) (either (fun y739 : (Int × Int) => k (.exit 0) ⟨[(1, ri y_), (2, ri x_), (3, ri c_), (4, .one (.cell (tsI3.leaves s_))), (9, ri y739.1), (10, ri y739.2)], [], [], 52⟩) (fun y740 : Int => k .ret ⟨[(8, ri y740)], [], [], 52⟩))) := by
  refine Eq.trans ?_ (ref02_Index_l3_n s_ y_ x_ c_ s632 _ _ _)
  unfold ref02_Index_l3_q
  refine (seq_push (by kernel_rfl)).trans ?_
  refine (pre (n := 1) (c' := (bodyOf (bodyOf C20.r.r.l.r)).l.r) (by kernel_rfl) (by kernel_rfl) (ref02_Index_r3 s_ y_ x_ c_ s632 _)).trans ?_
  refine (cond_eq (b := (ref02_Index_r3_p s_ s632)) (st' := ⟨[(1, ri y_), (2, ri x_), (3, ri c_), (4, .one (.cell (tsI3.leaves s_))), (9, ri s632.1), (10, ri s632.2)], [], [], 52⟩) (by kernel_rfl) (by kernel_rfl) (by kernel_rfl)).trans (bif_g ?_ ?_)
  · refine (skip_eq (by kernel_rfl)).trans ?_
    refine (seqC_normal (st' := ⟨[(1, ri y_), (2, ri x_), (3, ri c_), (4, .one (.cell (tsI3.leaves s_))), (9, ri s632.1), (10, ri s632.2)], [], [], 52⟩) (by kernel_rfl)).trans ?_
    refine (seq_push (by kernel_rfl)).trans ?_
    refine (block_push (id := 1) (by kernel_rfl)).trans ?_
    refine (pre (n := 1) (c' := (bodyOf (bodyOf (bodyOf C20.r.r.l.r)).r.l).r) (by kernel_rfl) (by kernel_rfl) (ref02_Index_f6 s_ y_ x_ c_ s632 _)).trans ?_
    refine (block_push (id := 2) (by kernel_rfl)).trans ?_
    refine (ref02_Index_l6 s_ y_ x_ c_ s632 _).trans (bind_g (either_g (fun y737 => ?_) (fun y738 => ?_)))
    · refine block_same.trans ?_
      refine block_normal.trans ?_
      refine (seqC_normal (st' := ⟨[(1, ri y_), (2, ri x_), (3, ri c_), (4, .one (.cell (tsI3.leaves s_))), (9, ri y737.1), (10, ri s632.2)], [], [], 52⟩) (by kernel_rfl)).trans ?_
      refine (ref02_Index_r4 s_ y_ x_ c_ s632 y737 _).trans ?_
      kernel_rfl
    · refine block_ret.trans ?_
      refine block_ret.trans ?_
      refine seqC_ret.trans ?_
      kernel_rfl
  · refine (exit_eq (j := 0) (by kernel_rfl)).trans ?_
    refine seqC_exit.trans ?_
    kernel_rfl
theorem ref02_Index_l3 {α : Type} (s_ : I3) (y_ : Int) (x_ : Int) (c_ : Int) (k : Kont α) : R20 (bodyOf C20.r.r.l.r) ⟨[(1, ri y_), (2, ri x_), (3, ri c_), (4, .one (.cell (tsI3.leaves s_))), (9, ri (0 : Int)), (10, ri (0 : Int))], [], [], 52⟩ k = Option.bind (iterN (ref02_Index_l3_p s_ y_ x_ c_) LL ((0 : Int), (0 : Int))) (either (fun y739 : (Int × Int) => k (.exit 0) ⟨[(1, ri y_), (2, ri x_), (3, ri c_), (4, .one (.cell (tsI3.leaves s_))), (9, ri y739.1), (10, ri y739.2)], [], [], 52⟩) (fun y740 : Int => k .ret ⟨[(8, ri y740)], [], [], 52⟩)) :=
  Eq.trans (by kernel_rfl) (loop_iter2 (S := fun s632 : (Int × Int) => ⟨[(1, ri y_), (2, ri x_), (3, ri c_), (4, .one (.cell (tsI3.leaves s_))), (9, ri s632.1), (10, ri s632.2)], [], [], 52⟩) (Y1 := fun y739 : (Int × Int) => ((.exit 0), ⟨[(1, ri y_), (2, ri x_), (3, ri c_), (4, .one (.cell (tsI3.leaves s_))), (9, ri y739.1), (10, ri y739.2)], [], [], 52⟩)) (Y2 := fun y740 : Int => (.ret, ⟨[(8, ri y740)], [], [], 52⟩)) (fun s k => ref02_Index_l3_b s_ y_ x_ c_ s k) (fun z => rfl) (fun z => rfl) LL ((0 : Int), (0 : Int)))
theorem ref02_Index_fzx3 {α : Type} (k : St → Option α) : P20 1 C20.r.r.r ⟨[], [], [], 52⟩ k = k ⟨[(8, ri (-1 : Int))], [], [], 52⟩ := by kernel_rfl
/-- quilt/quiltref02.Index -/
def ref02_Index_q {β : Type} (s_ : I3) (y_ : Int) (x_ : Int) (c_ : Int) (K : Int → Option β) : Option β := (Option.bind (iterN (ref02_Index_l3_p s_ y_ x_ c_) LL ((0 : Int), (0 : Int))) (either (fun y739 : (Int × Int) => (K (-1 : Int))) (fun y740 : Int => (K y740))))
def ref02_Index (s_ : I3) (y_ : Int) (x_ : Int) (c_ : Int) : Option Int := ref02_Index_q s_ y_ x_ c_ some
theorem ref02_Index_n {β : Type} (s_ : I3) (y_ : Int) (x_ : Int) (c_ : Int) (K : Int → Option β) : ref02_Index_q s_ y_ x_ c_ K = (ref02_Index s_ y_ x_ c_).bind K := (bind_b (either_b (fun y739 => some_b) (fun y740 => some_b)))
theorem ref02_Index_is (s_ : I3) (y_ : Int) (x_ : Int) (c_ : Int) : stepS E cp20 noE 39 [.agg (tsI3.leaves s_), ri y_, ri x_, ri c_] = Option.bind (ref02_Index s_ y_ x_ c_) (fun y : Int => some (ri y : R)) := by
  refine Eq.trans ?_ (ref02_Index_n s_ y_ x_ c_ (fun y : Int => some (ri y : R)))
  refine (stepG_is (nt := 52) (regs := [(0, .agg (tsI3.leaves s_)), (1, ri y_), (2, ri x_), (3, ri c_)]) (by kernel_rfl) (by kernel_rfl)).trans ?_
  unfold ref02_Index_q
  refine (pre (n := 2) (c' := C20.r.r) (by kernel_rfl) (by kernel_rfl) (ref02_Index_f2 s_ y_ x_ c_ _)).trans ?_
  refine (seq_push (by kernel_rfl)).trans ?_
  refine (pre (n := 1) (c' := C20.r.r.l.r) (by kernel_rfl) (by kernel_rfl) (ref02_Index_f3 s_ y_ x_ c_ _)).trans ?_
  refine (block_push (id := 0) (by kernel_rfl)).trans ?_
  refine (ref02_Index_l3 s_ y_ x_ c_ _).trans (bind_g (either_g (fun y739 => ?_) (fun y740 => ?_)))
  · refine block_same.trans ?_
    refine (seqC_normal (st' := ⟨[], [], [], 52⟩) (by kernel_rfl)).trans ?_
    refine (pre (n := 1) (c' := C20.r.r.r.r) (by kernel_rfl) (by kernel_rfl) (ref02_Index_fzx3 _)).trans ?_
    refine (ret_eq (by kernel_rfl)).trans ?_
    kernel_rfl
  · refine block_ret.trans ?_
    refine seqC_ret.trans ?_
    kernel_rfl
theorem ref02_Index_c (x : denL [(.agg tsI3), (.one (.g (.int .i64))), (.one (.g (.int .i64))), (.one (.g (.int .i64)))]) : stepS E cp20 noE 39 (encL [(.agg tsI3), (.one (.g (.int .i64))), (.one (.g (.int .i64))), (.one (.g (.int .i64)))] x) = ((fun x => ref02_Index x.1 x.2.1 x.2.2.1 x.2.2.2.1) x).bind fun y => some (Po.enc (.one (.one (.g (.int .i64)))) ((fun y : Int => y) y)) := Eq.mp (by kernel_rfl) (ref02_Index_is x.1 x.2.1 x.2.2.1 x.2.2.2.1)
noncomputable def cp21 : CallP := withC cp20 39 [(.agg tsI3), (.one (.g (.int .i64))), (.one (.g (.int .i64))), (.one (.g (.int .i64)))] (.one (.one (.g (.int .i64)))) (fun y : Int => y) (fun x => ref02_Index x.1 x.2.1 x.2.2.1 x.2.2.2.1)
theorem cp21_ok : PureOK E cp21 := withC_ok cp20_ok (stepS_ok eok cp20_ok noE_ok) fun x => con_of (enc := fun y => Po.enc (.one (.one (.g (.int .i64)))) ((fun y : Int => y) y)) (ref02_Index_c x)
noncomputable abbrev C21 : Code := codeOf E.P 13
noncomputable abbrev P21 {α : Type} (n : Nat) (c : Code) (st : St) (k : St → Option α) : Option α := preK E 13 cp21 noE n c st k
noncomputable abbrev R21 {α : Type} (c : Code) (st : St) (k : Kont α) : Option α := runCode E 13 cp21 noE c st k
noncomputable abbrev Q21 {α : Type} (c : Code) (k : Kont α) : Kont α := seqC E 13 cp21 noE c k
theorem law02_ShapeAll_r1 {α : Type} (s_ : I3) (at_ : I3) (k : St → Option α) : P21 2 C21 ⟨[(0, .agg (tsI3.leaves s_)), (1, .agg (tsI3.leaves at_))], [], [], 48⟩ k = Option.bind law02_shown fun y300 : Bool => k ⟨[(2, .one (.cell (tsI3.leaves s_))), (3, .one (.cell (tsI3.leaves at_))), (5, rb y300)], [], [], 48⟩ := by kernel_rfl
def law02_ShapeAll_r2_q {β : Type} (s_ : I3) (at_ : I3) (y300 : Bool) (K : Bool → Option β) : Option β := (bif y300 then (Option.bind (shape_May s_) (fun y303 : Int => (bif (y303 == (ref02_May s_)) then (Option.bind (shape_Size s_) (fun y306 : Int => (bif (y306 == (ref02_Size s_)) then (Option.bind (shape_Row s_) (fun y307 : Int => (bif (y307 == (ref02_Row s_)) then (Option.bind (shape_Index s_ at_.1 at_.2.1 at_.2.2) (fun y308 : Int => (Option.bind (ref02_Index s_ at_.1 at_.2.1 at_.2.2) (fun y741 : Int => (K (y308 == y741)))))) else (K false)))) else (K false)))) else (K false)))) else (K false))
def law02_ShapeAll_r2_p (s_ : I3) (at_ : I3) (y300 : Bool) : Option (Bool) := law02_ShapeAll_r2_q s_ at_ y300 some
theorem law02_ShapeAll_r2_n {β : Type} (s_ : I3) (at_ : I3) (y300 : Bool) (K : Bool → Option β) : law02_ShapeAll_r2_q s_ at_ y300 K = (law02_ShapeAll_r2_p s_ at_ y300).bind K := (bif_b (bind_b fun y303 => (bif_b (bind_b fun y306 => (bif_b (bind_b fun y307 => (bif_b (bind_b fun y308 => (bind_b fun y741 => some_b)) some_b)) some_b)) some_b)) some_b)
theorem law02_ShapeAll_r2 {α : Type} (s_ : I3) (at_ : I3) (y300 : Bool) (k : St → Option α) : P21 1 C21.r.r ⟨[(2, .one (.cell (tsI3.leaves s_))), (3, .one (.cell (tsI3.leaves at_))), (5, rb y300)], [], [], 48⟩ k = Option.bind (law02_ShapeAll_r2_p s_ at_ y300) (fun y742 : Bool => k ⟨[(4, rb y742)], [], [], 48⟩) := Eq.trans (by kernel_rfl) (law02_ShapeAll_r2_n s_ at_ y300 _)
/-- quilt/quiltlaw02.ShapeAll -/
def law02_ShapeAll_q {β : Type} (s_ : I3) (at_ : I3) (K : Bool → Option β) : Option β := (Option.bind law02_shown (fun y300 : Bool => (Option.bind (law02_ShapeAll_r2_p s_ at_ y300) (fun y742 : Bool => (K y742)))))
def law02_ShapeAll (s_ : I3) (at_ : I3) : Option Bool := law02_ShapeAll_q s_ at_ some
theorem law02_ShapeAll_n {β : Type} (s_ : I3) (at_ : I3) (K : Bool → Option β) : law02_ShapeAll_q s_ at_ K = (law02_ShapeAll s_ at_).bind K := (bind_b fun y300 => (bind_b fun y742 => some_b))
theorem law02_ShapeAll_is (s_ : I3) (at_ : I3) : stepS E cp21 noE 13 [.agg (tsI3.leaves s_), .agg (tsI3.leaves at_)] = Option.bind (law02_ShapeAll s_ at_) (fun y : Bool => some (rb y : R)) := by
  refine Eq.trans ?_ (law02_ShapeAll_n s_ at_ (fun y : Bool => some (rb y : R)))
  refine (stepG_is (nt := 48) (regs := [(0, .agg (tsI3.leaves s_)), (1, .agg (tsI3.leaves at_))]) (by kernel_rfl) (by kernel_rfl)).trans ?_
  unfold law02_ShapeAll_q
  refine (pre (n := 2) (c' := C21.r.r) (by kernel_rfl) (by kernel_rfl) (law02_ShapeAll_r1 s_ at_ _)).trans (bind_g fun y300 => ?_)
  refine (pre (n := 1) (c' := C21.r.r.r) (by kernel_rfl) (by kernel_rfl) (law02_ShapeAll_r2 s_ at_ y300 _)).trans (bind_g fun y742 => ?_)
  refine (ret_eq (by kernel_rfl)).trans ?_
  kernel_rfl
theorem law02_ShapeAll_c (x : denL [(.agg tsI3), (.agg tsI3)]) : stepS E cp21 noE 13 (encL [(.agg tsI3), (.agg tsI3)] x) = ((fun x => law02_ShapeAll x.1 x.2.1) x).bind fun y => some (Po.enc (.one (.one (.g .bool))) ((fun y : Bool => y) y)) := Eq.mp (by kernel_rfl) (law02_ShapeAll_is x.1 x.2.1)
noncomputable def cp22 : CallP := withC cp21 13 [(.agg tsI3), (.agg tsI3)] (.one (.one (.g .bool))) (fun y : Bool => y) (fun x => law02_ShapeAll x.1 x.2.1)
theorem cp22_ok : PureOK E cp22 := withC_ok cp21_ok (stepS_ok eok cp21_ok noE_ok) fun x => con_of (enc := fun y => Po.enc (.one (.one (.g .bool))) ((fun y : Bool => y) y)) (law02_ShapeAll_c x)
theorem law02_ShapeAll_walk (s_ : I3) (at_ : I3) (ht : law02_ShapeAll s_ at_ = some true) (w : World) (vs : List Value) (hrd : ∀ γ : Gh, Free γ → rdRs w γ [argR true tsI3 s_, argR true tsI3 at_] vs) : Calls E.P 13 vs.toArray w fun e w' => e = .returned (.bool true) ∧ Below w.heap.size w w' :=
  walk_true (E := E) (stepS_ok eok cp21_ok noE_ok) (show stepS E cp21 noE 13 [.agg (tsI3.leaves s_), .agg (tsI3.leaves at_)] = some (.one (.g .bool true)) from by rw [law02_ShapeAll_is, ht]; rfl) w fun γ hγ => Eq.mp (by kernel_rfl) (hrd γ hγ)
noncomputable abbrev C22 : Code := codeOf E.P 14
noncomputable abbrev P22 {α : Type} (n : Nat) (c : Code) (st : St) (k : St → Option α) : Option α := preK E 14 cp22 noE n c st k
noncomputable abbrev R22 {α : Type} (c : Code) (st : St) (k : Kont α) : Option α := runCode E 14 cp22 noE c st k
noncomputable abbrev Q22 {α : Type} (c : Code) (k : Kont α) : Kont α := seqC E 14 cp22 noE c k
theorem law02_ShapeIndexes_r1 {α : Type} (s_ : I3) (k : St → Option α) : P22 2 C22 ⟨[(0, .agg (tsI3.leaves s_))], [], [], 107⟩ k = Option.bind law02_shown fun y743 : Bool => k ⟨[(1, .one (.ref 0 0)), (3, rb y743)], [(tsI3.leaves s_)], [], 107⟩ := by kernel_rfl
def law02_ShapeIndexes_r2_q {β : Type} (s_ : I3) (K : (Int × Int × Int) → β) : β := (K ((IntKind.wrap .i64 ((BitVec.ofInt (IntKind.bits .i64) s_.1 &&& BitVec.ofInt (IntKind.bits .i64) (15 : Int)).toNat : Int)), (IntKind.wrap .i64 ((BitVec.ofInt (IntKind.bits .i64) s_.2.1 &&& BitVec.ofInt (IntKind.bits .i64) (15 : Int)).toNat : Int)), (IntKind.wrap .i64 ((BitVec.ofInt (IntKind.bits .i64) s_.2.2 &&& BitVec.ofInt (IntKind.bits .i64) (7 : Int)).toNat : Int))))
def law02_ShapeIndexes_r2_p (s_ : I3) : (Int × Int × Int) := law02_ShapeIndexes_r2_q s_ (fun y => y)
theorem law02_ShapeIndexes_r2_n {β : Type} (s_ : I3) (K : (Int × Int × Int) → β) : law02_ShapeIndexes_r2_q s_ K = K (law02_ShapeIndexes_r2_p s_) := rfl
theorem law02_ShapeIndexes_r2 {α : Type} (s_ : I3) (y743 : Bool) (k : St → Option α) : P22 1 C22.r.r ⟨[(1, .one (.ref 0 0)), (3, rb y743)], [(tsI3.leaves s_)], [], 107⟩ k = k ⟨[(1, .one (.ref 0 0)), (3, rb y743)], [(tsI3.leaves (law02_ShapeIndexes_r2_p s_))], [], 107⟩ := Eq.trans (by kernel_rfl) (law02_ShapeIndexes_r2_n s_ (fun y744 : (Int × Int × Int) => k ⟨[(1, .one (.ref 0 0)), (3, rb y743)], [(tsI3.leaves y744)], [], 107⟩))
theorem law02_ShapeIndexes_r3 {α : Type} (s_ : I3) (y743 : Bool) (k : St → Option α) : P22 1 C22.r.r.r.l ⟨[(1, .one (.ref 0 0)), (3, rb y743)], [(tsI3.leaves (law02_ShapeIndexes_r2_p s_))], [], 107⟩ k = Option.bind (shape_May (law02_ShapeIndexes_r2_p s_)) fun y750 : Int => k ⟨[(1, .one (.ref 0 0)), (3, rb y743), (21, rb (y750 != (0 : Int)))], [(tsI3.leaves (law02_ShapeIndexes_r2_p s_))], [], 107⟩ := by kernel_rfl
def law02_ShapeIndexes_r4_q {β : Type} (s_ : I3) (y743 : Bool) (K : Bool → Option β) : Option β := (bif y743 then (Option.bind (shape_Size (law02_ShapeIndexes_r2_p s_)) (fun y751 : Int => (bif (y751 == (0 : Int)) then (Option.bind (shape_Row (law02_ShapeIndexes_r2_p s_)) (fun y752 : Int => (bif (y752 == (0 : Int)) then (Option.bind (shape_Index (law02_ShapeIndexes_r2_p s_) (0 : Int) (0 : Int) (0 : Int)) (fun y753 : Int => (K (y753 == (-1 : Int))))) else (K false)))) else (K false)))) else (K false))
def law02_ShapeIndexes_r4_p (s_ : I3) (y743 : Bool) : Option (Bool) := law02_ShapeIndexes_r4_q s_ y743 some
theorem law02_ShapeIndexes_r4_n {β : Type} (s_ : I3) (y743 : Bool) (K : Bool → Option β) : law02_ShapeIndexes_r4_q s_ y743 K = (law02_ShapeIndexes_r4_p s_ y743).bind K := (bif_b (bind_b fun y751 => (bif_b (bind_b fun y752 => (bif_b (bind_b fun y753 => some_b) some_b)) some_b)) some_b)
theorem law02_ShapeIndexes_r4 {α : Type} (s_ : I3) (y743 : Bool) (k : St → Option α) : P22 1 C22.r.r.r.l.r.t ⟨[(1, .one (.ref 0 0)), (3, rb y743)], [(tsI3.leaves (law02_ShapeIndexes_r2_p s_))], [], 107⟩ k = Option.bind (law02_ShapeIndexes_r4_p s_ y743) (fun y754 : Bool => k ⟨[(2, rb y754)], [[]], [], 107⟩) := Eq.trans (by kernel_rfl) (law02_ShapeIndexes_r4_n s_ y743 _)
theorem law02_ShapeIndexes_f6 {α : Type} (s_ : I3) (y743 : Bool) (k : St → Option α) : P22 1 C22.r.r.r.r ⟨[(1, .one (.ref 0 0)), (3, rb y743)], [(tsI3.leaves (law02_ShapeIndexes_r2_p s_))], [], 107⟩ k = k ⟨[(1, .one (.ref 0 0)), (3, rb y743), (4, ri (0 : Int))], [(tsI3.leaves (law02_ShapeIndexes_r2_p s_))], [], 107⟩ := by kernel_rfl
theorem law02_ShapeIndexes_f7 {α : Type} (s_ : I3) (y743 : Bool) (k : St → Option α) : P22 1 C22.r.r.r.r.r.l ⟨[(1, .one (.ref 0 0)), (3, rb y743), (4, ri (0 : Int))], [(tsI3.leaves (law02_ShapeIndexes_r2_p s_))], [], 107⟩ k = k ⟨[(1, .one (.ref 0 0)), (3, rb y743), (4, ri (0 : Int)), (5, ri (0 : Int))], [(tsI3.leaves (law02_ShapeIndexes_r2_p s_))], [], 107⟩ := by kernel_rfl
theorem law02_ShapeIndexes_fz {α : Type} (s_ : I3) (y743 : Bool) (s1072 : (Int × Int)) (k : St → Option α) : P22 1 (bodyOf (bodyOf C22.r.r.r.r.r.l.r)).l ⟨[(1, .one (.ref 0 0)), (3, rb y743), (4, ri s1072.1), (5, ri s1072.2)], [(tsI3.leaves (law02_ShapeIndexes_r2_p s_))], [], 107⟩ k = k ⟨[(1, .one (.ref 0 0)), (3, rb y743), (4, ri s1072.1), (5, ri s1072.2), (41, rb (decide (s1072.2 < ((law02_ShapeIndexes_r2_p s_).1))))], [(tsI3.leaves (law02_ShapeIndexes_r2_p s_))], [], 107⟩ := by kernel_rfl
theorem law02_ShapeIndexes_f10 {α : Type} (s_ : I3) (y743 : Bool) (s1072 : (Int × Int)) (k : St → Option α) : P22 1 (bodyOf (bodyOf (bodyOf C22.r.r.r.r.r.l.r)).r.l) ⟨[(1, .one (.ref 0 0)), (3, rb y743), (4, ri s1072.1), (5, ri s1072.2)], [(tsI3.leaves (law02_ShapeIndexes_r2_p s_))], [], 107⟩ k = k ⟨[(1, .one (.ref 0 0)), (3, rb y743), (4, ri s1072.1), (5, ri s1072.2), (6, ri (0 : Int))], [(tsI3.leaves (law02_ShapeIndexes_r2_p s_))], [], 107⟩ := by kernel_rfl
theorem law02_ShapeIndexes_fzx1 {α : Type} (s_ : I3) (y743 : Bool) (s1072 : (Int × Int)) (s1150 : (Int × Int)) (k : St → Option α) : P22 1 (bodyOf (bodyOf (bodyOf (bodyOf (bodyOf C22.r.r.r.r.r.l.r)).r.l).r)).l ⟨[(1, .one (.ref 0 0)), (3, rb y743), (4, ri s1150.1), (5, ri s1072.2), (6, ri s1150.2)], [(tsI3.leaves (law02_ShapeIndexes_r2_p s_))], [], 107⟩ k = k ⟨[(1, .one (.ref 0 0)), (3, rb y743), (4, ri s1150.1), (5, ri s1072.2), (6, ri s1150.2), (47, rb (decide (s1150.2 < ((law02_ShapeIndexes_r2_p s_).2.1))))], [(tsI3.leaves (law02_ShapeIndexes_r2_p s_))], [], 107⟩ := by kernel_rfl
theorem law02_ShapeIndexes_f13 {α : Type} (s_ : I3) (y743 : Bool) (s1072 : (Int × Int)) (s1150 : (Int × Int)) (k : St → Option α) : P22 1 (bodyOf (bodyOf (bodyOf (bodyOf (bodyOf (bodyOf C22.r.r.r.r.r.l.r)).r.l).r)).r.l) ⟨[(1, .one (.ref 0 0)), (3, rb y743), (4, ri s1150.1), (5, ri s1072.2), (6, ri s1150.2)], [(tsI3.leaves (law02_ShapeIndexes_r2_p s_))], [], 107⟩ k = k ⟨[(1, .one (.ref 0 0)), (3, rb y743), (4, ri s1150.1), (5, ri s1072.2), (6, ri s1150.2), (7, ri (0 : Int))], [(tsI3.leaves (law02_ShapeIndexes_r2_p s_))], [], 107⟩ := by kernel_rfl
theorem law02_ShapeIndexes_fzx2 {α : Type} (s_ : I3) (y743 : Bool) (s1072 : (Int × Int)) (s1150 : (Int × Int)) (s1168 : (Int × Int)) (k : St → Option α) : P22 1 (bodyOf (bodyOf (bodyOf (bodyOf (bodyOf (bodyOf (bodyOf (bodyOf C22.r.r.r.r.r.l.r)).r.l).r)).r.l).r)).l ⟨[(1, .one (.ref 0 0)), (3, rb y743), (4, ri s1168.1), (5, ri s1072.2), (6, ri s1150.2), (7, ri s1168.2)], [(tsI3.leaves (law02_ShapeIndexes_r2_p s_))], [], 107⟩ k = k ⟨[(1, .one (.ref 0 0)), (3, rb y743), (4, ri s1168.1), (5, ri s1072.2), (6, ri s1150.2), (7, ri s1168.2), (53, rb (decide (s1168.2 < ((law02_ShapeIndexes_r2_p s_).2.2))))], [(tsI3.leaves (law02_ShapeIndexes_r2_p s_))], [], 107⟩ := by kernel_rfl
theorem law02_ShapeIndexes_r15 {α : Type} (s_ : I3) (y743 : Bool) (s1072 : (Int × Int)) (s1150 : (Int × Int)) (s1168 : (Int × Int)) (k : St → Option α) : P22 1 (bodyOf (bodyOf (bodyOf (bodyOf (bodyOf (bodyOf (bodyOf (bodyOf (bodyOf C22.r.r.r.r.r.l.r)).r.l).r)).r.l).r)).r.l).l ⟨[(1, .one (.ref 0 0)), (3, rb y743), (4, ri s1168.1), (5, ri s1072.2), (6, ri s1150.2), (7, ri s1168.2)], [(tsI3.leaves (law02_ShapeIndexes_r2_p s_))], [], 107⟩ k = Option.bind (shape_Index (law02_ShapeIndexes_r2_p s_) s1072.2 s1150.2 s1168.2) fun y1172 : Int => k ⟨[(1, .one (.ref 0 0)), (3, rb y743), (4, ri s1168.1), (5, ri s1072.2), (6, ri s1150.2), (7, ri s1168.2), (62, rb (y1172 != s1168.1))], [(tsI3.leaves (law02_ShapeIndexes_r2_p s_))], [], 107⟩ := by kernel_rfl
theorem law02_ShapeIndexes_fzx3 {α : Type} (s_ : I3) (y743 : Bool) (s1072 : (Int × Int)) (s1150 : (Int × Int)) (s1168 : (Int × Int)) (k : St → Option α) : P22 1 (bodyOf (bodyOf (bodyOf (bodyOf (bodyOf (bodyOf (bodyOf (bodyOf (bodyOf C22.r.r.r.r.r.l.r)).r.l).r)).r.l).r)).r.l).l.r.t ⟨[(1, .one (.ref 0 0)), (3, rb y743), (4, ri s1168.1), (5, ri s1072.2), (6, ri s1150.2), (7, ri s1168.2)], [(tsI3.leaves (law02_ShapeIndexes_r2_p s_))], [], 107⟩ k = k ⟨[(2, rb false)], [[]], [], 107⟩ := by kernel_rfl
theorem law02_ShapeIndexes_r17 {α : Type} (s_ : I3) (y743 : Bool) (s1072 : (Int × Int)) (s1150 : (Int × Int)) (s1168 : (Int × Int)) (k : Kont α) : R22 (bodyOf (bodyOf (bodyOf (bodyOf (bodyOf (bodyOf (bodyOf (bodyOf (bodyOf C22.r.r.r.r.r.l.r)).r.l).r)).r.l).r)).r.l).r ⟨[(1, .one (.ref 0 0)), (3, rb y743), (4, ri s1168.1), (5, ri s1072.2), (6, ri s1150.2), (7, ri s1168.2)], [(tsI3.leaves (law02_ShapeIndexes_r2_p s_))], [], 107⟩ k = k .normal ⟨[(1, .one (.ref 0 0)), (3, rb y743), (4, ri (IntKind.wrap .i64 (s1168.1 + (1 : Int)))), (5, ri s1072.2), (6, ri s1150.2), (7, ri s1168.2)], [(tsI3.leaves (law02_ShapeIndexes_r2_p s_))], [], 107⟩ := by kernel_rfl
theorem law02_ShapeIndexes_r14 {α : Type} (s_ : I3) (y743 : Bool) (s1072 : (Int × Int)) (s1150 : (Int × Int)) (s1168 : (Int × Int)) (k : Kont α) : R22 (bodyOf (bodyOf (bodyOf (bodyOf (bodyOf (bodyOf (bodyOf (bodyOf C22.r.r.r.r.r.l.r)).r.l).r)).r.l).r)).r.r ⟨[(1, .one (.ref 0 0)), (3, rb y743), (4, ri (IntKind.wrap .i64 (s1168.1 + (1 : Int)))), (5, ri s1072.2), (6, ri s1150.2), (7, ri s1168.2)], [(tsI3.leaves (law02_ShapeIndexes_r2_p s_))], [], 107⟩ k = k .normal ⟨[(1, .one (.ref 0 0)), (3, rb y743), (4, ri (IntKind.wrap .i64 (s1168.1 + (1 : Int)))), (5, ri s1072.2), (6, ri s1150.2), (7, ri (IntKind.wrap .i64 (s1168.2 + (1 : Int))))], [(tsI3.leaves (law02_ShapeIndexes_r2_p s_))], [], 107⟩ := by kernel_rfl
def law02_ShapeIndexes_l13_q {β : Type} (s_ : I3) (s1072 : (Int × Int)) (s1150 : (Int × Int)) (s1168 : (Int × Int)) (K0 : (Int × Int) → Option β) (K1 : (Int × Int) → Option β) (K2 : Unit → Option β) : Option β := (bif (decide (s1168.2 < ((law02_ShapeIndexes_r2_p s_).2.2))) then (Option.bind (shape_Index (law02_ShapeIndexes_r2_p s_) s1072.2 s1150.2 s1168.2) (fun y1172 : Int => (bif (y1172 != s1168.1) then (K2 ()) else (K0 ((IntKind.wrap .i64 (s1168.1 + (1 : Int))), (IntKind.wrap .i64 (s1168.2 + (1 : Int)))))))) else (K1 s1168))
def law02_ShapeIndexes_l13_p (s_ : I3) (s1072 : (Int × Int)) (s1150 : (Int × Int)) (s1168 : (Int × Int)) : Option ((Int × Int) ⊕ ((Int × Int) ⊕ Unit)) := law02_ShapeIndexes_l13_q s_ s1072 s1150 s1168 (fun y => some (Sum.inl y)) (fun y => some (Sum.inr (Sum.inl y))) (fun y => some (Sum.inr (Sum.inr y)))
theorem law02_ShapeIndexes_l13_n {β : Type} (s_ : I3) (s1072 : (Int × Int)) (s1150 : (Int × Int)) (s1168 : (Int × Int)) (K0 : (Int × Int) → Option β) (K1 : (Int × Int) → Option β) (K2 : Unit → Option β) : law02_ShapeIndexes_l13_q s_ s1072 s1150 s1168 K0 K1 K2 = (law02_ShapeIndexes_l13_p s_ s1072 s1150 s1168).bind (either K0 (either K1 K2)) := (bif_b (bind_b fun y1172 => (bif_b e3_2 e3_0)) e3_1)
theorem law02_ShapeIndexes_l13_b {α : Type} (s_ : I3) (y743 : Bool) (s1072 : (Int × Int)) (s1150 : (Int × Int)) (s1168 : (Int × Int)) (k : Kont α) : R22 (bodyOf (bodyOf (bodyOf (bodyOf (bodyOf (bodyOf (bodyOf (bodyOf C22.r.r.r.r.r.l.r)).r.l).r)).r.l).r)) ⟨[(1, .one (.ref 0 0)), (3, rb y743), (4, ri s1168.1), (5, ri s1072.2), (6, ri s1150.2), (7, ri s1168.2)], [(tsI3.leaves (law02_ShapeIndexes_r2_p s_))], [], 107⟩ (loopKont 1 k) = Option.bind (law02_ShapeIndexes_l13_p s_ s1072 s1150 s1168) (either (fun y : (Int × Int) => k .normal ⟨[(1, .one (.ref 0 0)), (3, rb y743), (4, ri y.1), (5, ri s1072.2), (6, ri s1150.2), (7, ri y.2)], [(tsI3.leaves (law02_ShapeIndexes_r2_p s_))], [], 107⟩) (either (fun y1173 : (Int × Int) => k (.exit 4) ⟨[(1, .one (.ref 0 0)), (3, rb y743), (4, ri y1173.1), (5, ri s1072.2), (6, ri s1150.2), (7, ri y1173.2)], [(tsI3.leaves (law02_ShapeIndexes_r2_p s_))], [], 107⟩) (fun y1174 : Unit => k .ret ⟨[(2, rb false)], [[]], [], 107⟩))) := by
  refine Eq.trans ?_ (law02_ShapeIndexes_l13_n s_ s1072 s1150 s1168 _ _ _)
  unfold law02_ShapeIndexes_l13_q
  refine (seq_push (by kernel_rfl)).trans ?_
  refine (pre (n := 1) (c' := (bodyOf (bodyOf (bodyOf (bodyOf (bodyOf (bodyOf (bodyOf (bodyOf C22.r.r.r.r.r.l.r)).r.l).r)).r.l).r)).l.r) (by kernel_rfl) (by kernel_rfl) (law02_ShapeIndexes_fzx2 s_ y743 s1072 s1150 s1168 _)).trans ?_
  refine (cond_eq (b := (decide (s1168.2 < ((law02_ShapeIndexes_r2_p s_).2.2)))) (st' := ⟨[(1, .one (.ref 0 0)), (3, rb y743), (4, ri s1168.1), (5, ri s1072.2), (6, ri s1150.2), (7, ri s1168.2)], [(tsI3.leaves (law02_ShapeIndexes_r2_p s_))], [], 107⟩) (by kernel_rfl) (by kernel_rfl) (by kernel_rfl)).trans (bif_g ?_ ?_)
  · refine (skip_eq (by kernel_rfl)).trans ?_
    refine (seqC_normal (st' := ⟨[(1, .one (.ref 0 0)), (3, rb y743), (4, ri s1168.1), (5, ri s1072.2), (6, ri s1150.2), (7, ri s1168.2)], [(tsI3.leaves (law02_ShapeIndexes_r2_p s_))], [], 107⟩) (by kernel_rfl)).trans ?_
    refine (seq_push (by kernel_rfl)).trans ?_
    refine (block_push (id := 5) (by kernel_rfl)).trans ?_
    refine (seq_push (by kernel_rfl)).trans ?_
    refine (pre (n := 1) (c' := (bodyOf (bodyOf (bodyOf (bodyOf (bodyOf (bodyOf (bodyOf (bodyOf (bodyOf C22.r.r.r.r.r.l.r)).r.l).r)).r.l).r)).r.l).l.r) (by kernel_rfl) (by kernel_rfl) (law02_ShapeIndexes_r15 s_ y743 s1072 s1150 s1168 _)).trans (bind_g fun y1172 => ?_)
    refine (cond_eq (b := (y1172 != s1168.1)) (st' := ⟨[(1, .one (.ref 0 0)), (3, rb y743), (4, ri s1168.1), (5, ri s1072.2), (6, ri s1150.2), (7, ri s1168.2)], [(tsI3.leaves (law02_ShapeIndexes_r2_p s_))], [], 107⟩) (by kernel_rfl) (by kernel_rfl) (by kernel_rfl)).trans (bif_g ?_ ?_)
    · refine (pre (n := 1) (c' := (bodyOf (bodyOf (bodyOf (bodyOf (bodyOf (bodyOf (bodyOf (bodyOf (bodyOf C22.r.r.r.r.r.l.r)).r.l).r)).r.l).r)).r.l).l.r.t.r) (by kernel_rfl) (by kernel_rfl) (law02_ShapeIndexes_fzx3 s_ y743 s1072 s1150 s1168 _)).trans ?_
      refine (ret_eq (by kernel_rfl)).trans ?_
      refine seqC_ret.trans ?_
      refine block_ret.trans ?_
      refine seqC_ret.trans ?_
      kernel_rfl
    · refine (skip_eq (by kernel_rfl)).trans ?_
      refine (seqC_normal (st' := ⟨[(1, .one (.ref 0 0)), (3, rb y743), (4, ri s1168.1), (5, ri s1072.2), (6, ri s1150.2), (7, ri s1168.2)], [(tsI3.leaves (law02_ShapeIndexes_r2_p s_))], [], 107⟩) (by kernel_rfl)).trans ?_
      refine (law02_ShapeIndexes_r17 s_ y743 s1072 s1150 s1168 _).trans ?_
      refine block_normal.trans ?_
      refine (seqC_normal (st' := ⟨[(1, .one (.ref 0 0)), (3, rb y743), (4, ri (IntKind.wrap .i64 (s1168.1 + (1 : Int)))), (5, ri s1072.2), (6, ri s1150.2), (7, ri s1168.2)], [(tsI3.leaves (law02_ShapeIndexes_r2_p s_))], [], 107⟩) (by kernel_rfl)).trans ?_
      refine (law02_ShapeIndexes_r14 s_ y743 s1072 s1150 s1168 _).trans ?_
      kernel_rfl
  · refine (exit_eq (j := 4) (by kernel_rfl)).trans ?_
    refine seqC_exit.trans ?_
    kernel_rfl
theorem law02_ShapeIndexes_l13 {α : Type} (s_ : I3) (y743 : Bool) (s1072 : (Int × Int)) (s1150 : (Int × Int)) (k : Kont α) : R22 (bodyOf (bodyOf (bodyOf (bodyOf (bodyOf (bodyOf (bodyOf C22.r.r.r.r.r.l.r)).r.l).r)).r.l).r) ⟨[(1, .one (.ref 0 0)), (3, rb y743), (4, ri s1150.1), (5, ri s1072.2), (6, ri s1150.2), (7, ri (0 : Int))], [(tsI3.leaves (law02_ShapeIndexes_r2_p s_))], [], 107⟩ k = Option.bind (iterN (law02_ShapeIndexes_l13_p s_ s1072 s1150) LL (s1150.1, (0 : Int))) (either (fun y1173 : (Int × Int) => k (.exit 4) ⟨[(1, .one (.ref 0 0)), (3, rb y743), (4, ri y1173.1), (5, ri s1072.2), (6, ri s1150.2), (7, ri y1173.2)], [(tsI3.leaves (law02_ShapeIndexes_r2_p s_))], [], 107⟩) (fun y1174 : Unit => k .ret ⟨[(2, rb false)], [[]], [], 107⟩)) :=
  Eq.trans (by kernel_rfl) (loop_iter2 (S := fun s1168 : (Int × Int) => ⟨[(1, .one (.ref 0 0)), (3, rb y743), (4, ri s1168.1), (5, ri s1072.2), (6, ri s1150.2), (7, ri s1168.2)], [(tsI3.leaves (law02_ShapeIndexes_r2_p s_))], [], 107⟩) (Y1 := fun y1173 : (Int × Int) => ((.exit 4), ⟨[(1, .one (.ref 0 0)), (3, rb y743), (4, ri y1173.1), (5, ri s1072.2), (6, ri s1150.2), (7, ri y1173.2)], [(tsI3.leaves (law02_ShapeIndexes_r2_p s_))], [], 107⟩)) (Y2 := fun y1174 : Unit => (.ret, ⟨[(2, rb false)], [[]], [], 107⟩)) (fun s k => law02_ShapeIndexes_l13_b s_ y743 s1072 s1150 s k) (fun z => rfl) (fun z => rfl) LL (s1150.1, (0 : Int)))
theorem law02_ShapeIndexes_r11 {α : Type} (s_ : I3) (y743 : Bool) (s1072 : (Int × Int)) (s1150 : (Int × Int)) (y1173 : (Int × Int)) (k : Kont α) : R22 (bodyOf (bodyOf (bodyOf (bodyOf (bodyOf C22.r.r.r.r.r.l.r)).r.l).r)).r.r ⟨[(1, .one (.ref 0 0)), (3, rb y743), (4, ri y1173.1), (5, ri s1072.2), (6, ri s1150.2)], [(tsI3.leaves (law02_ShapeIndexes_r2_p s_))], [], 107⟩ k = k .normal ⟨[(1, .one (.ref 0 0)), (3, rb y743), (4, ri y1173.1), (5, ri s1072.2), (6, ri (IntKind.wrap .i64 (s1150.2 + (1 : Int))))], [(tsI3.leaves (law02_ShapeIndexes_r2_p s_))], [], 107⟩ := by kernel_rfl
def law02_ShapeIndexes_l10_q {β : Type} (s_ : I3) (s1072 : (Int × Int)) (s1150 : (Int × Int)) (K0 : (Int × Int) → Option β) (K1 : (Int × Int) → Option β) (K2 : Unit → Option β) : Option β := (bif (decide (s1150.2 < ((law02_ShapeIndexes_r2_p s_).2.1))) then (Option.bind (iterN (law02_ShapeIndexes_l13_p s_ s1072 s1150) LL (s1150.1, (0 : Int))) (either (fun y1173 : (Int × Int) => (K0 (y1173.1, (IntKind.wrap .i64 (s1150.2 + (1 : Int)))))) (fun y1174 : Unit => (K2 ())))) else (K1 s1150))
def law02_ShapeIndexes_l10_p (s_ : I3) (s1072 : (Int × Int)) (s1150 : (Int × Int)) : Option ((Int × Int) ⊕ ((Int × Int) ⊕ Unit)) := law02_ShapeIndexes_l10_q s_ s1072 s1150 (fun y => some (Sum.inl y)) (fun y => some (Sum.inr (Sum.inl y))) (fun y => some (Sum.inr (Sum.inr y)))
theorem law02_ShapeIndexes_l10_n {β : Type} (s_ : I3) (s1072 : (Int × Int)) (s1150 : (Int × Int)) (K0 : (Int × Int) → Option β) (K1 : (Int × Int) → Option β) (K2 : Unit → Option β) : law02_ShapeIndexes_l10_q s_ s1072 s1150 K0 K1 K2 = (law02_ShapeIndexes_l10_p s_ s1072 s1150).bind (either K0 (either K1 K2)) := (bif_b (bind_b (either_b (fun y1173 => e3_0) (fun y1174 => e3_2))) e3_1)
theorem law02_ShapeIndexes_l10_b {α : Type} (s_ : I3) (y743 : Bool) (s1072 : (Int × Int)) (s1150 : (Int × Int)) (k : Kont α) : R22 (bodyOf (bodyOf (bodyOf (bodyOf (bodyOf C22.r.r.r.r.r.l.r)).r.l).r)) ⟨[(1, .one (.ref 0 0)), (3, rb y743), (4, ri s1150.1), (5, ri s1072.2), (6, ri s1150.2)], [(tsI3.leaves (law02_ShapeIndexes_r2_p s_))], [], 107⟩ (loopKont 1 k) = Option.bind (law02_ShapeIndexes_l10_p s_ s1072 s1150) (either (fun y : (Int × Int) => k .normal ⟨[(1, .one (.ref 0 0)), (3, rb y743), (4, ri y.1), (5, ri s1072.2), (6, ri y.2)], [(tsI3.leaves (law02_ShapeIndexes_r2_p s_))], [], 107⟩) (either (fun y1175 : (Int × Int) => k (.exit 2) ⟨[(1, .one (.ref 0 0)), (3, rb y743), (4, ri y1175.1), (5, ri s1072.2), (6, ri y1175.2)], [(tsI3.leaves (law02_ShapeIndexes_r2_p s_))], [], 107⟩) (fun y1176 : Unit => k .ret ⟨[(2, rb false)], [[]], [], 107⟩))) := by
  refine Eq.trans ?_ (law02_ShapeIndexes_l10_n s_ s1072 s1150 _ _ _)
  unfold law02_ShapeIndexes_l10_q
  refine (seq_push (by kernel_rfl)).trans ?_
  refine (pre (n := 1) (c' := (bodyOf (bodyOf (bodyOf (bodyOf (bodyOf C22.r.r.r.r.r.l.r)).r.l).r)).l.r) (by kernel_rfl) (by kernel_rfl) (law02_ShapeIndexes_fzx1 s_ y743 s1072 s1150 _)).trans ?_
  refine (cond_eq (b := (decide (s1150.2 < ((law02_ShapeIndexes_r2_p s_).2.1)))) (st' := ⟨[(1, .one (.ref 0 0)), (3, rb y743), (4, ri s1150.1), (5, ri s1072.2), (6, ri s1150.2)], [(tsI3.leaves (law02_ShapeIndexes_r2_p s_))], [], 107⟩) (by kernel_rfl) (by kernel_rfl) (by kernel_rfl)).trans (bif_g ?_ ?_)
  · refine (skip_eq (by kernel_rfl)).trans ?_
    refine (seqC_normal (st' := ⟨[(1, .one (.ref 0 0)), (3, rb y743), (4, ri s1150.1), (5, ri s1072.2), (6, ri s1150.2)], [(tsI3.leaves (law02_ShapeIndexes_r2_p s_))], [], 107⟩) (by kernel_rfl)).trans ?_
    refine (seq_push (by kernel_rfl)).trans ?_
    refine (block_push (id := 3) (by kernel_rfl)).trans ?_
    refine (pre (n := 1) (c' := (bodyOf (bodyOf (bodyOf (bodyOf (bodyOf (bodyOf C22.r.r.r.r.r.l.r)).r.l).r)).r.l).r) (by kernel_rfl) (by kernel_rfl) (law02_ShapeIndexes_f13 s_ y743 s1072 s1150 _)).trans ?_
    refine (block_push (id := 4) (by kernel_rfl)).trans ?_
    refine (law02_ShapeIndexes_l13 s_ y743 s1072 s1150 _).trans (bind_g (either_g (fun y1173 => ?_) (fun y1174 => ?_)))
    · refine block_same.trans ?_
      refine block_normal.trans ?_
      refine (seqC_normal (st' := ⟨[(1, .one (.ref 0 0)), (3, rb y743), (4, ri y1173.1), (5, ri s1072.2), (6, ri s1150.2)], [(tsI3.leaves (law02_ShapeIndexes_r2_p s_))], [], 107⟩) (by kernel_rfl)).trans ?_
      refine (law02_ShapeIndexes_r11 s_ y743 s1072 s1150 y1173 _).trans ?_
      kernel_rfl
    · refine block_ret.trans ?_
      refine block_ret.trans ?_
      refine seqC_ret.trans ?_
      kernel_rfl
  · refine (exit_eq (j := 2) (by kernel_rfl)).trans ?_
    refine seqC_exit.trans ?_
    kernel_rfl
theorem law02_ShapeIndexes_l10 {α : Type} (s_ : I3) (y743 : Bool) (s1072 : (Int × Int)) (k : Kont α) : R22 (bodyOf (bodyOf (bodyOf (bodyOf C22.r.r.r.r.r.l.r)).r.l).r) ⟨[(1, .one (.ref 0 0)), (3, rb y743), (4, ri s1072.1), (5, ri s1072.2), (6, ri (0 : Int))], [(tsI3.leaves (law02_ShapeIndexes_r2_p s_))], [], 107⟩ k = Option.bind (iterN (law02_ShapeIndexes_l10_p s_ s1072) LL (s1072.1, (0 : Int))) (either (fun y1175 : (Int × Int) => k (.exit 2) ⟨[(1, .one (.ref 0 0)), (3, rb y743), (4, ri y1175.1), (5, ri s1072.2), (6, ri y1175.2)], [(tsI3.leaves (law02_ShapeIndexes_r2_p s_))], [], 107⟩) (fun y1176 : Unit => k .ret ⟨[(2, rb false)], [[]], [], 107⟩)) :=
  Eq.trans (by kernel_rfl) (loop_iter2 (S := fun s1150 : (Int × Int) => ⟨[(1, .one (.ref 0 0)), (3, rb y743), (4, ri s1150.1), (5, ri s1072.2), (6, ri s1150.2)], [(tsI3.leaves (law02_ShapeIndexes_r2_p s_))], [], 107⟩) (Y1 := fun y1175 : (Int × Int) => ((.exit 2), ⟨[(1, .one (.ref 0 0)), (3, rb y743), (4, ri y1175.1), (5, ri s1072.2), (6, ri y1175.2)], [(tsI3.leaves (law02_ShapeIndexes_r2_p s_))], [], 107⟩)) (Y2 := fun y1176 : Unit => (.ret, ⟨[(2, rb false)], [[]], [], 107⟩)) (fun s k => law02_ShapeIndexes_l10_b s_ y743 s1072 s k) (fun z => rfl) (fun z => rfl) LL (s1072.1, (0 : Int)))
theorem law02_ShapeIndexes_r8 {α : Type} (s_ : I3) (y743 : Bool) (s1072 : (Int × Int)) (y1175 : (Int × Int)) (k : Kont α) : R22 (bodyOf (bodyOf C22.r.r.r.r.r.l.r)).r.r ⟨[(1, .one (.ref 0 0)), (3, rb y743), (4, ri y1175.1), (5, ri s1072.2)], [(tsI3.leaves (law02_ShapeIndexes_r2_p s_))], [], 107⟩ k = k .normal ⟨[(1, .one (.ref 0 0)), (3, rb y743), (4, ri y1175.1), (5, ri (IntKind.wrap .i64 (s1072.2 + (1 : Int))))], [(tsI3.leaves (law02_ShapeIndexes_r2_p s_))], [], 107⟩ := by kernel_rfl
def law02_ShapeIndexes_l7_q {β : Type} (s_ : I3) (s1072 : (Int × Int)) (K0 : (Int × Int) → Option β) (K1 : (Int × Int) → Option β) (K2 : Unit → Option β) : Option β := (bif (decide (s1072.2 < ((law02_ShapeIndexes_r2_p s_).1))) then (Option.bind (iterN (law02_ShapeIndexes_l10_p s_ s1072) LL (s1072.1, (0 : Int))) (either (fun y1175 : (Int × Int) => (K0 (y1175.1, (IntKind.wrap .i64 (s1072.2 + (1 : Int)))))) (fun y1176 : Unit => (K2 ())))) else (K1 s1072))
def law02_ShapeIndexes_l7_p (s_ : I3) (s1072 : (Int × Int)) : Option ((Int × Int) ⊕ ((Int × Int) ⊕ Unit)) := law02_ShapeIndexes_l7_q s_ s1072 (fun y => some (Sum.inl y)) (fun y => some (Sum.inr (Sum.inl y))) (fun y => some (Sum.inr (Sum.inr y)))
theorem law02_ShapeIndexes_l7_n {β : Type} (s_ : I3) (s1072 : (Int × Int)) (K0 : (Int × Int) → Option β) (K1 : (Int × Int) → Option β) (K2 : Unit → Option β) : law02_ShapeIndexes_l7_q s_ s1072 K0 K1 K2 = (law02_ShapeIndexes_l7_p s_ s1072).bind (either K0 (either K1 K2)) := (bif_b (bind_b (either_b (fun y1175 => e3_0) (fun y1176 => e3_2))) e3_1)
theorem law02_ShapeIndexes_l7_b {α : Type} (s_ : I3) (y743 : Bool) (s1072 : (Int × Int)) (k : Kont α) : R22 (bodyOf (bodyOf C22.r.r.r.r.r.l.r)) ⟨[(1, .one (.ref 0 0)), (3, rb y743), (4, ri s1072.1), (5, ri s1072.2)], [(tsI3.leaves (law02_ShapeIndexes_r2_p s_))], [], 107⟩ (loopKont 1 k) = Option.bind (law02_ShapeIndexes_l7_p s_ s1072) (either (fun y : (Int × Int) => k .normal ⟨[(1, .one (.ref 0 0)), (3, rb y743), (4, ri y.1), (5, ri y.2)], [(tsI3.leaves (law02_ShapeIndexes_r2_p s_))], [], 107⟩) (either (fun y1177 : (Int × Int) => k (.exit 0) ⟨[(1, .one (.ref 0 0)), (3, rb y743), (4, ri y1177.1), (5, ri y1177.2)], [(tsI3.leaves (law02_ShapeIndexes_r2_p s_))], [], 107⟩) (fun y1178 : Unit => k .ret ⟨[(2, rb false)], [[]], [], 107⟩))) := by
  refine Eq.trans ?_ (law02_ShapeIndexes_l7_n s_ s1072 _ _ _)
  unfold law02_ShapeIndexes_l7_q
  refine (seq_push (by kernel_rfl)).trans ?_
  refine (pre (n := 1) (c' := (bodyOf (bodyOf C22.r.r.r.r.r.l.r)).l.r) (by kernel_rfl) (by kernel_rfl) (law02_ShapeIndexes_fz s_ y743 s1072 _)).trans ?_
  refine (cond_eq (b := (decide (s1072.2 < ((law02_ShapeIndexes_r2_p s_).1)))) (st' := ⟨[(1, .one (.ref 0 0)), (3, rb y743), (4, ri s1072.1), (5, ri s1072.2)], [(tsI3.leaves (law02_ShapeIndexes_r2_p s_))], [], 107⟩) (by kernel_rfl) (by kernel_rfl) (by kernel_rfl)).trans (bif_g ?_ ?_)
  · refine (skip_eq (by kernel_rfl)).trans ?_
    refine (seqC_normal (st' := ⟨[(1, .one (.ref 0 0)), (3, rb y743), (4, ri s1072.1), (5, ri s1072.2)], [(tsI3.leaves (law02_ShapeIndexes_r2_p s_))], [], 107⟩) (by kernel_rfl)).trans ?_
    refine (seq_push (by kernel_rfl)).trans ?_
    refine (block_push (id := 1) (by kernel_rfl)).trans ?_
    refine (pre (n := 1) (c' := (bodyOf (bodyOf (bodyOf C22.r.r.r.r.r.l.r)).r.l).r) (by kernel_rfl) (by kernel_rfl) (law02_ShapeIndexes_f10 s_ y743 s1072 _)).trans ?_
    refine (block_push (id := 2) (by kernel_rfl)).trans ?_
    refine (law02_ShapeIndexes_l10 s_ y743 s1072 _).trans (bind_g (either_g (fun y1175 => ?_) (fun y1176 => ?_)))
    · refine block_same.trans ?_
      refine block_normal.trans ?_
      refine (seqC_normal (st' := ⟨[(1, .one (.ref 0 0)), (3, rb y743), (4, ri y1175.1), (5, ri s1072.2)], [(tsI3.leaves (law02_ShapeIndexes_r2_p s_))], [], 107⟩) (by kernel_rfl)).trans ?_
      refine (law02_ShapeIndexes_r8 s_ y743 s1072 y1175 _).trans ?_
      kernel_rfl
    · refine block_ret.trans ?_
      refine block_ret.trans ?_
      refine seqC_ret.trans ?_
      kernel_rfl
  · refine (exit_eq (j := 0) (by kernel_rfl)).trans ?_
    refine seqC_exit.trans ?_
    kernel_rfl
theorem law02_ShapeIndexes_l7 {α : Type} (s_ : I3) (y743 : Bool) (k : Kont α) : R22 (bodyOf C22.r.r.r.r.r.l.r) ⟨[(1, .one (.ref 0 0)), (3, rb y743), (4, ri (0 : Int)), (5, ri (0 : Int))], [(tsI3.leaves (law02_ShapeIndexes_r2_p s_))], [], 107⟩ k = Option.bind (iterN (law02_ShapeIndexes_l7_p s_) LL ((0 : Int), (0 : Int))) (either (fun y1177 : (Int × Int) => k (.exit 0) ⟨[(1, .one (.ref 0 0)), (3, rb y743), (4, ri y1177.1), (5, ri y1177.2)], [(tsI3.leaves (law02_ShapeIndexes_r2_p s_))], [], 107⟩) (fun y1178 : Unit => k .ret ⟨[(2, rb false)], [[]], [], 107⟩)) :=
  Eq.trans (by kernel_rfl) (loop_iter2 (S := fun s1072 : (Int × Int) => ⟨[(1, .one (.ref 0 0)), (3, rb y743), (4, ri s1072.1), (5, ri s1072.2)], [(tsI3.leaves (law02_ShapeIndexes_r2_p s_))], [], 107⟩) (Y1 := fun y1177 : (Int × Int) => ((.exit 0), ⟨[(1, .one (.ref 0 0)), (3, rb y743), (4, ri y1177.1), (5, ri y1177.2)], [(tsI3.leaves (law02_ShapeIndexes_r2_p s_))], [], 107⟩)) (Y2 := fun y1178 : Unit => (.ret, ⟨[(2, rb false)], [[]], [], 107⟩)) (fun s k => law02_ShapeIndexes_l7_b s_ y743 s k) (fun z => rfl) (fun z => rfl) LL ((0 : Int), (0 : Int)))
def law02_ShapeIndexes_r18_q {β : Type} (s_ : I3) (y743 : Bool) (y1177 : (Int × Int)) (K : Bool → Option β) : Option β := (bif y743 then (Option.bind (shape_Size (law02_ShapeIndexes_r2_p s_)) (fun y1179 : Int => (bif (y1179 == y1177.1) then (Option.bind (shape_Row (law02_ShapeIndexes_r2_p s_)) (fun y1180 : Int => (bif ((IntKind.wrap .i64 (y1180 * ((law02_ShapeIndexes_r2_p s_).1))) == y1177.1) then (Option.bind (shape_Index (law02_ShapeIndexes_r2_p s_) ((law02_ShapeIndexes_r2_p s_).1) (0 : Int) (0 : Int)) (fun y1181 : Int => (bif (y1181 == (-1 : Int)) then (Option.bind (shape_Index (law02_ShapeIndexes_r2_p s_) (0 : Int) ((law02_ShapeIndexes_r2_p s_).2.1) (0 : Int)) (fun y1182 : Int => (bif (y1182 == (-1 : Int)) then (Option.bind (shape_Index (law02_ShapeIndexes_r2_p s_) (0 : Int) (0 : Int) ((law02_ShapeIndexes_r2_p s_).2.2)) (fun y1183 : Int => (bif (y1183 == (-1 : Int)) then (Option.bind (shape_Index (law02_ShapeIndexes_r2_p s_) (-1 : Int) (0 : Int) (0 : Int)) (fun y1184 : Int => (K (y1184 == (-1 : Int))))) else (K false)))) else (K false)))) else (K false)))) else (K false)))) else (K false)))) else (K false))
def law02_ShapeIndexes_r18_p (s_ : I3) (y743 : Bool) (y1177 : (Int × Int)) : Option (Bool) := law02_ShapeIndexes_r18_q s_ y743 y1177 some
theorem law02_ShapeIndexes_r18_n {β : Type} (s_ : I3) (y743 : Bool) (y1177 : (Int × Int)) (K : Bool → Option β) : law02_ShapeIndexes_r18_q s_ y743 y1177 K = (law02_ShapeIndexes_r18_p s_ y743 y1177).bind K := (bif_b (bind_b fun y1179 => (bif_b (bind_b fun y1180 => (bif_b (bind_b fun y1181 => (bif_b (bind_b fun y1182 => (bif_b (bind_b fun y1183 => (bif_b (bind_b fun y1184 => some_b) some_b)) some_b)) some_b)) some_b)) some_b)) some_b)
theorem law02_ShapeIndexes_r18 {α : Type} (s_ : I3) (y743 : Bool) (y1177 : (Int × Int)) (k : St → Option α) : P22 1 C22.r.r.r.r.r.r ⟨[(1, .one (.ref 0 0)), (3, rb y743), (4, ri y1177.1)], [(tsI3.leaves (law02_ShapeIndexes_r2_p s_))], [], 107⟩ k = Option.bind (law02_ShapeIndexes_r18_p s_ y743 y1177) (fun y1185 : Bool => k ⟨[(2, rb y1185)], [[]], [], 107⟩) := Eq.trans (by kernel_rfl) (law02_ShapeIndexes_r18_n s_ y743 y1177 _)
/-- quilt/quiltlaw02.ShapeIndexes -/
def law02_ShapeIndexes_q {β : Type} (s_ : I3) (K : Bool → Option β) : Option β := (Option.bind law02_shown (fun y743 : Bool => (Option.bind (shape_May (law02_ShapeIndexes_r2_p s_)) (fun y750 : Int => (bif (y750 != (0 : Int)) then (Option.bind (law02_ShapeIndexes_r4_p s_ y743) (fun y754 : Bool => (K y754))) else (Option.bind (iterN (law02_ShapeIndexes_l7_p s_) LL ((0 : Int), (0 : Int))) (either (fun y1177 : (Int × Int) => (Option.bind (law02_ShapeIndexes_r18_p s_ y743 y1177) (fun y1185 : Bool => (K y1185)))) (fun y1178 : Unit => (K false)))))))))
def law02_ShapeIndexes (s_ : I3) : Option Bool := law02_ShapeIndexes_q s_ some
theorem law02_ShapeIndexes_n {β : Type} (s_ : I3) (K : Bool → Option β) : law02_ShapeIndexes_q s_ K = (law02_ShapeIndexes s_).bind K := (bind_b fun y743 => (bind_b fun y750 => (bif_b (bind_b fun y754 => some_b) (bind_b (either_b (fun y1177 => (bind_b fun y1185 => some_b)) (fun y1178 => some_b))))))
theorem law02_ShapeIndexes_is (s_ : I3) : stepS E cp22 noE 14 [.agg (tsI3.leaves s_)] = Option.bind (law02_ShapeIndexes s_) (fun y : Bool => some (rb y : R)) := by
  refine Eq.trans ?_ (law02_ShapeIndexes_n s_ (fun y : Bool => some (rb y : R)))
  refine (stepG_is (nt := 107) (regs := [(0, .agg (tsI3.leaves s_))]) (by kernel_rfl) (by kernel_rfl)).trans ?_
  unfold law02_ShapeIndexes_q
  refine (pre (n := 2) (c' := C22.r.r) (by kernel_rfl) (by kernel_rfl) (law02_ShapeIndexes_r1 s_ _)).trans (bind_g fun y743 => ?_)
  refine (pre (n := 1) (c' := C22.r.r.r) (by kernel_rfl) (by kernel_rfl) (law02_ShapeIndexes_r2 s_ y743 _)).trans ?_
  refine (seq_push (by kernel_rfl)).trans ?_
  refine (pre (n := 1) (c' := C22.r.r.r.l.r) (by kernel_rfl) (by kernel_rfl) (law02_ShapeIndexes_r3 s_ y743 _)).trans (bind_g fun y750 => ?_)
  refine (cond_eq (b := (y750 != (0 : Int))) (st' := ⟨[(1, .one (.ref 0 0)), (3, rb y743)], [(tsI3.leaves (law02_ShapeIndexes_r2_p s_))], [], 107⟩) (by kernel_rfl) (by kernel_rfl) (by kernel_rfl)).trans (bif_g ?_ ?_)
  · refine (pre (n := 1) (c' := C22.r.r.r.l.r.t.r) (by kernel_rfl) (by kernel_rfl) (law02_ShapeIndexes_r4 s_ y743 _)).trans (bind_g fun y754 => ?_)
    refine (ret_eq (by kernel_rfl)).trans ?_
    refine seqC_ret.trans ?_
    kernel_rfl
  · refine (skip_eq (by kernel_rfl)).trans ?_
    refine (seqC_normal (st' := ⟨[(1, .one (.ref 0 0)), (3, rb y743)], [(tsI3.leaves (law02_ShapeIndexes_r2_p s_))], [], 107⟩) (by kernel_rfl)).trans ?_
    refine (pre (n := 1) (c' := C22.r.r.r.r.r) (by kernel_rfl) (by kernel_rfl) (law02_ShapeIndexes_f6 s_ y743 _)).trans ?_
    refine (seq_push (by kernel_rfl)).trans ?_
    refine (pre (n := 1) (c' := C22.r.r.r.r.r.l.r) (by kernel_rfl) (by kernel_rfl) (law02_ShapeIndexes_f7 s_ y743 _)).trans ?_
    refine (block_push (id := 0) (by kernel_rfl)).trans ?_
    refine (law02_ShapeIndexes_l7 s_ y743 _).trans (bind_g (either_g (fun y1177 => ?_) (fun y1178 => ?_)))
    · refine block_same.trans ?_
      refine (seqC_normal (st' := ⟨[(1, .one (.ref 0 0)), (3, rb y743), (4, ri y1177.1)], [(tsI3.leaves (law02_ShapeIndexes_r2_p s_))], [], 107⟩) (by kernel_rfl)).trans ?_
      refine (pre (n := 1) (c' := C22.r.r.r.r.r.r.r) (by kernel_rfl) (by kernel_rfl) (law02_ShapeIndexes_r18 s_ y743 y1177 _)).trans (bind_g fun y1185 => ?_)
      refine (ret_eq (by kernel_rfl)).trans ?_
      kernel_rfl
    · refine block_ret.trans ?_
      refine seqC_ret.trans ?_
      kernel_rfl
theorem law02_ShapeIndexes_c (x : denL [(.agg tsI3)]) : stepS E cp22 noE 14 (encL [(.agg tsI3)] x) = ((fun x => law02_ShapeIndexes x.1) x).bind fun y => some (Po.enc (.one (.one (.g .bool))) ((fun y : Bool => y) y)) := Eq.mp (by kernel_rfl) (law02_ShapeIndexes_is x.1)
noncomputable def cp23 : CallP := withC cp22 14 [(.agg tsI3)] (.one (.one (.g .bool))) (fun y : Bool => y) (fun x => law02_ShapeIndexes x.1)
theorem cp23_ok : PureOK E cp23 := withC_ok cp22_ok (stepS_ok eok cp22_ok noE_ok) fun x => con_of (enc := fun y => Po.enc (.one (.one (.g .bool))) ((fun y : Bool => y) y)) (law02_ShapeIndexes_c x)
theorem law02_ShapeIndexes_walk (s_ : I3) (ht : law02_ShapeIndexes s_ = some true) (w : World) (vs : List Value) (hrd : ∀ γ : Gh, Free γ → rdRs w γ [argR true tsI3 s_] vs) : Calls E.P 14 vs.toArray w fun e w' => e = .returned (.bool true) ∧ Below w.heap.size w w' :=
  walk_true (E := E) (stepS_ok eok cp22_ok noE_ok) (show stepS E cp22 noE 14 [.agg (tsI3.leaves s_)] = some (.one (.g .bool true)) from by rw [law02_ShapeIndexes_is, ht]; rfl) w fun γ hγ => Eq.mp (by kernel_rfl) (hrd γ hγ)
end Go.V.P
