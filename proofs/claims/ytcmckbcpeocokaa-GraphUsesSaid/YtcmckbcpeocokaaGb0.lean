/- What functions compute. -/
import Derived.Test.YtcmckbcpeocokaaGbEnv
namespace Go.V.P
open Go.RowKit Go.V Go.Proofs
set_option linter.unusedVariables false
set_option maxRecDepth 100000
section
variable {α β : Type} (op : Int) (y3 : U4) (k : St → Option α) (q : Kont α)
noncomputable abbrev C0 := codeOf E.P 22
noncomputable abbrev P0 := @preK α E 22 cpA noE
noncomputable abbrev R0 := @runCode α E 22 cpA noE
noncomputable abbrev Q0 := @seqC α E 22 cpA noE
abbrev S0_0 : St := ⟨[(0, ri op), (2, rF 0), (4, rF 1)], [[di 0, db false, db false, db false, db false, db false, .nilFn, .nilFn], [di 1, db false, db false, db false, db false, db false, .fn 48 [], .fn 49 []]], [], 58⟩
theorem graph_of_f2 : P0 2 C0 ⟨[(0, ri op)], [], [], 58⟩ k = k (S0_0 op) := by kernel_rfl
abbrev S0_1 : St := ⟨[(2, rF 0), (4, rF 1), (6, ri op)], [[di 0, db false, db false, db false, db false, db false, .nilFn, .nilFn], [di 1, db false, db false, db false, db false, db false, .fn 48 [], .fn 49 []]], [], 58⟩
theorem graph_of_f4 : P0 1 C0.r.r.l (S0_0 op) k = k (S0_1 op) := by kernel_rfl
theorem graph_of_f1000005 : P0 1 C0.r.r.l.r.b (S0_1 op) k = k ⟨[(2, rF 0), (4, rF 1), (6, ri op), (8, rb (op == 1))], [[di 0, db false, db false, db false, db false, db false, .nilFn, .nilFn], [di 1, db false, db false, db false, db false, db false, .fn 48 [], .fn 49 []]], [], 58⟩ := by kernel_rfl
abbrev S0_2 : St := ⟨[(2, rF 0), (4, rF 1)], [[di 0, db false, db false, db false, db false, db false, .nilFn, .nilFn], [di 1, db true, db true, db false, db true, db false, .fn 50 [], .fn 49 []]], [], 58⟩
theorem graph_of_f7 : P0 2 C0.r.r.l.r.b.r.t (S0_1 op) k = k S0_2 := by kernel_rfl
abbrev S0_3 : St := ⟨[(2, rF 0), (4, rF 1)], [[di 0, db false, db false, db false, db false, db false, .nilFn, .nilFn], [di 1, db true, db true, db false, db true, db false, .fn 50 [], .fn 52 []]], [], 58⟩
theorem graph_of_r7 : R0 C0.r.r.l.r.b.r.t.r.r S0_2 q = q .normal S0_3 := by kernel_rfl
theorem graph_of_f1000009 : P0 1 C0.r.r.l.r.b.r.e (S0_1 op) k = k ⟨[(2, rF 0), (4, rF 1), (6, ri op), (15, rb (op == 2))], [[di 0, db false, db false, db false, db false, db false, .nilFn, .nilFn], [di 1, db false, db false, db false, db false, db false, .fn 48 [], .fn 49 []]], [], 58⟩ := by kernel_rfl
abbrev S0_4 : St := ⟨[(2, rF 0), (4, rF 1)], [[di 0, db false, db false, db false, db false, db false, .nilFn, .nilFn], [di 1, db true, db true, db false, db false, db false, .fn 53 [], .fn 49 []]], [], 58⟩
theorem graph_of_f10 : P0 1 C0.r.r.l.r.b.r.e.r.t (S0_1 op) k = k S0_4 := by kernel_rfl
abbrev S0_5 : St := ⟨[(2, rF 0), (4, rF 1)], [[di 0, db false, db false, db false, db false, db false, .nilFn, .nilFn], [di 1, db true, db true, db false, db false, db false, .fn 53 [], .fn 54 []]], [], 58⟩
theorem graph_of_r10 : R0 C0.r.r.l.r.b.r.e.r.t.r S0_4 q = q .normal S0_5 := by kernel_rfl
theorem graph_of_f1000012 : P0 1 C0.r.r.l.r.b.r.e.r.e (S0_1 op) k = k ⟨[(2, rF 0), (4, rF 1), (6, ri op), (21, rb (op == 3))], [[di 0, db false, db false, db false, db false, db false, .nilFn, .nilFn], [di 1, db false, db false, db false, db false, db false, .fn 48 [], .fn 49 []]], [], 58⟩ := by kernel_rfl
abbrev S0_6 : St := ⟨[(2, rF 0), (4, rF 1)], [[di 0, db false, db false, db false, db false, db false, .nilFn, .nilFn], [di 1, db false, db false, db false, db true, db false, .fn 55 [], .fn 49 []]], [], 58⟩
theorem graph_of_f14 : P0 2 C0.r.r.l.r.b.r.e.r.e.r.t (S0_1 op) k = k S0_6 := by kernel_rfl
abbrev S0_7 : St := ⟨[(2, rF 0), (4, rF 1)], [[di 0, db false, db false, db false, db false, db false, .nilFn, .nilFn], [di 1, db false, db false, db false, db true, db false, .fn 55 [], .fn 56 []]], [], 58⟩
theorem graph_of_r14 : R0 C0.r.r.l.r.b.r.e.r.e.r.t.r.r S0_6 q = q .normal S0_7 := by kernel_rfl
abbrev S0_8 : St := ⟨[(2, rF 0), (4, rF 1), (6, ri op), (26, rb (op == 4))], [[di 0, db false, db false, db false, db false, db false, .nilFn, .nilFn], [di 1, db false, db false, db false, db false, db false, .fn 48 [], .fn 49 []]], [], 58⟩
theorem graph_of_f2000016 : P0 1 C0.r.r.l.r.b.r.e.r.e.r.e.l (S0_1 op) k = k (S0_8 op) := by kernel_rfl
abbrev S0_9 : St := ⟨[(2, rF 0), (4, rF 1), (6, ri op), (26, rb (op == 5))], [[di 0, db false, db false, db false, db false, db false, .nilFn, .nilFn], [di 1, db false, db false, db false, db false, db false, .fn 48 [], .fn 49 []]], [], 58⟩
theorem graph_of_r16 : R0 C0.r.r.l.r.b.r.e.r.e.r.e.l.r.e (S0_8 op) q = q .normal (S0_9 op) := by kernel_rfl
def graph_of_j15_q (K : Bool → β) : β := (bif (op == 4) then (K (op == 4)) else (K (op == 5)))
def graph_of_j15_p : Bool := graph_of_j15_q op (fun y => y)
theorem graph_of_j15_n (K : Bool → β) : graph_of_j15_q op K = K (graph_of_j15_p op) := (bif_k K rfl rfl)
abbrev S0_10 : St := ⟨[(2, rF 0), (4, rF 1), (6, ri op), (26, rb (graph_of_j15_p op))], [[di 0, db false, db false, db false, db false, db false, .nilFn, .nilFn], [di 1, db false, db false, db false, db false, db false, .fn 48 [], .fn 49 []]], [], 58⟩
theorem graph_of_j15 : R0 C0.r.r.l.r.b.r.e.r.e.r.e.l (S0_1 op) (Q0 C0.r.r.l.r.b.r.e.r.e.r.e.r q) = R0 C0.r.r.l.r.b.r.e.r.e.r.e.r (S0_10 op) q := by
  refine Eq.trans ?_ (graph_of_j15_n op (fun y1 : Bool => R0 C0.r.r.l.r.b.r.e.r.e.r.e.r ⟨[(2, rF 0), (4, rF 1), (6, ri op), (26, rb y1)], [[di 0, db false, db false, db false, db false, db false, .nilFn, .nilFn], [di 1, db false, db false, db false, db false, db false, .fn 48 [], .fn 49 []]], [], 58⟩ q))
  unfold graph_of_j15_q
  refine (pre1 (graph_of_f2000016 op _)).trans ?_
  refine (cond_s (b := (op == 4)) ).trans (bif_g ?_ ?_)
  · refine (skip_eq).trans ?_
    refine (seqC_normal (st' := (S0_8 op))).trans ?_
    kernel_rfl
  · refine (graph_of_r16 op _).trans ?_
    refine (seqC_normal (st' := (S0_9 op))).trans ?_
    kernel_rfl
abbrev S0_11 : St := ⟨[(2, rF 0), (4, rF 1)], [[di 0, db false, db false, db false, db false, db false, .nilFn, .nilFn], [di 1, db true, db false, db false, db false, db true, .fn 53 [], .fn 49 []]], [], 58⟩
theorem graph_of_r17 : R0 C0.r.r.l.r.b.r.e.r.e.r.e.r.t (S0_10 op) q = q .normal S0_11 := by kernel_rfl
abbrev S0_12 : St := ⟨[(2, rF 0), (4, rF 1), (6, ri op), (32, rb (op == 6))], [[di 0, db false, db false, db false, db false, db false, .nilFn, .nilFn], [di 1, db false, db false, db false, db false, db false, .fn 48 [], .fn 49 []]], [], 58⟩
theorem graph_of_f2000019 : P0 1 C0.r.r.l.r.b.r.e.r.e.r.e.r.e.l (S0_10 op) k = k (S0_12 op) := by kernel_rfl
abbrev S0_13 : St := ⟨[(2, rF 0), (4, rF 1), (6, ri op), (32, rb (op == 7))], [[di 0, db false, db false, db false, db false, db false, .nilFn, .nilFn], [di 1, db false, db false, db false, db false, db false, .fn 48 [], .fn 49 []]], [], 58⟩
theorem graph_of_r19 : R0 C0.r.r.l.r.b.r.e.r.e.r.e.r.e.l.r.e (S0_12 op) q = q .normal (S0_13 op) := by kernel_rfl
def graph_of_j18_q (K : Bool → β) : β := (bif (op == 6) then (K (op == 6)) else (K (op == 7)))
def graph_of_j18_p : Bool := graph_of_j18_q op (fun y => y)
theorem graph_of_j18_n (K : Bool → β) : graph_of_j18_q op K = K (graph_of_j18_p op) := (bif_k K rfl rfl)
abbrev S0_14 : St := ⟨[(2, rF 0), (4, rF 1), (6, ri op), (32, rb (graph_of_j18_p op))], [[di 0, db false, db false, db false, db false, db false, .nilFn, .nilFn], [di 1, db false, db false, db false, db false, db false, .fn 48 [], .fn 49 []]], [], 58⟩
theorem graph_of_j18 : R0 C0.r.r.l.r.b.r.e.r.e.r.e.r.e.l (S0_10 op) (Q0 C0.r.r.l.r.b.r.e.r.e.r.e.r.e.r q) = R0 C0.r.r.l.r.b.r.e.r.e.r.e.r.e.r (S0_14 op) q := by
  refine Eq.trans ?_ (graph_of_j18_n op (fun y2 : Bool => R0 C0.r.r.l.r.b.r.e.r.e.r.e.r.e.r ⟨[(2, rF 0), (4, rF 1), (6, ri op), (32, rb y2)], [[di 0, db false, db false, db false, db false, db false, .nilFn, .nilFn], [di 1, db false, db false, db false, db false, db false, .fn 48 [], .fn 49 []]], [], 58⟩ q))
  unfold graph_of_j18_q
  refine (pre1 (graph_of_f2000019 op _)).trans ?_
  refine (cond_s (b := (op == 6)) ).trans (bif_g ?_ ?_)
  · refine (skip_eq).trans ?_
    refine (seqC_normal (st' := (S0_12 op))).trans ?_
    kernel_rfl
  · refine (graph_of_r19 op _).trans ?_
    refine (seqC_normal (st' := (S0_13 op))).trans ?_
    kernel_rfl
abbrev S0_15 : St := ⟨[(2, rF 0), (4, rF 1)], [[di 0, db false, db false, db false, db false, db false, .nilFn, .nilFn], [di 2, db false, db false, db false, db false, db false, .fn 58 [], .fn 49 []]], [], 58⟩
theorem graph_of_r20 : R0 C0.r.r.l.r.b.r.e.r.e.r.e.r.e.r.t (S0_14 op) q = q .normal S0_15 := by kernel_rfl
theorem graph_of_f1000022 : P0 1 C0.r.r.l.r.b.r.e.r.e.r.e.r.e.r.e (S0_14 op) k = k ⟨[(2, rF 0), (4, rF 1), (6, ri op), (37, rb (op == 8))], [[di 0, db false, db false, db false, db false, db false, .nilFn, .nilFn], [di 1, db false, db false, db false, db false, db false, .fn 48 [], .fn 49 []]], [], 58⟩ := by kernel_rfl
abbrev S0_16 : St := ⟨[(2, rF 0), (4, rF 1)], [[di 0, db false, db false, db false, db false, db false, .nilFn, .nilFn], [di 1, db false, db false, db false, db false, db true, .fn 48 [], .fn 49 []]], [], 58⟩
theorem graph_of_r22 : R0 C0.r.r.l.r.b.r.e.r.e.r.e.r.e.r.e.r.t (S0_1 op) q = q .normal S0_16 := by kernel_rfl
theorem graph_of_f1000024 : P0 1 C0.r.r.l.r.b.r.e.r.e.r.e.r.e.r.e.r.e (S0_1 op) k = k ⟨[(2, rF 0), (4, rF 1), (6, ri op), (40, rb (op == 9))], [[di 0, db false, db false, db false, db false, db false, .nilFn, .nilFn], [di 1, db false, db false, db false, db false, db false, .fn 48 [], .fn 49 []]], [], 58⟩ := by kernel_rfl
abbrev S0_17 : St := ⟨[(2, rF 0), (4, rF 1)], [[di 0, db false, db false, db false, db false, db false, .nilFn, .nilFn], [di 1, db false, db false, db true, db false, db true, .fn 48 [], .fn 49 []]], [], 58⟩
theorem graph_of_f25 : P0 1 C0.r.r.l.r.b.r.e.r.e.r.e.r.e.r.e.r.e.r.t (S0_1 op) k = k S0_17 := by kernel_rfl
abbrev S0_18 : St := ⟨[(2, rF 0), (4, rF 1)], [[di 0, db false, db false, db false, db false, db false, .nilFn, .nilFn], [di 1, db false, db false, db true, db false, db true, .fn 59 [], .fn 49 []]], [], 58⟩
theorem graph_of_r25 : R0 C0.r.r.l.r.b.r.e.r.e.r.e.r.e.r.e.r.e.r.t.r S0_17 q = q .normal S0_18 := by kernel_rfl
theorem graph_of_f1000027 : P0 1 C0.r.r.l.r.b.r.e.r.e.r.e.r.e.r.e.r.e.r.e (S0_1 op) k = k ⟨[(2, rF 0), (4, rF 1), (6, ri op), (45, rb (op == 10))], [[di 0, db false, db false, db false, db false, db false, .nilFn, .nilFn], [di 1, db false, db false, db false, db false, db false, .fn 48 [], .fn 49 []]], [], 58⟩ := by kernel_rfl
abbrev S0_19 : St := ⟨[(2, rF 0), (4, rF 1)], [[di 0, db false, db false, db false, db false, db false, .nilFn, .nilFn], [di 2, db false, db false, db false, db false, db true, .fn 60 [], .fn 49 []]], [], 58⟩
theorem graph_of_r27 : R0 C0.r.r.l.r.b.r.e.r.e.r.e.r.e.r.e.r.e.r.e.r.t (S0_1 op) q = q .normal S0_19 := by kernel_rfl
theorem graph_of_f1000029 : P0 1 C0.r.r.l.r.b.r.e.r.e.r.e.r.e.r.e.r.e.r.e.r.e (S0_1 op) k = k ⟨[(2, rF 0), (4, rF 1), (6, ri op), (50, rb (op == 11))], [[di 0, db false, db false, db false, db false, db false, .nilFn, .nilFn], [di 1, db false, db false, db false, db false, db false, .fn 48 [], .fn 49 []]], [], 58⟩ := by kernel_rfl
abbrev S0_20 : St := ⟨[(2, rF 0), (4, rF 1)], [[di 0, db false, db false, db false, db false, db false, .nilFn, .nilFn], [di 1, db false, db false, db false, db false, db true, .fn 61 [], .fn 49 []]], [], 58⟩
theorem graph_of_r29 : R0 C0.r.r.l.r.b.r.e.r.e.r.e.r.e.r.e.r.e.r.e.r.e.r.t (S0_1 op) q = q .normal S0_20 := by kernel_rfl
theorem graph_of_f1000031 : P0 1 C0.r.r.l.r.b.r.e.r.e.r.e.r.e.r.e.r.e.r.e.r.e.r.e (S0_1 op) k = k ⟨[(2, rF 0), (4, rF 1), (54, rb (op == 12))], [[di 0, db false, db false, db false, db false, db false, .nilFn, .nilFn], [di 1, db false, db false, db false, db false, db false, .fn 48 [], .fn 49 []]], [], 58⟩ := by kernel_rfl
abbrev S0_21 : St := ⟨[(2, rF 0), (4, rF 1)], [[di 0, db false, db false, db false, db false, db false, .nilFn, .nilFn], [di 1, db false, db false, db false, db false, db false, .fn 48 [], .fn 49 []]], [], 58⟩
abbrev S0_22 : St := ⟨[(2, rF 0), (4, rF 1)], [[di 0, db false, db false, db false, db false, db false, .nilFn, .nilFn], [di 1, db false, db false, db false, db false, db false, .fn 48 [], .fn 62 []]], [], 58⟩
theorem graph_of_r31 : R0 C0.r.r.l.r.b.r.e.r.e.r.e.r.e.r.e.r.e.r.e.r.e.r.e.r.t S0_21 q = q .normal S0_22 := by kernel_rfl
abbrev S0_23 : St := ⟨[(2, rF 0), (3, rb false)], [[di 0, db false, db false, db false, db false, db false, .nilFn, .nilFn], []], [], 58⟩
theorem graph_of_fz : P0 1 C0.r.r.l.r.b.r.e.r.e.r.e.r.e.r.e.r.e.r.e.r.e.r.e.r.e S0_21 k = k S0_23 := by kernel_rfl
def graph_of_j2_p : Option (U4 ⊕ Unit) := (bif (op == 1) then (some (Sum.inl ((1 : Int), true, true, false, true, false, (Sum.inr (Sum.inl ())), (Sum.inr (Sum.inl ()))))) else (bif (op == 2) then (some (Sum.inl ((1 : Int), true, true, false, false, false, (Sum.inr (Sum.inr (Sum.inl ()))), (Sum.inr (Sum.inr (Sum.inl ())))))) else (bif (op == 3) then (some (Sum.inl ((1 : Int), false, false, false, true, false, (Sum.inr (Sum.inr (Sum.inr (Sum.inl ())))), (Sum.inr (Sum.inr (Sum.inr (Sum.inl ()))))))) else (bif (graph_of_j15_p op) then (some (Sum.inl ((1 : Int), true, false, false, false, true, (Sum.inr (Sum.inr (Sum.inl ()))), (Sum.inl ())))) else (bif (graph_of_j18_p op) then (some (Sum.inl ((2 : Int), false, false, false, false, false, (Sum.inr (Sum.inr (Sum.inr (Sum.inr (Sum.inl ()))))), (Sum.inl ())))) else (bif (op == 8) then (some (Sum.inl ((1 : Int), false, false, false, false, true, (Sum.inl ()), (Sum.inl ())))) else (bif (op == 9) then (some (Sum.inl ((1 : Int), false, false, true, false, true, (Sum.inr (Sum.inr (Sum.inr (Sum.inr (Sum.inr (Sum.inl ())))))), (Sum.inl ())))) else (bif (op == 10) then (some (Sum.inl ((2 : Int), false, false, false, false, true, (Sum.inr (Sum.inr (Sum.inr (Sum.inr (Sum.inr (Sum.inr (Sum.inl ()))))))), (Sum.inl ())))) else (bif (op == 11) then (some (Sum.inl ((1 : Int), false, false, false, false, true, (Sum.inr (Sum.inr (Sum.inr (Sum.inr (Sum.inr (Sum.inr (Sum.inr ()))))))), (Sum.inl ())))) else (bif (op == 12) then (some (Sum.inl ((1 : Int), false, false, false, false, false, (Sum.inl ()), (Sum.inr (Sum.inr (Sum.inr (Sum.inr ()))))))) else (some (Sum.inr ()))))))))))))
abbrev S0_24 : St := ⟨[(2, rF 0), (4, rF 1)], [[di 0, db false, db false, db false, db false, db false, .nilFn, .nilFn], [di y3.1, db y3.2.1, db y3.2.2.1, db y3.2.2.2.1, db y3.2.2.2.2.1, db y3.2.2.2.2.2.1, Ps.enc (.alt (.fn 48 .nil) (.alt (.fn 50 .nil) (.alt (.fn 53 .nil) (.alt (.fn 55 .nil) (.alt (.fn 58 .nil) (.alt (.fn 59 .nil) (.alt (.fn 60 .nil) (.fn 61 .nil)))))))) y3.2.2.2.2.2.2.1, Ps.enc (.alt (.fn 49 .nil) (.alt (.fn 52 .nil) (.alt (.fn 54 .nil) (.alt (.fn 56 .nil) (.fn 62 .nil))))) y3.2.2.2.2.2.2.2]], [], 58⟩
theorem graph_of_j2 : R0 C0.r.r.l (S0_0 op) (Q0 C0.r.r.r q) = Option.bind (graph_of_j2_p op) (either (fun y3 : U4 => R0 C0.r.r.r (S0_24 y3) q) (fun y4 : Unit => q .ret S0_23)) := by
  refine .trans ?_ (bif_b e2_0 (bif_b e2_0 (bif_b e2_0 (bif_b e2_0 (bif_b e2_0 (bif_b e2_0 (bif_b e2_0 (bif_b e2_0 (bif_b e2_0 (bif_b e2_0 e2_1))))))))))
  refine (pre1 (graph_of_f4 op _)).trans ?_
  refine (block_push (id := 0)).trans ?_
  refine (pre1 (graph_of_f1000005 op _)).trans ?_
  refine (cond_e (b := (op == 1)) (st' := (S0_1 op)) ).trans (bif_g ?_ ?_)
  · refine (pre2 (graph_of_f7 op _)).trans ?_
    refine (graph_of_r7 _).trans ?_
    refine block_normal.trans ?_
    refine (seqC_normal (st' := S0_3)).trans ?_
    kernel_rfl
  · refine (pre1 (graph_of_f1000009 op _)).trans ?_
    refine (cond_e (b := (op == 2)) (st' := (S0_1 op)) ).trans (bif_g ?_ ?_)
    · refine (pre1 (graph_of_f10 op _)).trans ?_
      refine (graph_of_r10 _).trans ?_
      refine block_normal.trans ?_
      refine (seqC_normal (st' := S0_5)).trans ?_
      kernel_rfl
    · refine (pre1 (graph_of_f1000012 op _)).trans ?_
      refine (cond_e (b := (op == 3)) (st' := (S0_1 op)) ).trans (bif_g ?_ ?_)
      · refine (pre2 (graph_of_f14 op _)).trans ?_
        refine (graph_of_r14 _).trans ?_
        refine block_normal.trans ?_
        refine (seqC_normal (st' := S0_7)).trans ?_
        kernel_rfl
      · refine .trans seq_push ?_
        refine (graph_of_j15 op _).trans ?_
        refine (cond_s (b := (graph_of_j15_p op)) ).trans (bif_g ?_ ?_)
        · refine (graph_of_r17 op _).trans ?_
          refine block_normal.trans ?_
          refine (seqC_normal (st' := S0_11)).trans ?_
          kernel_rfl
        · refine .trans seq_push ?_
          refine (graph_of_j18 op _).trans ?_
          refine (cond_s (b := (graph_of_j18_p op)) ).trans (bif_g ?_ ?_)
          · refine (graph_of_r20 op _).trans ?_
            refine block_normal.trans ?_
            refine (seqC_normal (st' := S0_15)).trans ?_
            kernel_rfl
          · refine (pre1 (graph_of_f1000022 op _)).trans ?_
            refine (cond_e (b := (op == 8)) (st' := (S0_1 op)) ).trans (bif_g ?_ ?_)
            · refine (graph_of_r22 op _).trans ?_
              refine block_normal.trans ?_
              refine (seqC_normal (st' := S0_16)).trans ?_
              kernel_rfl
            · refine (pre1 (graph_of_f1000024 op _)).trans ?_
              refine (cond_e (b := (op == 9)) (st' := (S0_1 op)) ).trans (bif_g ?_ ?_)
              · refine (pre1 (graph_of_f25 op _)).trans ?_
                refine (graph_of_r25 _).trans ?_
                refine block_normal.trans ?_
                refine (seqC_normal (st' := S0_18)).trans ?_
                kernel_rfl
              · refine (pre1 (graph_of_f1000027 op _)).trans ?_
                refine (cond_e (b := (op == 10)) (st' := (S0_1 op)) ).trans (bif_g ?_ ?_)
                · refine (graph_of_r27 op _).trans ?_
                  refine block_normal.trans ?_
                  refine (seqC_normal (st' := S0_19)).trans ?_
                  kernel_rfl
                · refine (pre1 (graph_of_f1000029 op _)).trans ?_
                  refine (cond_e (b := (op == 11)) (st' := (S0_1 op)) ).trans (bif_g ?_ ?_)
                  · refine (graph_of_r29 op _).trans ?_
                    refine block_normal.trans ?_
                    refine (seqC_normal (st' := S0_20)).trans ?_
                    kernel_rfl
                  · refine (pre1 (graph_of_f1000031 op _)).trans ?_
                    refine (cond_e (b := (op == 12)) (st' := S0_21) ).trans (bif_g ?_ ?_)
                    · refine (graph_of_r31 _).trans ?_
                      refine block_normal.trans ?_
                      refine (seqC_normal (st' := S0_22)).trans ?_
                      kernel_rfl
                    · refine (pre1 (graph_of_fz _)).trans ?_
                      refine (ret_eq).trans ?_
                      refine block_ret.trans ?_
                      refine seqC_ret.trans ?_
                      kernel_rfl
theorem graph_of_fzx1 : P0 1 C0.r.r.r (S0_24 y3) k = k ⟨[(2, rF 0), (3, rb true)], [[di y3.1, db y3.2.1, db y3.2.2.1, db y3.2.2.2.1, db y3.2.2.2.2.1, db y3.2.2.2.2.2.1, Ps.enc (.alt (.fn 48 .nil) (.alt (.fn 50 .nil) (.alt (.fn 53 .nil) (.alt (.fn 55 .nil) (.alt (.fn 58 .nil) (.alt (.fn 59 .nil) (.alt (.fn 60 .nil) (.fn 61 .nil)))))))) y3.2.2.2.2.2.2.1, Ps.enc (.alt (.fn 49 .nil) (.alt (.fn 52 .nil) (.alt (.fn 54 .nil) (.alt (.fn 56 .nil) (.fn 62 .nil))))) y3.2.2.2.2.2.2.2], []], [], 58⟩ := by (rcases y3 with ⟨_, _, _, _, _, _, (_ | _ | _ | _ | _ | _ | _ | _), (_ | _ | _ | _ | _)⟩ <;> kernel_rfl)
/-- quilt/graph.of -/
def graph_of : Option U7 := (Option.bind (graph_of_j2_p op) (either (fun y3 : U4 => (some ((y3.1, y3.2.1, y3.2.2.1, y3.2.2.2.1, y3.2.2.2.2.1, y3.2.2.2.2.2.1, ((either (fun u5 : Unit => (Sum.inl ())) (either (fun u6 : Unit => (Sum.inr (Sum.inl ()))) (either (fun u7 : Unit => (Sum.inr (Sum.inr (Sum.inl ())))) (either (fun u8 : Unit => (Sum.inr (Sum.inr (Sum.inr (Sum.inl ()))))) (either (fun u9 : Unit => (Sum.inr (Sum.inr (Sum.inr (Sum.inr (Sum.inl ())))))) (either (fun u10 : Unit => (Sum.inr (Sum.inr (Sum.inr (Sum.inr (Sum.inr (Sum.inl ()))))))) (either (fun u11 : Unit => (Sum.inr (Sum.inr (Sum.inr (Sum.inr (Sum.inr (Sum.inr (Sum.inl ())))))))) (fun u12 : Unit => (Sum.inr (Sum.inr (Sum.inr (Sum.inr (Sum.inr (Sum.inr (Sum.inr (Sum.inl ())))))))))))))))) y3.2.2.2.2.2.2.1), ((either (fun u13 : Unit => (Sum.inl ())) (either (fun u14 : Unit => (Sum.inr (Sum.inl ()))) (either (fun u15 : Unit => (Sum.inr (Sum.inr (Sum.inl ())))) (either (fun u16 : Unit => (Sum.inr (Sum.inr (Sum.inr (Sum.inl ()))))) (fun u17 : Unit => (Sum.inr (Sum.inr (Sum.inr (Sum.inr (Sum.inl ())))))))))) y3.2.2.2.2.2.2.2), ()), true))) (fun y4 : Unit => (some (((0 : Int), false, false, false, false, false, (Sum.inr (Sum.inr (Sum.inr (Sum.inr (Sum.inr (Sum.inr (Sum.inr (Sum.inr ())))))))), (Sum.inr (Sum.inr (Sum.inr (Sum.inr (Sum.inr ()))))), ()), false)))))
theorem graph_of_is : stepS E cpA noE 22 [ri op] = Option.bind (graph_of op) (fun y : U7 => some (Po.enc (.tup [(.aggs Z4), pB]) ((fun y : U7 => (y.1, y.2, ())) y))) := by
  refine .trans ?_ (bind_b (either_b (fun y3 => some_b) (fun y4 => some_b)))
  refine (stepG_is (nt := 58) (regs := [(0, ri op)])).trans ?_
  refine (pre2 (graph_of_f2 op _)).trans ?_
  refine .trans seq_push ?_
  refine (graph_of_j2 op _).trans (bind_g (either_g (fun y3 => ?_) (fun y4 => ?_)))
  · refine (pre1 (graph_of_fzx1 y3 _)).trans ?_
    refine (ret_eq).trans ?_
    (rcases y3 with ⟨_, _, _, _, _, _, (_ | _ | _ | _ | _ | _ | _ | _), (_ | _ | _ | _ | _)⟩ <;> kernel_rfl)
  · kernel_rfl
noncomputable def cp1 : CallP := withC cpA 22 [pI] (.tup [(.aggs Z4), pB]) (fun y : U7 => (y.1, y.2, ())) (fun x => graph_of x.1)
theorem cp1_ok : PureOK E cp1 := conS eok cpA_ok noE_ok fun x => Eq.mp (by kernel_rfl) (graph_of_is x.1)
end
section
variable {α β : Type} (x_ : Int) (low : Int) (high : Int) (k : St → Option α)
noncomputable abbrev C1 := codeOf E.P 30
noncomputable abbrev P1 := @preK α E 30 cp1 noE
def graph_within_r1_q (K : Bool → β) : β := (bif (decide (x_ ≥ low)) then (K (decide (x_ ≤ high))) else (K false))
def graph_within_r1_p : Bool := graph_within_r1_q x_ low high (fun y => y)
theorem graph_within_r1_n (K : Bool → β) : graph_within_r1_q x_ low high K = K (graph_within_r1_p x_ low high) := (bif_k K rfl rfl)
theorem graph_within_r1 : P1 2 C1 ⟨[(0, ri x_), (1, ri low), (2, ri high)], [], [], 15⟩ k = k ⟨[(6, rb (graph_within_r1_p x_ low high))], [], [], 15⟩ := Eq.trans (by kernel_rfl) (graph_within_r1_n x_ low high (fun y83 : Bool => k ⟨[(6, rb y83)], [], [], 15⟩))
/-- quilt/graph.within -/
def graph_within_q (K : Bool → β) : β := (K (graph_within_r1_p x_ low high))
def graph_within : Bool := graph_within_q x_ low high (fun y => y)
theorem graph_within_n (K : Bool → β) : graph_within_q x_ low high K = K (graph_within x_ low high) := rfl
theorem graph_within_is : stepS E cp1 noE 30 [ri x_, ri low, ri high] = (fun y : Bool => some (rb y : R)) (graph_within x_ low high) := by
  refine Eq.trans ?_ (graph_within_n x_ low high (fun y : Bool => some (rb y : R)))
  refine (stepG_is (nt := 15) (regs := [(0, ri x_), (1, ri low), (2, ri high)])).trans ?_
  unfold graph_within_q
  refine (pre2 (graph_within_r1 x_ low high _)).trans ?_
  refine (ret_eq).trans ?_
  kernel_rfl
noncomputable def cp2 : CallP := withC cp1 30 [pI, pI, pI] (.one pB) (fun y : Bool => y) (fun x => some (graph_within x.1 x.2.1 x.2.2.1))
theorem cp2_ok : PureOK E cp2 := conS eok cp1_ok noE_ok fun x => Eq.mp (by kernel_rfl) (graph_within_is x.1 x.2.1 x.2.2.1)
end
section
variable {α β : Type} (k_ : Int) (k_' : Bool) (k_'' : Bool) (k_''' : Bool) (k_'''' : Bool) (k_''''' : Bool) (k_'''''' : U3) (k_''''''' : U0) (n_ : Node) (in_ : (List I4)) (k : St → Option α) (q : Kont α)
noncomputable abbrev C2 := codeOf E.P 23
noncomputable abbrev P2 := @preK α E 23 cp2 noE
noncomputable abbrev R2 := @runCode α E 23 cp2 noE
noncomputable abbrev Q2 := @seqC α E 23 cp2 noE
def graph_kind_may_r1_q (K : Bool → β) : β := (bif ((in_.length : Int) == k_) then (bif (graph_within n_.2.2.2.2.2.2.1 (1 : Int) (32767 : Int)) then (bif (graph_within n_.2.2.2.2.2.2.2.1 (0 : Int) (31 : Int)) then (K (graph_within n_.2.2.2.2.2.2.2.2.1 (-128 : Int) (127 : Int))) else (K false)) else (K false)) else (K false))
def graph_kind_may_r1_p : Bool := graph_kind_may_r1_q k_ n_ in_ (fun y => y)
theorem graph_kind_may_r1_n (K : Bool → β) : graph_kind_may_r1_q k_ n_ in_ K = K (graph_kind_may_r1_p k_ n_ in_) := (bif_k K (bif_k K (bif_k K rfl rfl) rfl) rfl)
abbrev S2_0 : St := ⟨[(3, .one (.cell [di k_, db k_', db k_'', db k_''', db k_'''', db k_''''', Ps.enc Z1 k_'''''', Ps.enc Z0 k_'''''''])), (4, rC tsNode n_), (7, rb (graph_kind_may_r1_p k_ n_ in_))], [], [], 106⟩
theorem graph_kind_may_r1 : P2 2 C2 ⟨[(0, .agg [di k_, db k_', db k_'', db k_''', db k_'''', db k_''''', Ps.enc Z1 k_'''''', Ps.enc Z0 k_''''''']), (1, rA tsNode n_), (2, rl tsI4 in_)], [], [], 106⟩ k = k (S2_0 k_ k_' k_'' k_''' k_'''' k_''''' k_'''''' k_''''''' n_ in_) := Eq.trans (by (rcases k_'''''' with (_ | _ | _ | _ | _ | _ | _ | _ | _) <;> rcases k_''''''' with (_ | _ | _ | _ | _ | _) <;> kernel_rfl)) (graph_kind_may_r1_n k_ n_ in_ (fun y84 : Bool => k ⟨[(3, .one (.cell [di k_, db k_', db k_'', db k_''', db k_'''', db k_''''', Ps.enc Z1 k_'''''', Ps.enc Z0 k_'''''''])), (4, rC tsNode n_), (7, rb y84)], [], [], 106⟩))
def graph_kind_may_r2_q (K : Bool → β) : β := (bif (graph_kind_may_r1_p k_ n_ in_) then (bif (n_.1 == 11) then (K true) else (K ((n_.2.2.2.2.2.2.2.2.2.1 == 0) && ((n_.2.2.2.2.2.2.2.2.2.2.1 == 0) && ((n_.2.2.2.2.2.2.2.2.2.2.2.1 == 0) && true))))) else (K false))
def graph_kind_may_r2_p : Bool := graph_kind_may_r2_q k_ n_ in_ (fun y => y)
theorem graph_kind_may_r2_n (K : Bool → β) : graph_kind_may_r2_q k_ n_ in_ K = K (graph_kind_may_r2_p k_ n_ in_) := (bif_k K (bif_k K rfl rfl) rfl)
abbrev S2_1 : St := ⟨[(3, .one (.cell [di k_, db k_', db k_'', db k_''', db k_'''', db k_''''', Ps.enc Z1 k_'''''', Ps.enc Z0 k_'''''''])), (4, rC tsNode n_), (7, rb (graph_kind_may_r2_p k_ n_ in_))], [], [], 106⟩
theorem graph_kind_may_r2 : P2 1 C2.r.r (S2_0 k_ k_' k_'' k_''' k_'''' k_''''' k_'''''' k_''''''' n_ in_) k = k (S2_1 k_ k_' k_'' k_''' k_'''' k_''''' k_'''''' k_''''''' n_ in_) := Eq.trans (by (rcases k_'''''' with (_ | _ | _ | _ | _ | _ | _ | _ | _) <;> rcases k_''''''' with (_ | _ | _ | _ | _ | _) <;> kernel_rfl)) (graph_kind_may_r2_n k_ n_ in_ (fun y85 : Bool => k ⟨[(3, .one (.cell [di k_, db k_', db k_'', db k_''', db k_'''', db k_''''', Ps.enc Z1 k_'''''', Ps.enc Z0 k_'''''''])), (4, rC tsNode n_), (7, rb y85)], [], [], 106⟩))
theorem graph_kind_may_f1000004 : P2 1 C2.r.r.r.l (S2_1 k_ k_' k_'' k_''' k_'''' k_''''' k_'''''' k_''''''' n_ in_) k = k ⟨[(3, .one (.cell [di k_, db k_', db k_'', db k_''', db k_'''', db k_''''', Ps.enc Z1 k_'''''', Ps.enc Z0 k_'''''''])), (4, rC tsNode n_), (7, rb (graph_kind_may_r2_p k_ n_ in_)), (41, rb k_')], [], [], 106⟩ := by (rcases k_'''''' with (_ | _ | _ | _ | _ | _ | _ | _ | _) <;> rcases k_''''''' with (_ | _ | _ | _ | _ | _) <;> kernel_rfl)
def graph_kind_may_r4_q (K : Bool → β) : β := (bif (graph_kind_may_r2_p k_ n_ in_) then (bif (graph_within n_.2.2.1 (1 : Int) (3 : Int)) then (K (graph_within n_.2.2.2.1 (1 : Int) (2 : Int))) else (K false)) else (K false))
def graph_kind_may_r4_p : Bool := graph_kind_may_r4_q k_ n_ in_ (fun y => y)
theorem graph_kind_may_r4_n (K : Bool → β) : graph_kind_may_r4_q k_ n_ in_ K = K (graph_kind_may_r4_p k_ n_ in_) := (bif_k K (bif_k K rfl rfl) rfl)
abbrev S2_2 : St := ⟨[(3, .one (.cell [di k_, db k_', db k_'', db k_''', db k_'''', db k_''''', Ps.enc Z1 k_'''''', Ps.enc Z0 k_'''''''])), (4, rC tsNode n_), (7, rb (graph_kind_may_r4_p k_ n_ in_))], [], [], 106⟩
theorem graph_kind_may_r4 : R2 C2.r.r.r.l.r.t (S2_1 k_ k_' k_'' k_''' k_'''' k_''''' k_'''''' k_''''''' n_ in_) q = q .normal (S2_2 k_ k_' k_'' k_''' k_'''' k_''''' k_'''''' k_''''''' n_ in_) := Eq.trans (by (rcases k_'''''' with (_ | _ | _ | _ | _ | _ | _ | _ | _) <;> rcases k_''''''' with (_ | _ | _ | _ | _ | _) <;> kernel_rfl)) (graph_kind_may_r4_n k_ n_ in_ (fun y86 : Bool => q .normal ⟨[(3, .one (.cell [di k_, db k_', db k_'', db k_''', db k_'''', db k_''''', Ps.enc Z1 k_'''''', Ps.enc Z0 k_'''''''])), (4, rC tsNode n_), (7, rb y86)], [], [], 106⟩))
def graph_kind_may_r5_q (K : Bool → β) : β := (bif (graph_kind_may_r2_p k_ n_ in_) then (bif (n_.2.2.1 == 0) then (K (n_.2.2.2.1 == 0)) else (K false)) else (K false))
def graph_kind_may_r5_p : Bool := graph_kind_may_r5_q k_ n_ in_ (fun y => y)
theorem graph_kind_may_r5_n (K : Bool → β) : graph_kind_may_r5_q k_ n_ in_ K = K (graph_kind_may_r5_p k_ n_ in_) := (bif_k K (bif_k K rfl rfl) rfl)
abbrev S2_3 : St := ⟨[(3, .one (.cell [di k_, db k_', db k_'', db k_''', db k_'''', db k_''''', Ps.enc Z1 k_'''''', Ps.enc Z0 k_'''''''])), (4, rC tsNode n_), (7, rb (graph_kind_may_r5_p k_ n_ in_))], [], [], 106⟩
theorem graph_kind_may_r5 : R2 C2.r.r.r.l.r.e (S2_1 k_ k_' k_'' k_''' k_'''' k_''''' k_'''''' k_''''''' n_ in_) q = q .normal (S2_3 k_ k_' k_'' k_''' k_'''' k_''''' k_'''''' k_''''''' n_ in_) := Eq.trans (by (rcases k_'''''' with (_ | _ | _ | _ | _ | _ | _ | _ | _) <;> rcases k_''''''' with (_ | _ | _ | _ | _ | _) <;> kernel_rfl)) (graph_kind_may_r5_n k_ n_ in_ (fun y87 : Bool => q .normal ⟨[(3, .one (.cell [di k_, db k_', db k_'', db k_''', db k_'''', db k_''''', Ps.enc Z1 k_'''''', Ps.enc Z0 k_'''''''])), (4, rC tsNode n_), (7, rb y87)], [], [], 106⟩))
def graph_kind_may_j3_q (K : Bool → β) : β := (bif k_' then (K (graph_kind_may_r4_p k_ n_ in_)) else (K (graph_kind_may_r5_p k_ n_ in_)))
def graph_kind_may_j3_p : Bool := graph_kind_may_j3_q k_ k_' n_ in_ (fun y => y)
theorem graph_kind_may_j3_n (K : Bool → β) : graph_kind_may_j3_q k_ k_' n_ in_ K = K (graph_kind_may_j3_p k_ k_' n_ in_) := (bif_k K rfl rfl)
abbrev S2_4 : St := ⟨[(3, .one (.cell [di k_, db k_', db k_'', db k_''', db k_'''', db k_''''', Ps.enc Z1 k_'''''', Ps.enc Z0 k_'''''''])), (4, rC tsNode n_), (7, rb (graph_kind_may_j3_p k_ k_' n_ in_))], [], [], 106⟩
theorem graph_kind_may_j3 : R2 C2.r.r.r.l (S2_1 k_ k_' k_'' k_''' k_'''' k_''''' k_'''''' k_''''''' n_ in_) (Q2 C2.r.r.r.r q) = R2 C2.r.r.r.r (S2_4 k_ k_' k_'' k_''' k_'''' k_''''' k_'''''' k_''''''' n_ in_) q := by
  refine Eq.trans ?_ (graph_kind_may_j3_n k_ k_' n_ in_ (fun y88 : Bool => R2 C2.r.r.r.r ⟨[(3, .one (.cell [di k_, db k_', db k_'', db k_''', db k_'''', db k_''''', Ps.enc Z1 k_'''''', Ps.enc Z0 k_'''''''])), (4, rC tsNode n_), (7, rb y88)], [], [], 106⟩ q))
  unfold graph_kind_may_j3_q
  refine (pre1 (graph_kind_may_f1000004 k_ k_' k_'' k_''' k_'''' k_''''' k_'''''' k_''''''' n_ in_ _)).trans ?_
  refine (cond_e (b := k_') (st' := (S2_1 k_ k_' k_'' k_''' k_'''' k_''''' k_'''''' k_''''''' n_ in_)) (hs := by (rcases k_'''''' with (_ | _ | _ | _ | _ | _ | _ | _ | _) <;> rcases k_''''''' with (_ | _ | _ | _ | _ | _) <;> kernel_rfl))).trans (bif_g ?_ ?_)
  · refine (graph_kind_may_r4 k_ k_' k_'' k_''' k_'''' k_''''' k_'''''' k_''''''' n_ in_ _).trans ?_
    refine (seqC_normal (st' := (S2_2 k_ k_' k_'' k_''' k_'''' k_''''' k_'''''' k_''''''' n_ in_)) (hs := by (rcases k_'''''' with (_ | _ | _ | _ | _ | _ | _ | _ | _) <;> rcases k_''''''' with (_ | _ | _ | _ | _ | _) <;> kernel_rfl))).trans ?_
    (rcases k_'''''' with (_ | _ | _ | _ | _ | _ | _ | _ | _) <;> rcases k_''''''' with (_ | _ | _ | _ | _ | _) <;> kernel_rfl)
  · refine (graph_kind_may_r5 k_ k_' k_'' k_''' k_'''' k_''''' k_'''''' k_''''''' n_ in_ _).trans ?_
    refine (seqC_normal (st' := (S2_3 k_ k_' k_'' k_''' k_'''' k_''''' k_'''''' k_''''''' n_ in_)) (hs := by (rcases k_'''''' with (_ | _ | _ | _ | _ | _ | _ | _ | _) <;> rcases k_''''''' with (_ | _ | _ | _ | _ | _) <;> kernel_rfl))).trans ?_
    (rcases k_'''''' with (_ | _ | _ | _ | _ | _ | _ | _ | _) <;> rcases k_''''''' with (_ | _ | _ | _ | _ | _) <;> kernel_rfl)
theorem graph_kind_may_f1000008 : P2 1 C2.r.r.r.r.l.b (S2_4 k_ k_' k_'' k_''' k_'''' k_''''' k_'''''' k_''''''' n_ in_) k = k ⟨[(3, .one (.cell [di k_, db k_', db k_'', db k_''', db k_'''', db k_''''', Ps.enc Z1 k_'''''', Ps.enc Z0 k_'''''''])), (4, rC tsNode n_), (7, rb (graph_kind_may_j3_p k_ k_' n_ in_)), (70, rb k_'')], [], [], 106⟩ := by (rcases k_'''''' with (_ | _ | _ | _ | _ | _ | _ | _ | _) <;> rcases k_''''''' with (_ | _ | _ | _ | _ | _) <;> kernel_rfl)
def graph_kind_may_r8_q (K : Bool → β) : β := (bif (graph_kind_may_j3_p k_ k_' n_ in_) then (K (graph_within n_.2.2.2.2.1 (0 : Int) (min (1 : Int) (IntKind.wrap .i64 (n_.2.2.1 - 1))))) else (K false))
def graph_kind_may_r8_p : Bool := graph_kind_may_r8_q k_ k_' n_ in_ (fun y => y)
theorem graph_kind_may_r8_n (K : Bool → β) : graph_kind_may_r8_q k_ k_' n_ in_ K = K (graph_kind_may_r8_p k_ k_' n_ in_) := (bif_k K rfl rfl)
abbrev S2_5 : St := ⟨[(3, .one (.cell [di k_, db k_', db k_'', db k_''', db k_'''', db k_''''', Ps.enc Z1 k_'''''', Ps.enc Z0 k_'''''''])), (4, rC tsNode n_), (7, rb (graph_kind_may_r8_p k_ k_' n_ in_))], [], [], 106⟩
theorem graph_kind_may_r8 : R2 C2.r.r.r.r.l.b.r.t (S2_4 k_ k_' k_'' k_''' k_'''' k_''''' k_'''''' k_''''''' n_ in_) q = q .normal (S2_5 k_ k_' k_'' k_''' k_'''' k_''''' k_'''''' k_''''''' n_ in_) := Eq.trans (by (rcases k_'''''' with (_ | _ | _ | _ | _ | _ | _ | _ | _) <;> rcases k_''''''' with (_ | _ | _ | _ | _ | _) <;> kernel_rfl)) (graph_kind_may_r8_n k_ k_' n_ in_ (fun y89 : Bool => q .normal ⟨[(3, .one (.cell [di k_, db k_', db k_'', db k_''', db k_'''', db k_''''', Ps.enc Z1 k_'''''', Ps.enc Z0 k_'''''''])), (4, rC tsNode n_), (7, rb y89)], [], [], 106⟩))
theorem graph_kind_may_f1000010 : P2 1 C2.r.r.r.r.l.b.r.e (S2_4 k_ k_' k_'' k_''' k_'''' k_''''' k_'''''' k_''''''' n_ in_) k = k ⟨[(3, .one (.cell [di k_, db k_', db k_'', db k_''', db k_'''', db k_''''', Ps.enc Z1 k_'''''', Ps.enc Z0 k_'''''''])), (4, rC tsNode n_), (7, rb (graph_kind_may_j3_p k_ k_' n_ in_)), (83, rb k_''')], [], [], 106⟩ := by (rcases k_'''''' with (_ | _ | _ | _ | _ | _ | _ | _ | _) <;> rcases k_''''''' with (_ | _ | _ | _ | _ | _) <;> kernel_rfl)
def graph_kind_may_r10_q (K : Bool → β) : β := (bif (graph_kind_may_j3_p k_ k_' n_ in_) then (K (n_.2.2.2.2.1 == 1)) else (K false))
def graph_kind_may_r10_p : Bool := graph_kind_may_r10_q k_ k_' n_ in_ (fun y => y)
theorem graph_kind_may_r10_n (K : Bool → β) : graph_kind_may_r10_q k_ k_' n_ in_ K = K (graph_kind_may_r10_p k_ k_' n_ in_) := (bif_k K rfl rfl)
abbrev S2_6 : St := ⟨[(3, .one (.cell [di k_, db k_', db k_'', db k_''', db k_'''', db k_''''', Ps.enc Z1 k_'''''', Ps.enc Z0 k_'''''''])), (4, rC tsNode n_), (7, rb (graph_kind_may_r10_p k_ k_' n_ in_))], [], [], 106⟩
theorem graph_kind_may_r10 : R2 C2.r.r.r.r.l.b.r.e.r.t (S2_4 k_ k_' k_'' k_''' k_'''' k_''''' k_'''''' k_''''''' n_ in_) q = q .normal (S2_6 k_ k_' k_'' k_''' k_'''' k_''''' k_'''''' k_''''''' n_ in_) := Eq.trans (by (rcases k_'''''' with (_ | _ | _ | _ | _ | _ | _ | _ | _) <;> rcases k_''''''' with (_ | _ | _ | _ | _ | _) <;> kernel_rfl)) (graph_kind_may_r10_n k_ k_' n_ in_ (fun y90 : Bool => q .normal ⟨[(3, .one (.cell [di k_, db k_', db k_'', db k_''', db k_'''', db k_''''', Ps.enc Z1 k_'''''', Ps.enc Z0 k_'''''''])), (4, rC tsNode n_), (7, rb y90)], [], [], 106⟩))
def graph_kind_may_r6_q (K : Bool → β) : β := (bif (graph_kind_may_j3_p k_ k_' n_ in_) then (K (n_.2.2.2.2.1 == 0)) else (K false))
def graph_kind_may_r6_p : Bool := graph_kind_may_r6_q k_ k_' n_ in_ (fun y => y)
theorem graph_kind_may_r6_n (K : Bool → β) : graph_kind_may_r6_q k_ k_' n_ in_ K = K (graph_kind_may_r6_p k_ k_' n_ in_) := (bif_k K rfl rfl)
abbrev S2_7 : St := ⟨[(3, .one (.cell [di k_, db k_', db k_'', db k_''', db k_'''', db k_''''', Ps.enc Z1 k_'''''', Ps.enc Z0 k_'''''''])), (4, rC tsNode n_), (7, rb (graph_kind_may_r6_p k_ k_' n_ in_))], [], [], 106⟩
theorem graph_kind_may_r6 : R2 C2.r.r.r.r.l.b.r.e.r.e (S2_4 k_ k_' k_'' k_''' k_'''' k_''''' k_'''''' k_''''''' n_ in_) q = q .normal (S2_7 k_ k_' k_'' k_''' k_'''' k_''''' k_'''''' k_''''''' n_ in_) := Eq.trans (by (rcases k_'''''' with (_ | _ | _ | _ | _ | _ | _ | _ | _) <;> rcases k_''''''' with (_ | _ | _ | _ | _ | _) <;> kernel_rfl)) (graph_kind_may_r6_n k_ k_' n_ in_ (fun y91 : Bool => q .normal ⟨[(3, .one (.cell [di k_, db k_', db k_'', db k_''', db k_'''', db k_''''', Ps.enc Z1 k_'''''', Ps.enc Z0 k_'''''''])), (4, rC tsNode n_), (7, rb y91)], [], [], 106⟩))
def graph_kind_may_j7_q (K : Bool → β) : β := (bif k_'' then (K (graph_kind_may_r8_p k_ k_' n_ in_)) else (bif k_''' then (K (graph_kind_may_r10_p k_ k_' n_ in_)) else (K (graph_kind_may_r6_p k_ k_' n_ in_))))
def graph_kind_may_j7_p : Bool := graph_kind_may_j7_q k_ k_' k_'' k_''' n_ in_ (fun y => y)
theorem graph_kind_may_j7_n (K : Bool → β) : graph_kind_may_j7_q k_ k_' k_'' k_''' n_ in_ K = K (graph_kind_may_j7_p k_ k_' k_'' k_''' n_ in_) := (bif_k K rfl (bif_k K rfl rfl))
abbrev S2_8 : St := ⟨[(3, .one (.cell [di k_, db k_', db k_'', db k_''', db k_'''', db k_''''', Ps.enc Z1 k_'''''', Ps.enc Z0 k_'''''''])), (4, rC tsNode n_), (7, rb (graph_kind_may_j7_p k_ k_' k_'' k_''' n_ in_))], [], [], 106⟩
theorem graph_kind_may_j7 : R2 C2.r.r.r.r.l (S2_4 k_ k_' k_'' k_''' k_'''' k_''''' k_'''''' k_''''''' n_ in_) (Q2 C2.r.r.r.r.r q) = R2 C2.r.r.r.r.r (S2_8 k_ k_' k_'' k_''' k_'''' k_''''' k_'''''' k_''''''' n_ in_) q := by
  refine Eq.trans ?_ (graph_kind_may_j7_n k_ k_' k_'' k_''' n_ in_ (fun y92 : Bool => R2 C2.r.r.r.r.r ⟨[(3, .one (.cell [di k_, db k_', db k_'', db k_''', db k_'''', db k_''''', Ps.enc Z1 k_'''''', Ps.enc Z0 k_'''''''])), (4, rC tsNode n_), (7, rb y92)], [], [], 106⟩ q))
  unfold graph_kind_may_j7_q
  refine (block_push (id := 0)).trans ?_
  refine (pre1 (graph_kind_may_f1000008 k_ k_' k_'' k_''' k_'''' k_''''' k_'''''' k_''''''' n_ in_ _)).trans ?_
  refine (cond_e (b := k_'') (st' := (S2_4 k_ k_' k_'' k_''' k_'''' k_''''' k_'''''' k_''''''' n_ in_)) (hs := by (rcases k_'''''' with (_ | _ | _ | _ | _ | _ | _ | _ | _) <;> rcases k_''''''' with (_ | _ | _ | _ | _ | _) <;> kernel_rfl))).trans (bif_g ?_ ?_)
  · refine (graph_kind_may_r8 k_ k_' k_'' k_''' k_'''' k_''''' k_'''''' k_''''''' n_ in_ _).trans ?_
    refine block_normal.trans ?_
    refine (seqC_normal (st' := (S2_5 k_ k_' k_'' k_''' k_'''' k_''''' k_'''''' k_''''''' n_ in_)) (hs := by (rcases k_'''''' with (_ | _ | _ | _ | _ | _ | _ | _ | _) <;> rcases k_''''''' with (_ | _ | _ | _ | _ | _) <;> kernel_rfl))).trans ?_
    (rcases k_'''''' with (_ | _ | _ | _ | _ | _ | _ | _ | _) <;> rcases k_''''''' with (_ | _ | _ | _ | _ | _) <;> kernel_rfl)
  · refine (pre1 (graph_kind_may_f1000010 k_ k_' k_'' k_''' k_'''' k_''''' k_'''''' k_''''''' n_ in_ _)).trans ?_
    refine (cond_e (b := k_''') (st' := (S2_4 k_ k_' k_'' k_''' k_'''' k_''''' k_'''''' k_''''''' n_ in_)) (hs := by (rcases k_'''''' with (_ | _ | _ | _ | _ | _ | _ | _ | _) <;> rcases k_''''''' with (_ | _ | _ | _ | _ | _) <;> kernel_rfl))).trans (bif_g ?_ ?_)
    · refine (graph_kind_may_r10 k_ k_' k_'' k_''' k_'''' k_''''' k_'''''' k_''''''' n_ in_ _).trans ?_
      refine block_normal.trans ?_
      refine (seqC_normal (st' := (S2_6 k_ k_' k_'' k_''' k_'''' k_''''' k_'''''' k_''''''' n_ in_)) (hs := by (rcases k_'''''' with (_ | _ | _ | _ | _ | _ | _ | _ | _) <;> rcases k_''''''' with (_ | _ | _ | _ | _ | _) <;> kernel_rfl))).trans ?_
      (rcases k_'''''' with (_ | _ | _ | _ | _ | _ | _ | _ | _) <;> rcases k_''''''' with (_ | _ | _ | _ | _ | _) <;> kernel_rfl)
    · refine (graph_kind_may_r6 k_ k_' k_'' k_''' k_'''' k_''''' k_'''''' k_''''''' n_ in_ _).trans ?_
      refine block_normal.trans ?_
      refine (seqC_normal (st' := (S2_7 k_ k_' k_'' k_''' k_'''' k_''''' k_'''''' k_''''''' n_ in_)) (hs := by (rcases k_'''''' with (_ | _ | _ | _ | _ | _ | _ | _ | _) <;> rcases k_''''''' with (_ | _ | _ | _ | _ | _) <;> kernel_rfl))).trans ?_
      (rcases k_'''''' with (_ | _ | _ | _ | _ | _ | _ | _ | _) <;> rcases k_''''''' with (_ | _ | _ | _ | _ | _) <;> kernel_rfl)
theorem graph_kind_may_f1000012 : P2 1 C2.r.r.r.r.r.l (S2_8 k_ k_' k_'' k_''' k_'''' k_''''' k_'''''' k_''''''' n_ in_) k = k ⟨[(4, rC tsNode n_), (7, rb (graph_kind_may_j7_p k_ k_' k_'' k_''' n_ in_)), (93, rb k_'''')], [], [], 106⟩ := by (rcases k_'''''' with (_ | _ | _ | _ | _ | _ | _ | _ | _) <;> rcases k_''''''' with (_ | _ | _ | _ | _ | _) <;> kernel_rfl)
def graph_kind_may_r12_q (K : Bool → β) : β := (bif (graph_kind_may_j7_p k_ k_' k_'' k_''' n_ in_) then (K (graph_within n_.2.2.2.2.2.1 (1 : Int) (8 : Int))) else (K false))
def graph_kind_may_r12_p : Bool := graph_kind_may_r12_q k_ k_' k_'' k_''' n_ in_ (fun y => y)
theorem graph_kind_may_r12_n (K : Bool → β) : graph_kind_may_r12_q k_ k_' k_'' k_''' n_ in_ K = K (graph_kind_may_r12_p k_ k_' k_'' k_''' n_ in_) := (bif_k K rfl rfl)
abbrev S2_9 : St := ⟨[(4, rC tsNode n_), (7, rb (graph_kind_may_j7_p k_ k_' k_'' k_''' n_ in_))], [], [], 106⟩
theorem graph_kind_may_r12 : P2 1 C2.r.r.r.r.r.l.r.t (S2_9 k_ k_' k_'' k_''' n_ in_) k = k ⟨[(6, rb (graph_kind_may_r12_p k_ k_' k_'' k_''' n_ in_))], [], [], 106⟩ := Eq.trans (by kernel_rfl) (graph_kind_may_r12_n k_ k_' k_'' k_''' n_ in_ (fun y94 : Bool => k ⟨[(6, rb y94)], [], [], 106⟩))
def graph_kind_may_r13_q (K : Bool → β) : β := (bif (graph_kind_may_j7_p k_ k_' k_'' k_''' n_ in_) then (K (n_.2.2.2.2.2.1 == 0)) else (K false))
def graph_kind_may_r13_p : Bool := graph_kind_may_r13_q k_ k_' k_'' k_''' n_ in_ (fun y => y)
theorem graph_kind_may_r13_n (K : Bool → β) : graph_kind_may_r13_q k_ k_' k_'' k_''' n_ in_ K = K (graph_kind_may_r13_p k_ k_' k_'' k_''' n_ in_) := (bif_k K rfl rfl)
theorem graph_kind_may_r13 : P2 1 C2.r.r.r.r.r.r (S2_9 k_ k_' k_'' k_''' n_ in_) k = k ⟨[(6, rb (graph_kind_may_r13_p k_ k_' k_'' k_''' n_ in_))], [], [], 106⟩ := Eq.trans (by kernel_rfl) (graph_kind_may_r13_n k_ k_' k_'' k_''' n_ in_ (fun y95 : Bool => k ⟨[(6, rb y95)], [], [], 106⟩))
/-- (quilt/graph.kind).may -/
def graph_kind_may_q {β : Type} (k_ : Int) (k_' : Bool) (k_'' : Bool) (k_''' : Bool) (k_'''' : Bool) (k_''''' : Bool) (k_'''''' : U3) (k_''''''' : U0) (n_ : Node) (in_ : (List I4)) (K : Bool → β) : β := (bif k_'''' then (K (graph_kind_may_r12_p k_ k_' k_'' k_''' n_ in_)) else (K (graph_kind_may_r13_p k_ k_' k_'' k_''' n_ in_)))
def graph_kind_may : Bool := graph_kind_may_q k_ k_' k_'' k_''' k_'''' k_''''' k_'''''' k_''''''' n_ in_ (fun y => y)
theorem graph_kind_may_n (K : Bool → β) : graph_kind_may_q k_ k_' k_'' k_''' k_'''' k_''''' k_'''''' k_''''''' n_ in_ K = K (graph_kind_may k_ k_' k_'' k_''' k_'''' k_''''' k_'''''' k_''''''' n_ in_) := (bif_k K rfl rfl)
theorem graph_kind_may_is : stepS E cp2 noE 23 [.agg [di k_, db k_', db k_'', db k_''', db k_'''', db k_''''', Ps.enc Z1 k_'''''', Ps.enc Z0 k_'''''''], rA tsNode n_, rl tsI4 in_] = (fun y : Bool => some (rb y : R)) (graph_kind_may k_ k_' k_'' k_''' k_'''' k_''''' k_'''''' k_''''''' n_ in_) := by
  refine Eq.trans ?_ (graph_kind_may_n k_ k_' k_'' k_''' k_'''' k_''''' k_'''''' k_''''''' n_ in_ (fun y : Bool => some (rb y : R)))
  refine (stepG_is (nt := 106) (regs := [(0, .agg [di k_, db k_', db k_'', db k_''', db k_'''', db k_''''', Ps.enc Z1 k_'''''', Ps.enc Z0 k_''''''']), (1, rA tsNode n_), (2, rl tsI4 in_)]) (by (rcases k_'''''' with (_ | _ | _ | _ | _ | _ | _ | _ | _) <;> rcases k_''''''' with (_ | _ | _ | _ | _ | _) <;> kernel_rfl)) (by (rcases k_'''''' with (_ | _ | _ | _ | _ | _ | _ | _ | _) <;> rcases k_''''''' with (_ | _ | _ | _ | _ | _) <;> kernel_rfl))).trans ?_
  unfold graph_kind_may_q
  refine (pre2 (graph_kind_may_r1 k_ k_' k_'' k_''' k_'''' k_''''' k_'''''' k_''''''' n_ in_ _)).trans ?_
  refine (pre1 (graph_kind_may_r2 k_ k_' k_'' k_''' k_'''' k_''''' k_'''''' k_''''''' n_ in_ _)).trans ?_
  refine .trans seq_push ?_
  refine (graph_kind_may_j3 k_ k_' k_'' k_''' k_'''' k_''''' k_'''''' k_''''''' n_ in_ _).trans ?_
  refine .trans seq_push ?_
  refine (graph_kind_may_j7 k_ k_' k_'' k_''' k_'''' k_''''' k_'''''' k_''''''' n_ in_ _).trans ?_
  refine .trans seq_push ?_
  refine (pre1 (graph_kind_may_f1000012 k_ k_' k_'' k_''' k_'''' k_''''' k_'''''' k_''''''' n_ in_ _)).trans ?_
  refine (cond_e (b := k_'''') (st' := (S2_9 k_ k_' k_'' k_''' n_ in_)) (hs := by (rcases k_'''''' with (_ | _ | _ | _ | _ | _ | _ | _ | _) <;> rcases k_''''''' with (_ | _ | _ | _ | _ | _) <;> kernel_rfl))).trans (bif_g ?_ ?_)
  · refine (pre1 (graph_kind_may_r12 k_ k_' k_'' k_''' n_ in_ _)).trans ?_
    refine (ret_eq).trans ?_
    refine seqC_ret.trans ?_
    (rcases k_'''''' with (_ | _ | _ | _ | _ | _ | _ | _ | _) <;> rcases k_''''''' with (_ | _ | _ | _ | _ | _) <;> kernel_rfl)
  · refine (skip_eq).trans ?_
    refine (seqC_normal (st' := (S2_9 k_ k_' k_'' k_''' n_ in_)) (hs := by (rcases k_'''''' with (_ | _ | _ | _ | _ | _ | _ | _ | _) <;> rcases k_''''''' with (_ | _ | _ | _ | _ | _) <;> kernel_rfl))).trans ?_
    refine (pre1 (graph_kind_may_r13 k_ k_' k_'' k_''' n_ in_ _)).trans ?_
    refine (ret_eq).trans ?_
    (rcases k_'''''' with (_ | _ | _ | _ | _ | _ | _ | _ | _) <;> rcases k_''''''' with (_ | _ | _ | _ | _ | _) <;> kernel_rfl)
noncomputable def cp3 : CallP := withC cp2 23 [(.aggs Z4), (.agg tsNode), (pL tsI4)] (.one pB) (fun y : Bool => y) (fun x => some (graph_kind_may x.1.1 x.1.2.1 x.1.2.2.1 x.1.2.2.2.1 x.1.2.2.2.2.1 x.1.2.2.2.2.2.1 x.1.2.2.2.2.2.2.1 x.1.2.2.2.2.2.2.2.1 x.2.1 x.2.2.1))
theorem cp3_ok : PureOK E cp3 := conS eok cp2_ok noE_ok fun x => Eq.mp (by kernel_rfl) (graph_kind_may_is x.1.1 x.1.2.1 x.1.2.2.1 x.1.2.2.2.1 x.1.2.2.2.2.1 x.1.2.2.2.2.2.1 x.1.2.2.2.2.2.2.1 x.1.2.2.2.2.2.2.2.1 x.2.1 x.2.2.1)
end
section
variable {α β : Type} (v_ : I4) (c1_ : Node) (k : St → Option α)
noncomputable abbrev C3 := codeOf E.P 25
noncomputable abbrev P3 := @preK α E 25 cp3 noE
theorem graph_Value_1_fz : P3 2 C3 ⟨[(0, rA tsI4 v_), (1, rC tsNode c1_)], [], [], 9⟩ k = k ⟨[(3, rb (v_.2.2.2 != c1_.2.2.2.2.2.2.2.2.1))], [], [], 9⟩ := by kernel_rfl
/-- quilt/graph.Value$1 -/
def graph_Value_1_q (K : Bool → β) : β := (K (v_.2.2.2 != c1_.2.2.2.2.2.2.2.2.1))
def graph_Value_1 : Bool := graph_Value_1_q v_ c1_ (fun y => y)
theorem graph_Value_1_n (K : Bool → β) : graph_Value_1_q v_ c1_ K = K (graph_Value_1 v_ c1_) := rfl
theorem graph_Value_1_is : stepS E cp3 noE 25 [rA tsI4 v_, rC tsNode c1_] = (fun y : Bool => some (rb y : R)) (graph_Value_1 v_ c1_) := by
  refine Eq.trans ?_ (graph_Value_1_n v_ c1_ (fun y : Bool => some (rb y : R)))
  refine (stepG_is (nt := 9) (regs := [(0, rA tsI4 v_), (1, rC tsNode c1_)])).trans ?_
  unfold graph_Value_1_q
  refine (pre2 (graph_Value_1_fz v_ c1_ _)).trans ?_
  refine (ret_eq).trans ?_
  kernel_rfl
noncomputable def cp4 : CallP := withC cp3 25 [(.agg tsI4), (.one Z3)] (.one pB) (fun y : Bool => y) (fun x => some (graph_Value_1 x.1 (x.2.1.1, x.2.1.2.1, x.2.1.2.2.1, x.2.1.2.2.2.1, x.2.1.2.2.2.2.1, x.2.1.2.2.2.2.2.1, x.2.1.2.2.2.2.2.2.1, x.2.1.2.2.2.2.2.2.2.1, x.2.1.2.2.2.2.2.2.2.2.1, x.2.1.2.2.2.2.2.2.2.2.2.1, x.2.1.2.2.2.2.2.2.2.2.2.2.1, x.2.1.2.2.2.2.2.2.2.2.2.2.2.1, x.2.1.2.2.2.2.2.2.2.2.2.2.2.2.1, x.2.1.2.2.2.2.2.2.2.2.2.2.2.2.2.1)))
theorem cp4_ok : PureOK E cp4 := conS eok cp3_ok noE_ok fun x => Eq.mp (by kernel_rfl) (graph_Value_1_is x.1 (x.2.1.1, x.2.1.2.1, x.2.1.2.2.1, x.2.1.2.2.2.1, x.2.1.2.2.2.2.1, x.2.1.2.2.2.2.2.1, x.2.1.2.2.2.2.2.2.1, x.2.1.2.2.2.2.2.2.2.1, x.2.1.2.2.2.2.2.2.2.2.1, x.2.1.2.2.2.2.2.2.2.2.2.1, x.2.1.2.2.2.2.2.2.2.2.2.2.1, x.2.1.2.2.2.2.2.2.2.2.2.2.2.1, x.2.1.2.2.2.2.2.2.2.2.2.2.2.2.1, x.2.1.2.2.2.2.2.2.2.2.2.2.2.2.2.1))
end
section
variable {α : Type} (s_ : (List I4)) (f_ : Node) (s109 : Int) (k : St → Option α) (q : Kont α)
noncomputable abbrev C4 := codeOf E.P 63
noncomputable abbrev P4 := @preK α E 63 cp4 noE
noncomputable abbrev R4 := @runCode α E 63 cp4 noE
abbrev S4_0 : St := ⟨[(0, rl tsI4 s_), (1, .one (.fn 25 [.cell (tsNode.leaves f_)]))], [], [], 19⟩
theorem slices_IndexFuncapi_Value_api_Value_f1 : P4 1 C4 (S4_0 s_ f_) k = k (S4_0 s_ f_) := by kernel_rfl
abbrev S4_1 : St := ⟨[(0, rl tsI4 s_), (1, .one (.fn 25 [.cell (tsNode.leaves f_)])), (7, ri (s_.length : Int)), (8, ri 0)], [], [], 19⟩
theorem slices_IndexFuncapi_Value_api_Value_f2 : P4 1 C4.r.l (S4_0 s_ f_) k = k (S4_1 s_ f_) := by kernel_rfl
abbrev S4_2 : St := ⟨[(0, rl tsI4 s_), (1, .one (.fn 25 [.cell (tsNode.leaves f_)])), (7, ri (s_.length : Int)), (8, ri s109)], [], [], 19⟩
theorem slices_IndexFuncapi_Value_api_Value_fz : P4 1 C4.r.l.r.b.b (S4_2 s_ f_ s109) k = k ⟨[(0, rl tsI4 s_), (1, .one (.fn 25 [.cell (tsNode.leaves f_)])), (7, ri (s_.length : Int)), (8, ri s109), (9, rb (decide (s109 < (s_.length : Int))))], [], [], 19⟩ := by kernel_rfl
def slices_IndexFuncapi_Value_api_Value_r4_p : Option Unit := (bif (decide ((0 : Int) ≤ s109)) then (bif (decide (s109 < (s_.length : Int))) then (some ()) else none) else none)
theorem slices_IndexFuncapi_Value_api_Value_r4 : P4 2 C4.r.l.r.b.b.r.r.l.b (S4_2 s_ f_ s109) k = Option.bind (slices_IndexFuncapi_Value_api_Value_r4_p s_ s109) (fun y111 : Unit => k ⟨[(0, rl tsI4 s_), (1, .one (.fn 25 [.cell (tsNode.leaves f_)])), (5, ri s109), (7, ri (s_.length : Int)), (8, ri s109), (16, rb (graph_Value_1 (gt s_ s109 dI4) f_))], [], [], 19⟩) := .trans (by kernel_rfl) (bif_b (bif_b some_b none_b) none_b)
abbrev S4_3 : St := ⟨[(0, rl tsI4 s_), (1, .one (.fn 25 [.cell (tsNode.leaves f_)])), (5, ri s109), (7, ri (s_.length : Int)), (8, ri s109)], [], [], 19⟩
theorem slices_IndexFuncapi_Value_api_Value_fzx1 : P4 1 C4.r.l.r.b.b.r.r.l.b.r.r.t (S4_3 s_ f_ s109) k = k ⟨[(4, ri s109)], [], [], 19⟩ := by kernel_rfl
theorem slices_IndexFuncapi_Value_api_Value_r6 : R4 C4.r.l.r.b.b.r.r.r (S4_2 s_ f_ s109) q = q .normal ⟨[(0, rl tsI4 s_), (1, .one (.fn 25 [.cell (tsNode.leaves f_)])), (7, ri (s_.length : Int)), (8, ri (IntKind.wrap .i64 (s109 + 1)))], [], [], 19⟩ := by kernel_rfl
def slices_IndexFuncapi_Value_api_Value_l2_p : Option (Int ⊕ (Int ⊕ Int)) := (bif (decide (s109 < (s_.length : Int))) then (Option.bind (slices_IndexFuncapi_Value_api_Value_r4_p s_ s109) (fun y111 : Unit => (bif (graph_Value_1 (gt s_ s109 dI4) f_) then (some (Sum.inr (Sum.inr s109))) else (some (Sum.inl (IntKind.wrap .i64 (s109 + 1))))))) else (some (Sum.inr (Sum.inl s109))))
abbrev S4_4 (y112 : Int) : St := ⟨[(0, rl tsI4 s_), (1, .one (.fn 25 [.cell (tsNode.leaves f_)])), (7, ri (s_.length : Int)), (8, ri y112)], [], [], 19⟩
theorem slices_IndexFuncapi_Value_api_Value_l2_b : R4 C4.r.l.r.b.b (S4_2 s_ f_ s109) (loopKont 0 q) = Option.bind (slices_IndexFuncapi_Value_api_Value_l2_p s_ f_ s109) (either (fun y : Int => q .normal ⟨[(0, rl tsI4 s_), (1, .one (.fn 25 [.cell (tsNode.leaves f_)])), (7, ri (s_.length : Int)), (8, ri y)], [], [], 19⟩) (either (fun y112 : Int => q (.exit 0) (S4_4 s_ f_ y112)) (fun y113 : Int => q .ret ⟨[(4, ri y113)], [], [], 19⟩))) := by
  refine .trans ?_ (bif_b (bind_b fun y111 => (bif_b e3_2 e3_0)) e3_1)
  refine (pre1 (slices_IndexFuncapi_Value_api_Value_fz s_ f_ s109 _)).trans ?_
  refine .trans seq_push ?_
  refine (cond_e (b := (decide (s109 < (s_.length : Int)))) (st' := (S4_2 s_ f_ s109)) ).trans (bif_g ?_ ?_)
  · refine (skip_eq).trans ?_
    refine (seqC_normal (st' := (S4_2 s_ f_ s109))).trans ?_
    refine .trans seq_push ?_
    refine (block_push (id := 1)).trans ?_
    refine (pre2 (slices_IndexFuncapi_Value_api_Value_r4 s_ f_ s109 _)).trans (bind_g fun y111 => ?_)
    refine (cond_e (b := (graph_Value_1 (gt s_ s109 dI4) f_)) (st' := (S4_3 s_ f_ s109)) ).trans (bif_g ?_ ?_)
    · refine (pre1 (slices_IndexFuncapi_Value_api_Value_fzx1 s_ f_ s109 _)).trans ?_
      refine (ret_eq).trans ?_
      refine block_ret.trans ?_
      refine seqC_ret.trans ?_
      kernel_rfl
    · refine (skip_eq).trans ?_
      refine block_normal.trans ?_
      refine (seqC_normal (st' := (S4_2 s_ f_ s109))).trans ?_
      refine (slices_IndexFuncapi_Value_api_Value_r6 s_ f_ s109 _).trans ?_
      kernel_rfl
  · refine ((exit_eq (j := 0))).trans ?_
    refine seqC_exit.trans ?_
    kernel_rfl
theorem slices_IndexFuncapi_Value_api_Value_l2 : R4 C4.r.l.r.b (S4_1 s_ f_) q = Option.bind (iterN (slices_IndexFuncapi_Value_api_Value_l2_p s_ f_) LL (0 : Int)) (either (fun y112 : Int => q (.exit 0) (S4_4 s_ f_ y112)) (fun y113 : Int => q .ret ⟨[(4, ri y113)], [], [], 19⟩)) :=
  Eq.trans (by kernel_rfl) (loop_iter2 (S := fun s109 : Int => (S4_2 s_ f_ s109)) (Y1 := fun y112 : Int => ((.exit 0), (S4_4 s_ f_ y112))) (Y2 := fun y113 : Int => (.ret, ⟨[(4, ri y113)], [], [], 19⟩)) (fun s q => slices_IndexFuncapi_Value_api_Value_l2_b s_ f_ s q) (fun z => rfl) (fun z => rfl) LL (0 : Int))
theorem slices_IndexFuncapi_Value_api_Value_fzx2 : P4 1 C4.r.r ⟨[], [], [], 19⟩ k = k ⟨[(4, ri (-1 : Int))], [], [], 19⟩ := by kernel_rfl
/-- slices.IndexFunc[[]quilt/api.Value,quilt/api.Value] -/
def slices_IndexFuncapi_Value_api_Value : Option Int := (Option.bind (iterN (slices_IndexFuncapi_Value_api_Value_l2_p s_ f_) LL (0 : Int)) (either (fun y112 : Int => (some (-1 : Int))) (fun y113 : Int => (some y113))))
theorem slices_IndexFuncapi_Value_api_Value_is : stepS E cp4 noE 63 [rl tsI4 s_, .one (.fn 25 [.cell (tsNode.leaves f_)])] = Option.bind (slices_IndexFuncapi_Value_api_Value s_ f_) (fun y : Int => some (ri y : R)) := by
  refine .trans ?_ (bind_b (either_b (fun y112 => some_b) (fun y113 => some_b)))
  refine (stepG_is (nt := 19) (regs := [(0, rl tsI4 s_), (1, .one (.fn 25 [.cell (tsNode.leaves f_)]))])).trans ?_
  refine (pre1 (slices_IndexFuncapi_Value_api_Value_f1 s_ f_ _)).trans ?_
  refine .trans seq_push ?_
  refine (pre1 (slices_IndexFuncapi_Value_api_Value_f2 s_ f_ _)).trans ?_
  refine (block_push (id := 0)).trans ?_
  refine (slices_IndexFuncapi_Value_api_Value_l2 s_ f_ _).trans (bind_g (either_g (fun y112 => ?_) (fun y113 => ?_)))
  · refine block_same.trans ?_
    refine (seqC_normal (st' := ⟨[], [], [], 19⟩)).trans ?_
    refine (pre1 (slices_IndexFuncapi_Value_api_Value_fzx2 _)).trans ?_
    refine (ret_eq).trans ?_
    kernel_rfl
  · refine block_ret.trans ?_
    refine seqC_ret.trans ?_
    kernel_rfl
noncomputable def cp5 : CallP := withC cp4 63 [(pL tsI4), (.one (.fn 25 (.cons Z3 .nil)))] (.one pI) (fun y : Int => y) (fun x => slices_IndexFuncapi_Value_api_Value x.1 (x.2.1.1.1, x.2.1.1.2.1, x.2.1.1.2.2.1, x.2.1.1.2.2.2.1, x.2.1.1.2.2.2.2.1, x.2.1.1.2.2.2.2.2.1, x.2.1.1.2.2.2.2.2.2.1, x.2.1.1.2.2.2.2.2.2.2.1, x.2.1.1.2.2.2.2.2.2.2.2.1, x.2.1.1.2.2.2.2.2.2.2.2.2.1, x.2.1.1.2.2.2.2.2.2.2.2.2.2.1, x.2.1.1.2.2.2.2.2.2.2.2.2.2.2.1, x.2.1.1.2.2.2.2.2.2.2.2.2.2.2.2.1, x.2.1.1.2.2.2.2.2.2.2.2.2.2.2.2.2.1))
theorem cp5_ok : PureOK E cp5 := conS eok cp4_ok noE_ok fun x => Eq.mp (by kernel_rfl) (slices_IndexFuncapi_Value_api_Value_is x.1 (x.2.1.1.1, x.2.1.1.2.1, x.2.1.1.2.2.1, x.2.1.1.2.2.2.1, x.2.1.1.2.2.2.2.1, x.2.1.1.2.2.2.2.2.1, x.2.1.1.2.2.2.2.2.2.1, x.2.1.1.2.2.2.2.2.2.2.1, x.2.1.1.2.2.2.2.2.2.2.2.1, x.2.1.1.2.2.2.2.2.2.2.2.2.1, x.2.1.1.2.2.2.2.2.2.2.2.2.2.1, x.2.1.1.2.2.2.2.2.2.2.2.2.2.2.1, x.2.1.1.2.2.2.2.2.2.2.2.2.2.2.2.1, x.2.1.1.2.2.2.2.2.2.2.2.2.2.2.2.2.1))
end
section
variable {α : Type} (s_ : (List I4)) (f_ : Node) (k : St → Option α)
noncomputable abbrev C5 := codeOf E.P 24
noncomputable abbrev P5 := @preK α E 24 cp5 noE
theorem slices_ContainsFuncapi_Value_api_Value_r1 : P5 2 C5 ⟨[(0, rl tsI4 s_), (1, .one (.fn 25 [.cell (tsNode.leaves f_)]))], [], [], 9⟩ k = Option.bind (slices_IndexFuncapi_Value_api_Value s_ f_) fun y114 : Int => k ⟨[(4, rb (decide (y114 ≥ 0)))], [], [], 9⟩ := by kernel_rfl
/-- slices.ContainsFunc[[]quilt/api.Value,quilt/api.Value] -/
def slices_ContainsFuncapi_Value_api_Value : Option Bool := (Option.bind (slices_IndexFuncapi_Value_api_Value s_ f_) (fun y114 : Int => (some (decide (y114 ≥ 0)))))
theorem slices_ContainsFuncapi_Value_api_Value_is : stepS E cp5 noE 24 [rl tsI4 s_, .one (.fn 25 [.cell (tsNode.leaves f_)])] = Option.bind (slices_ContainsFuncapi_Value_api_Value s_ f_) (fun y : Bool => some (rb y : R)) := by
  refine .trans ?_ (bind_b fun y114 => some_b)
  refine (stepG_is (nt := 9) (regs := [(0, rl tsI4 s_), (1, .one (.fn 25 [.cell (tsNode.leaves f_)]))])).trans ?_
  refine (pre2 (slices_ContainsFuncapi_Value_api_Value_r1 s_ f_ _)).trans (bind_g fun y114 => ?_)
  refine (ret_eq).trans ?_
  kernel_rfl
noncomputable def cp6 : CallP := withC cp5 24 [(pL tsI4), (.one (.fn 25 (.cons Z3 .nil)))] (.one pB) (fun y : Bool => y) (fun x => slices_ContainsFuncapi_Value_api_Value x.1 (x.2.1.1.1, x.2.1.1.2.1, x.2.1.1.2.2.1, x.2.1.1.2.2.2.1, x.2.1.1.2.2.2.2.1, x.2.1.1.2.2.2.2.2.1, x.2.1.1.2.2.2.2.2.2.1, x.2.1.1.2.2.2.2.2.2.2.1, x.2.1.1.2.2.2.2.2.2.2.2.1, x.2.1.1.2.2.2.2.2.2.2.2.2.1, x.2.1.1.2.2.2.2.2.2.2.2.2.2.1, x.2.1.1.2.2.2.2.2.2.2.2.2.2.2.1, x.2.1.1.2.2.2.2.2.2.2.2.2.2.2.2.1, x.2.1.1.2.2.2.2.2.2.2.2.2.2.2.2.2.1))
theorem cp6_ok : PureOK E cp6 := conS eok cp5_ok noE_ok fun x => Eq.mp (by kernel_rfl) (slices_ContainsFuncapi_Value_api_Value_is x.1 (x.2.1.1.1, x.2.1.1.2.1, x.2.1.1.2.2.1, x.2.1.1.2.2.2.1, x.2.1.1.2.2.2.2.1, x.2.1.1.2.2.2.2.2.1, x.2.1.1.2.2.2.2.2.2.1, x.2.1.1.2.2.2.2.2.2.2.1, x.2.1.1.2.2.2.2.2.2.2.2.1, x.2.1.1.2.2.2.2.2.2.2.2.2.1, x.2.1.1.2.2.2.2.2.2.2.2.2.2.1, x.2.1.1.2.2.2.2.2.2.2.2.2.2.2.1, x.2.1.1.2.2.2.2.2.2.2.2.2.2.2.2.1, x.2.1.1.2.2.2.2.2.2.2.2.2.2.2.2.2.1))
end
section
variable {α β : Type} (low : Int) (high : Int) (k : St → Option α)
noncomputable abbrev C6 := codeOf E.P 72
noncomputable abbrev P6 := @preK α E 72 cp6 noE
theorem shape_within_fz : P6 2 C6 ⟨[(0, ri low), (1, ri high)], [], [], 6⟩ k = k ⟨[(4, .one (.fn 73 [.cell [di low], .cell [di high]]))], [], [], 6⟩ := by kernel_rfl
/-- quilt/shape.within -/
def shape_within_q (K : ((Int × Unit) × (Int × Unit) × Unit) → β) : β := (K ((low, ()), (high, ()), ()))
def shape_within : ((Int × Unit) × (Int × Unit) × Unit) := shape_within_q low high (fun y => y)
theorem shape_within_n (K : ((Int × Unit) × (Int × Unit) × Unit) → β) : shape_within_q low high K = K (shape_within low high) := rfl
theorem shape_within_is : stepS E cp6 noE 72 [ri low, ri high] = (fun y : ((Int × Unit) × (Int × Unit) × Unit) => some (.one (.fn 73 [.cell [di y.1.1], .cell [di y.2.1.1]]) : R)) (shape_within low high) := by
  refine Eq.trans ?_ (shape_within_n low high (fun y : ((Int × Unit) × (Int × Unit) × Unit) => some (.one (.fn 73 [.cell [di y.1.1], .cell [di y.2.1.1]]) : R)))
  refine (stepG_is (nt := 6) (regs := [(0, ri low), (1, ri high)])).trans ?_
  unfold shape_within_q
  refine (pre2 (shape_within_fz low high _)).trans ?_
  refine (ret_eq).trans ?_
  kernel_rfl
noncomputable def cp7 : CallP := withC cp6 72 [pI, pI] (.one (.one (.fn 73 (.cons (.cell (.cons (.g (.int .i64)) .nil)) (.cons (.cell (.cons (.g (.int .i64)) .nil)) .nil))))) (fun y : ((Int × Unit) × (Int × Unit) × Unit) => y) (fun x => some (shape_within x.1 x.2.1))
theorem cp7_ok : PureOK E cp7 := conS eok cp6_ok noE_ok fun x => Eq.mp (by kernel_rfl) (shape_within_is x.1 x.2.1)
end
section
variable {α β : Type} (l_ : (List Int)) (c1_ : Int) (c2_ : Int) (s137 : Int) (k : St → Option α) (q : Kont α)
noncomputable abbrev C7 := codeOf E.P 73
noncomputable abbrev P7 := @preK α E 73 cp7 noE
noncomputable abbrev R7 := @runCode α E 73 cp7 noE
abbrev S7_0 : St := ⟨[(0, rl (.one (.int .i64)) l_), (1, .one (.cell [di c1_])), (2, .one (.cell [di c2_]))], [], [], 22⟩
theorem shape_within_1_f1 : P7 1 C7 (S7_0 l_ c1_ c2_) k = k (S7_0 l_ c1_ c2_) := by kernel_rfl
abbrev S7_1 : St := ⟨[(1, .one (.cell [di c1_])), (2, .one (.cell [di c2_])), (7, rl (.one (.int .i64)) l_), (8, ri (l_.length : Int)), (9, ri 0)], [], [], 22⟩
theorem shape_within_1_f2 : P7 1 C7.r.l (S7_0 l_ c1_ c2_) k = k (S7_1 l_ c1_ c2_) := by kernel_rfl
abbrev S7_2 : St := ⟨[(1, .one (.cell [di c1_])), (2, .one (.cell [di c2_])), (7, rl (.one (.int .i64)) l_), (8, ri (l_.length : Int)), (9, ri s137)], [], [], 22⟩
theorem shape_within_1_fz : P7 1 C7.r.l.r.b.b (S7_2 l_ c1_ c2_ s137) k = k ⟨[(1, .one (.cell [di c1_])), (2, .one (.cell [di c2_])), (7, rl (.one (.int .i64)) l_), (8, ri (l_.length : Int)), (9, ri s137), (10, rb (decide (s137 < (l_.length : Int))))], [], [], 22⟩ := by kernel_rfl
def shape_within_1_r3_p : Option Unit := (bif (decide ((0 : Int) ≤ s137)) then (bif (decide (s137 < (l_.length : Int))) then (some ()) else none) else none)
abbrev S7_3 : St := ⟨[(1, .one (.cell [di c1_])), (2, .one (.cell [di c2_])), (6, ri (gt l_ s137 (0 : Int))), (7, rl (.one (.int .i64)) l_), (8, ri (l_.length : Int)), (9, ri s137)], [], [], 22⟩
theorem shape_within_1_r3 : P7 1 C7.r.l.r.b.b.r.r.l.b (S7_2 l_ c1_ c2_ s137) k = Option.bind (shape_within_1_r3_p l_ s137) (fun y140 : Unit => k (S7_3 l_ c1_ c2_ s137)) := .trans (by kernel_rfl) (bif_b (bif_b some_b none_b) none_b)
def shape_within_1_r4_q (K : Bool → β) : β := (bif (decide ((gt l_ s137 (0 : Int)) < c1_)) then (K true) else (K (decide ((gt l_ s137 (0 : Int)) > c2_))))
def shape_within_1_r4_p : Bool := shape_within_1_r4_q l_ c1_ c2_ s137 (fun y => y)
theorem shape_within_1_r4_n (K : Bool → β) : shape_within_1_r4_q l_ c1_ c2_ s137 K = K (shape_within_1_r4_p l_ c1_ c2_ s137) := (bif_k K rfl rfl)
theorem shape_within_1_r4 : P7 1 C7.r.l.r.b.b.r.r.l.b.r (S7_3 l_ c1_ c2_ s137) k = k ⟨[(1, .one (.cell [di c1_])), (2, .one (.cell [di c2_])), (7, rl (.one (.int .i64)) l_), (8, ri (l_.length : Int)), (9, ri s137), (20, rb (shape_within_1_r4_p l_ c1_ c2_ s137))], [], [], 22⟩ := Eq.trans (by kernel_rfl) (shape_within_1_r4_n l_ c1_ c2_ s137 (fun y141 : Bool => k ⟨[(1, .one (.cell [di c1_])), (2, .one (.cell [di c2_])), (7, rl (.one (.int .i64)) l_), (8, ri (l_.length : Int)), (9, ri s137), (20, rb y141)], [], [], 22⟩))
abbrev S7_4 : St := ⟨[(4, rb false)], [], [], 22⟩
theorem shape_within_1_fzx1 : P7 1 C7.r.l.r.b.b.r.r.l.b.r.r.t (S7_2 l_ c1_ c2_ s137) k = k S7_4 := by kernel_rfl
theorem shape_within_1_r6 : R7 C7.r.l.r.b.b.r.r.r (S7_2 l_ c1_ c2_ s137) q = q .normal ⟨[(1, .one (.cell [di c1_])), (2, .one (.cell [di c2_])), (7, rl (.one (.int .i64)) l_), (8, ri (l_.length : Int)), (9, ri (IntKind.wrap .i64 (s137 + 1)))], [], [], 22⟩ := by kernel_rfl
def shape_within_1_l2_p : Option (Int ⊕ (Int ⊕ Unit)) := (bif (decide (s137 < (l_.length : Int))) then (Option.bind (shape_within_1_r3_p l_ s137) (fun y140 : Unit => (bif (shape_within_1_r4_p l_ c1_ c2_ s137) then (some (Sum.inr (Sum.inr ()))) else (some (Sum.inl (IntKind.wrap .i64 (s137 + 1))))))) else (some (Sum.inr (Sum.inl s137))))
abbrev S7_5 (y142 : Int) : St := ⟨[(1, .one (.cell [di c1_])), (2, .one (.cell [di c2_])), (7, rl (.one (.int .i64)) l_), (8, ri (l_.length : Int)), (9, ri y142)], [], [], 22⟩
theorem shape_within_1_l2_b : R7 C7.r.l.r.b.b (S7_2 l_ c1_ c2_ s137) (loopKont 0 q) = Option.bind (shape_within_1_l2_p l_ c1_ c2_ s137) (either (fun y : Int => q .normal ⟨[(1, .one (.cell [di c1_])), (2, .one (.cell [di c2_])), (7, rl (.one (.int .i64)) l_), (8, ri (l_.length : Int)), (9, ri y)], [], [], 22⟩) (either (fun y142 : Int => q (.exit 0) (S7_5 l_ c1_ c2_ y142)) (fun y143 : Unit => q .ret S7_4))) := by
  refine .trans ?_ (bif_b (bind_b fun y140 => (bif_b e3_2 e3_0)) e3_1)
  refine (pre1 (shape_within_1_fz l_ c1_ c2_ s137 _)).trans ?_
  refine .trans seq_push ?_
  refine (cond_e (b := (decide (s137 < (l_.length : Int)))) (st' := (S7_2 l_ c1_ c2_ s137)) ).trans (bif_g ?_ ?_)
  · refine (skip_eq).trans ?_
    refine (seqC_normal (st' := (S7_2 l_ c1_ c2_ s137))).trans ?_
    refine .trans seq_push ?_
    refine (block_push (id := 1)).trans ?_
    refine (pre1 (shape_within_1_r3 l_ c1_ c2_ s137 _)).trans (bind_g fun y140 => ?_)
    refine (pre1 (shape_within_1_r4 l_ c1_ c2_ s137 _)).trans ?_
    refine (cond_e (b := (shape_within_1_r4_p l_ c1_ c2_ s137)) (st' := (S7_2 l_ c1_ c2_ s137)) ).trans (bif_g ?_ ?_)
    · refine (pre1 (shape_within_1_fzx1 l_ c1_ c2_ s137 _)).trans ?_
      refine (ret_eq).trans ?_
      refine block_ret.trans ?_
      refine seqC_ret.trans ?_
      kernel_rfl
    · refine (skip_eq).trans ?_
      refine block_normal.trans ?_
      refine (seqC_normal (st' := (S7_2 l_ c1_ c2_ s137))).trans ?_
      refine (shape_within_1_r6 l_ c1_ c2_ s137 _).trans ?_
      kernel_rfl
  · refine ((exit_eq (j := 0))).trans ?_
    refine seqC_exit.trans ?_
    kernel_rfl
theorem shape_within_1_l2 : R7 C7.r.l.r.b (S7_1 l_ c1_ c2_) q = Option.bind (iterN (shape_within_1_l2_p l_ c1_ c2_) LL (0 : Int)) (either (fun y142 : Int => q (.exit 0) (S7_5 l_ c1_ c2_ y142)) (fun y143 : Unit => q .ret S7_4)) :=
  Eq.trans (by kernel_rfl) (loop_iter2 (S := fun s137 : Int => (S7_2 l_ c1_ c2_ s137)) (Y1 := fun y142 : Int => ((.exit 0), (S7_5 l_ c1_ c2_ y142))) (Y2 := fun y143 : Unit => (.ret, S7_4)) (fun s q => shape_within_1_l2_b l_ c1_ c2_ s q) (fun z => rfl) (fun z => rfl) LL (0 : Int))
theorem shape_within_1_fzx2 : P7 1 C7.r.r ⟨[], [], [], 22⟩ k = k ⟨[(4, rb true)], [], [], 22⟩ := by kernel_rfl
/-- quilt/shape.within$1 -/
def shape_within_1 : Option Bool := (Option.bind (iterN (shape_within_1_l2_p l_ c1_ c2_) LL (0 : Int)) (either (fun y142 : Int => (some true)) (fun y143 : Unit => (some false))))
theorem shape_within_1_is : stepS E cp7 noE 73 [rl (.one (.int .i64)) l_, .one (.cell [di c1_]), .one (.cell [di c2_])] = Option.bind (shape_within_1 l_ c1_ c2_) (fun y : Bool => some (rb y : R)) := by
  refine .trans ?_ (bind_b (either_b (fun y142 => some_b) (fun y143 => some_b)))
  refine (stepG_is (nt := 22) (regs := [(0, rl (.one (.int .i64)) l_), (1, .one (.cell [di c1_])), (2, .one (.cell [di c2_]))])).trans ?_
  refine (pre1 (shape_within_1_f1 l_ c1_ c2_ _)).trans ?_
  refine .trans seq_push ?_
  refine (pre1 (shape_within_1_f2 l_ c1_ c2_ _)).trans ?_
  refine (block_push (id := 0)).trans ?_
  refine (shape_within_1_l2 l_ c1_ c2_ _).trans (bind_g (either_g (fun y142 => ?_) (fun y143 => ?_)))
  · refine block_same.trans ?_
    refine (seqC_normal (st' := ⟨[], [], [], 22⟩)).trans ?_
    refine (pre1 (shape_within_1_fzx2 _)).trans ?_
    refine (ret_eq).trans ?_
    kernel_rfl
  · refine block_ret.trans ?_
    refine seqC_ret.trans ?_
    kernel_rfl
noncomputable def cp8 : CallP := withC cp7 73 [(.one (.g (.sl (.one (.int .i64))))), (.one (.cell (.cons (.g (.int .i64)) .nil))), (.one (.cell (.cons (.g (.int .i64)) .nil)))] (.one pB) (fun y : Bool => y) (fun x => shape_within_1 x.1 x.2.1.1 x.2.2.1.1)
theorem cp8_ok : PureOK E cp8 := conS eok cp7_ok noE_ok fun x => Eq.mp (by kernel_rfl) (shape_within_1_is x.1 x.2.1.1 x.2.2.1.1)
end
noncomputable abbrev C8 := codeOf E.P 64
noncomputable abbrev P8 {α : Type} := @preK α E 64 cp8 noE
def shape_may_r1_p (s_ : I3) : Option Bool := (Option.bind (shape_within_1 [s_.1, s_.2.1] (((shape_within (1 : Int) (16 : Int)).1).1) (((shape_within (1 : Int) (16 : Int)).2.1).1)) (fun y144 : Bool => (bif y144 then (Option.bind (shape_within_1 [s_.2.2] (((shape_within (1 : Int) (8 : Int)).1).1) (((shape_within (1 : Int) (8 : Int)).2.1).1)) (fun y145 : Bool => (some y145))) else (some false))))
theorem shape_may_r1 {α : Type} (s_ : I3) (k : St → Option α) : P8 2 C8 ⟨[(0, rA tsI3 s_)], [], [], 17⟩ k = Option.bind (shape_may_r1_p s_) (fun y146 : Bool => k ⟨[(2, rb y146)], [], [], 17⟩) := .trans (by kernel_rfl) (bind_b fun y144 => (bif_b (bind_b fun y145 => some_b) some_b))
/-- quilt/shape.may -/
def shape_may (s_ : I3) : Option Bool := (Option.bind (shape_may_r1_p s_) (fun y146 : Bool => (some y146)))
theorem shape_may_is (s_ : I3) : stepS E cp8 noE 64 [rA tsI3 s_] = Option.bind (shape_may s_) (fun y : Bool => some (rb y : R)) := by
  refine .trans ?_ (bind_b fun y146 => some_b)
  refine (stepG_is (nt := 17) (regs := [(0, rA tsI3 s_)])).trans ?_
  refine (pre2 (shape_may_r1 s_ _)).trans (bind_g fun y146 => ?_)
  refine (ret_eq).trans ?_
  kernel_rfl
noncomputable def cp9 : CallP := withC cp8 64 [(.agg tsI3)] (.one pB) (fun y : Bool => y) (fun x => shape_may x.1)
theorem cp9_ok : PureOK E cp9 := conS eok cp8_ok noE_ok fun x => Eq.mp (by kernel_rfl) (shape_may_is x.1)
noncomputable abbrev C9 := codeOf E.P 27
noncomputable abbrev P9 {α : Type} := @preK α E 27 cp9 noE
theorem shape_May_f1 {α : Type} (s_ : I3) (k : St → Option α) : P9 1 C9 ⟨[(0, rA tsI3 s_)], [], [], 6⟩ k = k ⟨[(1, rC tsI3 s_)], [], [], 6⟩ := by kernel_rfl
theorem shape_May_r1 {α : Type} (s_ : I3) (k : St → Option α) : P9 1 C9.r.l ⟨[(1, rC tsI3 s_)], [], [], 6⟩ k = Option.bind (shape_may s_) fun y148 : Bool => k ⟨[(5, rb (!y148))], [], [], 6⟩ := by kernel_rfl
theorem shape_May_fz {α : Type} (k : St → Option α) : P9 1 C9.r.l.r.t ⟨[], [], [], 6⟩ k = k ⟨[(2, ri 10)], [], [], 6⟩ := by kernel_rfl
theorem shape_May_fzx1 {α : Type} (k : St → Option α) : P9 1 C9.r.r ⟨[], [], [], 6⟩ k = k ⟨[(2, ri 0)], [], [], 6⟩ := by kernel_rfl
/-- quilt/shape.May -/
def shape_May (s_ : I3) : Option Int := (Option.bind (shape_may s_) (fun y148 : Bool => (bif (!y148) then (some (10 : Int)) else (some (0 : Int)))))
theorem shape_May_is (s_ : I3) : stepS E cp9 noE 27 [rA tsI3 s_] = Option.bind (shape_May s_) (fun y : Int => some (ri y : R)) := by
  refine .trans ?_ (bind_b fun y148 => (bif_b some_b some_b))
  refine (stepG_is (nt := 6) (regs := [(0, rA tsI3 s_)])).trans ?_
  refine (pre1 (shape_May_f1 s_ _)).trans ?_
  refine .trans seq_push ?_
  refine (pre1 (shape_May_r1 s_ _)).trans (bind_g fun y148 => ?_)
  refine (cond_e (b := (!y148)) (st' := ⟨[], [], [], 6⟩) ).trans (bif_g ?_ ?_)
  · refine (pre1 (shape_May_fz _)).trans ?_
    refine (ret_eq).trans ?_
    refine seqC_ret.trans ?_
    kernel_rfl
  · refine (skip_eq).trans ?_
    refine (seqC_normal (st' := ⟨[], [], [], 6⟩)).trans ?_
    refine (pre1 (shape_May_fzx1 _)).trans ?_
    refine (ret_eq).trans ?_
    kernel_rfl
noncomputable def cp10 : CallP := withC cp9 27 [(.agg tsI3)] (.one pI) (fun y : Int => y) (fun x => shape_May x.1)
theorem cp10_ok : PureOK E cp10 := conS eok cp9_ok noE_ok fun x => Eq.mp (by kernel_rfl) (shape_May_is x.1)
noncomputable abbrev C10 := codeOf E.P 26
noncomputable abbrev P10 {α : Type} := @preK α E 26 cp10 noE
theorem graph_Value_2_r1 {α : Type} (v_ : I4) (k : St → Option α) : P10 2 C10 ⟨[(0, rA tsI4 v_)], [], [], 7⟩ k = Option.bind (shape_May (v_.1, v_.2.1, v_.2.2.1)) fun y149 : Int => k ⟨[(2, rb (y149 != 0))], [], [], 7⟩ := by kernel_rfl
/-- quilt/graph.Value$2 -/
def graph_Value_2 (v_ : I4) : Option Bool := (Option.bind (shape_May (v_.1, v_.2.1, v_.2.2.1)) (fun y149 : Int => (some (y149 != 0))))
theorem graph_Value_2_is (v_ : I4) : stepS E cp10 noE 26 [rA tsI4 v_] = Option.bind (graph_Value_2 v_) (fun y : Bool => some (rb y : R)) := by
  refine .trans ?_ (bind_b fun y149 => some_b)
  refine (stepG_is (nt := 7) (regs := [(0, rA tsI4 v_)])).trans ?_
  refine (pre2 (graph_Value_2_r1 v_ _)).trans (bind_g fun y149 => ?_)
  refine (ret_eq).trans ?_
  kernel_rfl
noncomputable def cp11 : CallP := withC cp10 26 [(.agg tsI4)] (.one pB) (fun y : Bool => y) (fun x => graph_Value_2 x.1)
theorem cp11_ok : PureOK E cp11 := conS eok cp10_ok noE_ok fun x => Eq.mp (by kernel_rfl) (graph_Value_2_is x.1)
section
variable {α : Type} (s_ : (List I4)) (s166 : Int) (k : St → Option α) (q : Kont α)
noncomputable abbrev C11 := codeOf E.P 63
noncomputable abbrev P11 := @preK α E 63 cp11 noE
noncomputable abbrev R11 := @runCode α E 63 cp11 noE
abbrev S11_0 : St := ⟨[(0, rl tsI4 s_), (1, .one (.fn 26 []))], [], [], 19⟩
theorem slices_IndexFuncapi_Value_api_Value_s2_f1 : P11 1 C11 (S11_0 s_) k = k (S11_0 s_) := by kernel_rfl
abbrev S11_1 : St := ⟨[(0, rl tsI4 s_), (1, .one (.fn 26 [])), (7, ri (s_.length : Int)), (8, ri 0)], [], [], 19⟩
theorem slices_IndexFuncapi_Value_api_Value_s2_f2 : P11 1 C11.r.l (S11_0 s_) k = k (S11_1 s_) := by kernel_rfl
abbrev S11_2 : St := ⟨[(0, rl tsI4 s_), (1, .one (.fn 26 [])), (7, ri (s_.length : Int)), (8, ri s166)], [], [], 19⟩
theorem slices_IndexFuncapi_Value_api_Value_s2_fz : P11 1 C11.r.l.r.b.b (S11_2 s_ s166) k = k ⟨[(0, rl tsI4 s_), (1, .one (.fn 26 [])), (7, ri (s_.length : Int)), (8, ri s166), (9, rb (decide (s166 < (s_.length : Int))))], [], [], 19⟩ := by kernel_rfl
def slices_IndexFuncapi_Value_api_Value_s2_r4_p : Option Bool := (bif (decide ((0 : Int) ≤ s166)) then (bif (decide (s166 < (s_.length : Int))) then (Option.bind (graph_Value_2 (gt s_ s166 dI4)) (fun y169 : Bool => (some y169))) else none) else none)
theorem slices_IndexFuncapi_Value_api_Value_s2_r4 : P11 2 C11.r.l.r.b.b.r.r.l.b (S11_2 s_ s166) k = Option.bind (slices_IndexFuncapi_Value_api_Value_s2_r4_p s_ s166) (fun y170 : Bool => k ⟨[(0, rl tsI4 s_), (1, .one (.fn 26 [])), (5, ri s166), (7, ri (s_.length : Int)), (8, ri s166), (16, rb y170)], [], [], 19⟩) := .trans (by kernel_rfl) (bif_b (bif_b (bind_b fun y169 => some_b) none_b) none_b)
abbrev S11_3 : St := ⟨[(0, rl tsI4 s_), (1, .one (.fn 26 [])), (5, ri s166), (7, ri (s_.length : Int)), (8, ri s166)], [], [], 19⟩
theorem slices_IndexFuncapi_Value_api_Value_s2_fzx1 : P11 1 C11.r.l.r.b.b.r.r.l.b.r.r.t (S11_3 s_ s166) k = k ⟨[(4, ri s166)], [], [], 19⟩ := by kernel_rfl
theorem slices_IndexFuncapi_Value_api_Value_s2_r6 : R11 C11.r.l.r.b.b.r.r.r (S11_2 s_ s166) q = q .normal ⟨[(0, rl tsI4 s_), (1, .one (.fn 26 [])), (7, ri (s_.length : Int)), (8, ri (IntKind.wrap .i64 (s166 + 1)))], [], [], 19⟩ := by kernel_rfl
def slices_IndexFuncapi_Value_api_Value_s2_l2_p : Option (Int ⊕ (Int ⊕ Int)) := (bif (decide (s166 < (s_.length : Int))) then (Option.bind (slices_IndexFuncapi_Value_api_Value_s2_r4_p s_ s166) (fun y170 : Bool => (bif y170 then (some (Sum.inr (Sum.inr s166))) else (some (Sum.inl (IntKind.wrap .i64 (s166 + 1))))))) else (some (Sum.inr (Sum.inl s166))))
abbrev S11_4 (y171 : Int) : St := ⟨[(0, rl tsI4 s_), (1, .one (.fn 26 [])), (7, ri (s_.length : Int)), (8, ri y171)], [], [], 19⟩
theorem slices_IndexFuncapi_Value_api_Value_s2_l2_b : R11 C11.r.l.r.b.b (S11_2 s_ s166) (loopKont 0 q) = Option.bind (slices_IndexFuncapi_Value_api_Value_s2_l2_p s_ s166) (either (fun y : Int => q .normal ⟨[(0, rl tsI4 s_), (1, .one (.fn 26 [])), (7, ri (s_.length : Int)), (8, ri y)], [], [], 19⟩) (either (fun y171 : Int => q (.exit 0) (S11_4 s_ y171)) (fun y172 : Int => q .ret ⟨[(4, ri y172)], [], [], 19⟩))) := by
  refine .trans ?_ (bif_b (bind_b fun y170 => (bif_b e3_2 e3_0)) e3_1)
  refine (pre1 (slices_IndexFuncapi_Value_api_Value_s2_fz s_ s166 _)).trans ?_
  refine .trans seq_push ?_
  refine (cond_e (b := (decide (s166 < (s_.length : Int)))) (st' := (S11_2 s_ s166)) ).trans (bif_g ?_ ?_)
  · refine (skip_eq).trans ?_
    refine (seqC_normal (st' := (S11_2 s_ s166))).trans ?_
    refine .trans seq_push ?_
    refine (block_push (id := 1)).trans ?_
    refine (pre2 (slices_IndexFuncapi_Value_api_Value_s2_r4 s_ s166 _)).trans (bind_g fun y170 => ?_)
    refine (cond_e (b := y170) (st' := (S11_3 s_ s166)) ).trans (bif_g ?_ ?_)
    · refine (pre1 (slices_IndexFuncapi_Value_api_Value_s2_fzx1 s_ s166 _)).trans ?_
      refine (ret_eq).trans ?_
      refine block_ret.trans ?_
      refine seqC_ret.trans ?_
      kernel_rfl
    · refine (skip_eq).trans ?_
      refine block_normal.trans ?_
      refine (seqC_normal (st' := (S11_2 s_ s166))).trans ?_
      refine (slices_IndexFuncapi_Value_api_Value_s2_r6 s_ s166 _).trans ?_
      kernel_rfl
  · refine ((exit_eq (j := 0))).trans ?_
    refine seqC_exit.trans ?_
    kernel_rfl
theorem slices_IndexFuncapi_Value_api_Value_s2_l2 : R11 C11.r.l.r.b (S11_1 s_) q = Option.bind (iterN (slices_IndexFuncapi_Value_api_Value_s2_l2_p s_) LL (0 : Int)) (either (fun y171 : Int => q (.exit 0) (S11_4 s_ y171)) (fun y172 : Int => q .ret ⟨[(4, ri y172)], [], [], 19⟩)) :=
  Eq.trans (by kernel_rfl) (loop_iter2 (S := fun s166 : Int => (S11_2 s_ s166)) (Y1 := fun y171 : Int => ((.exit 0), (S11_4 s_ y171))) (Y2 := fun y172 : Int => (.ret, ⟨[(4, ri y172)], [], [], 19⟩)) (fun s q => slices_IndexFuncapi_Value_api_Value_s2_l2_b s_ s q) (fun z => rfl) (fun z => rfl) LL (0 : Int))
theorem slices_IndexFuncapi_Value_api_Value_s2_fzx2 : P11 1 C11.r.r ⟨[], [], [], 19⟩ k = k ⟨[(4, ri (-1 : Int))], [], [], 19⟩ := by kernel_rfl
/-- slices.IndexFunc[[]quilt/api.Value,quilt/api.Value] -/
def slices_IndexFuncapi_Value_api_Value_s2 : Option Int := (Option.bind (iterN (slices_IndexFuncapi_Value_api_Value_s2_l2_p s_) LL (0 : Int)) (either (fun y171 : Int => (some (-1 : Int))) (fun y172 : Int => (some y172))))
theorem slices_IndexFuncapi_Value_api_Value_s2_is : stepS E cp11 noE 63 [rl tsI4 s_, .one (.fn 26 [])] = Option.bind (slices_IndexFuncapi_Value_api_Value_s2 s_) (fun y : Int => some (ri y : R)) := by
  refine .trans ?_ (bind_b (either_b (fun y171 => some_b) (fun y172 => some_b)))
  refine (stepG_is (nt := 19) (regs := [(0, rl tsI4 s_), (1, .one (.fn 26 []))])).trans ?_
  refine (pre1 (slices_IndexFuncapi_Value_api_Value_s2_f1 s_ _)).trans ?_
  refine .trans seq_push ?_
  refine (pre1 (slices_IndexFuncapi_Value_api_Value_s2_f2 s_ _)).trans ?_
  refine (block_push (id := 0)).trans ?_
  refine (slices_IndexFuncapi_Value_api_Value_s2_l2 s_ _).trans (bind_g (either_g (fun y171 => ?_) (fun y172 => ?_)))
  · refine block_same.trans ?_
    refine (seqC_normal (st' := ⟨[], [], [], 19⟩)).trans ?_
    refine (pre1 (slices_IndexFuncapi_Value_api_Value_s2_fzx2 _)).trans ?_
    refine (ret_eq).trans ?_
    kernel_rfl
  · refine block_ret.trans ?_
    refine seqC_ret.trans ?_
    kernel_rfl
noncomputable def cp12 : CallP := withC cp11 63 [(pL tsI4), (.one (.fn 26 .nil))] (.one pI) (fun y : Int => y) (fun x => slices_IndexFuncapi_Value_api_Value_s2 x.1)
theorem cp12_ok : PureOK E cp12 := conS eok cp11_ok noE_ok fun x => Eq.mp (by kernel_rfl) (slices_IndexFuncapi_Value_api_Value_s2_is x.1)
end
noncomputable abbrev C12 := codeOf E.P 24
noncomputable abbrev P12 {α : Type} := @preK α E 24 cp12 noE
theorem slices_ContainsFuncapi_Value_api_Value_s2_r1 {α : Type} (s_ : (List I4)) (k : St → Option α) : P12 2 C12 ⟨[(0, rl tsI4 s_), (1, .one (.fn 26 []))], [], [], 9⟩ k = Option.bind (slices_IndexFuncapi_Value_api_Value_s2 s_) fun y173 : Int => k ⟨[(4, rb (decide (y173 ≥ 0)))], [], [], 9⟩ := by kernel_rfl
/-- slices.ContainsFunc[[]quilt/api.Value,quilt/api.Value] -/
def slices_ContainsFuncapi_Value_api_Value_s2 (s_ : (List I4)) : Option Bool := (Option.bind (slices_IndexFuncapi_Value_api_Value_s2 s_) (fun y173 : Int => (some (decide (y173 ≥ 0)))))
theorem slices_ContainsFuncapi_Value_api_Value_s2_is (s_ : (List I4)) : stepS E cp12 noE 24 [rl tsI4 s_, .one (.fn 26 [])] = Option.bind (slices_ContainsFuncapi_Value_api_Value_s2 s_) (fun y : Bool => some (rb y : R)) := by
  refine .trans ?_ (bind_b fun y173 => some_b)
  refine (stepG_is (nt := 9) (regs := [(0, rl tsI4 s_), (1, .one (.fn 26 []))])).trans ?_
  refine (pre2 (slices_ContainsFuncapi_Value_api_Value_s2_r1 s_ _)).trans (bind_g fun y173 => ?_)
  refine (ret_eq).trans ?_
  kernel_rfl
noncomputable def cp13 : CallP := withC cp12 24 [(pL tsI4), (.one (.fn 26 .nil))] (.one pB) (fun y : Bool => y) (fun x => slices_ContainsFuncapi_Value_api_Value_s2 x.1)
theorem cp13_ok : PureOK E cp13 := conS eok cp12_ok noE_ok fun x => Eq.mp (by kernel_rfl) (slices_ContainsFuncapi_Value_api_Value_s2_is x.1)
section
variable {α β : Type} (a0 : Node) (a_ : I3) (a2 : I3) (k : St → Option α)
noncomputable abbrev C13 := codeOf E.P 48
noncomputable abbrev P13 := @preK α E 48 cp13 noE
theorem graph_first_fz : P13 2 C13 ⟨[(0, rA tsNode a0), (1, rA tsI3 a_), (2, rA tsI3 a2)], [], [], 8⟩ k = k ⟨[(6, rF 0)], [(tsI3.leaves a_)], [], 8⟩ := by kernel_rfl
/-- quilt/graph.first -/
def graph_first_q {β : Type} (a0 : Node) (a_ : I3) (a2 : I3) (K : I3 → β) : β := (K a_)
def graph_first : I3 := graph_first_q a0 a_ a2 (fun y => y)
theorem graph_first_n (K : I3 → β) : graph_first_q a0 a_ a2 K = K (graph_first a0 a_ a2) := rfl
theorem graph_first_is : stepS E cp13 noE 48 [rA tsNode a0, rA tsI3 a_, rA tsI3 a2] = (fun y : I3 => some (rA tsI3 y : R)) (graph_first a0 a_ a2) := by
  refine Eq.trans ?_ (graph_first_n a0 a_ a2 (fun y : I3 => some (rA tsI3 y : R)))
  refine (stepG_is (nt := 8) (regs := [(0, rA tsNode a0), (1, rA tsI3 a_), (2, rA tsI3 a2)])).trans ?_
  unfold graph_first_q
  refine (pre2 (graph_first_fz a0 a_ a2 _)).trans ?_
  refine (ret_eq).trans ?_
  kernel_rfl
noncomputable def cp14 : CallP := withC cp13 48 [(.agg tsNode), (.agg tsI3), (.agg tsI3)] (.one (.agg tsI3)) (fun y : I3 => y) (fun x => some (graph_first x.1 x.2.1 x.2.2.1))
theorem cp14_ok : PureOK E cp14 := conS eok cp13_ok noE_ok fun x => Eq.mp (by kernel_rfl) (graph_first_is x.1 x.2.1 x.2.2.1)
end
section
variable {α : Type} (size : Int) (k_ : Int) (stride : Int) (pad : Int) (k : St → Option α)
noncomputable abbrev C14 := codeOf E.P 70
noncomputable abbrev P14 := @preK α E 70 cp14 noE
abbrev S14_0 : St := ⟨[(0, ri size), (1, ri k_), (2, ri stride), (3, ri pad)], [], [], 46⟩
theorem shape_Out_f1 : P14 1 C14 (S14_0 size k_ stride pad) k = k (S14_0 size k_ stride pad) := by kernel_rfl
def shape_Out_r1_p : Option Bool := (Option.bind (shape_within_1 [size] (((shape_within (1 : Int) (64 : Int)).1).1) (((shape_within (1 : Int) (64 : Int)).2.1).1)) (fun y182 : Bool => (bif (!y182) then (some true) else (Option.bind (shape_within_1 [k_, stride] (((shape_within (1 : Int) (16 : Int)).1).1) (((shape_within (1 : Int) (16 : Int)).2.1).1)) (fun y183 : Bool => (bif (!y183) then (some true) else (Option.bind (shape_within_1 [pad] (((shape_within (0 : Int) (16 : Int)).1).1) (((shape_within (0 : Int) (16 : Int)).2.1).1)) (fun y184 : Bool => (bif (!y184) then (some true) else (some (decide (k_ > (IntKind.wrap .i64 (size + (IntKind.wrap .i64 ((2 : Int) * pad))))))))))))))))
theorem shape_Out_r1 : P14 1 C14.r.l (S14_0 size k_ stride pad) k = Option.bind (shape_Out_r1_p size k_ stride pad) (fun y185 : Bool => k ⟨[(0, ri size), (1, ri k_), (2, ri stride), (3, ri pad), (36, rb y185)], [], [], 46⟩) := .trans (by kernel_rfl) (bind_b fun y182 => (bif_b some_b (bind_b fun y183 => (bif_b some_b (bind_b fun y184 => (bif_b some_b some_b))))))
theorem shape_Out_fz : P14 1 C14.r.l.r.t (S14_0 size k_ stride pad) k = k ⟨[(8, ri 0)], [], [], 46⟩ := by kernel_rfl
def shape_Out_r3_p : Option Int := (bif (stride == 0) then none else (some (IntKind.wrap .i64 ((1 : Int) + (IntKind.wrap .i64 (Int.tdiv (IntKind.wrap .i64 ((IntKind.wrap .i64 (size + (IntKind.wrap .i64 ((2 : Int) * pad)))) - k_)) stride))))))
theorem shape_Out_r3 : P14 1 C14.r.r (S14_0 size k_ stride pad) k = Option.bind (shape_Out_r3_p size k_ stride pad) (fun y186 : Int => k ⟨[(8, ri y186)], [], [], 46⟩) := .trans (by kernel_rfl) (bif_b none_b some_b)
/-- quilt/shape.Out -/
def shape_Out : Option Int := (Option.bind (shape_Out_r1_p size k_ stride pad) (fun y185 : Bool => (bif y185 then (some (0 : Int)) else (Option.bind (shape_Out_r3_p size k_ stride pad) (fun y186 : Int => (some y186))))))
theorem shape_Out_is : stepS E cp14 noE 70 [ri size, ri k_, ri stride, ri pad] = Option.bind (shape_Out size k_ stride pad) (fun y : Int => some (ri y : R)) := by
  refine .trans ?_ (bind_b fun y185 => (bif_b some_b (bind_b fun y186 => some_b)))
  refine (stepG_is (nt := 46) (regs := [(0, ri size), (1, ri k_), (2, ri stride), (3, ri pad)])).trans ?_
  refine (pre1 (shape_Out_f1 size k_ stride pad _)).trans ?_
  refine .trans seq_push ?_
  refine (pre1 (shape_Out_r1 size k_ stride pad _)).trans (bind_g fun y185 => ?_)
  refine (cond_e (b := y185) (st' := (S14_0 size k_ stride pad)) ).trans (bif_g ?_ ?_)
  · refine (pre1 (shape_Out_fz size k_ stride pad _)).trans ?_
    refine (ret_eq).trans ?_
    refine seqC_ret.trans ?_
    kernel_rfl
  · refine (skip_eq).trans ?_
    refine (seqC_normal (st' := (S14_0 size k_ stride pad))).trans ?_
    refine (pre1 (shape_Out_r3 size k_ stride pad _)).trans (bind_g fun y186 => ?_)
    refine (ret_eq).trans ?_
    kernel_rfl
noncomputable def cp15 : CallP := withC cp14 70 [pI, pI, pI, pI] (.one pI) (fun y : Int => y) (fun x => shape_Out x.1 x.2.1 x.2.2.1 x.2.2.2.1)
theorem cp15_ok : PureOK E cp15 := conS eok cp14_ok noE_ok fun x => Eq.mp (by kernel_rfl) (shape_Out_is x.1 x.2.1 x.2.2.1 x.2.2.2.1)
end
section
variable {α : Type} (n_ : Node) (s_ : I3) (c_ : Int) (k : St → Option α)
noncomputable abbrev C15 := codeOf E.P 51
noncomputable abbrev P15 := @preK α E 51 cp15 noE
def graph_slid_r1_p : Option (Int × Int) := (Option.bind (shape_Out s_.1 n_.2.2.1 n_.2.2.2.1 n_.2.2.2.2.1) (fun y187 : Int => (Option.bind (shape_Out s_.2.1 n_.2.2.1 n_.2.2.2.1 n_.2.2.2.2.1) (fun y188 : Int => (some (y187, y188))))))
theorem graph_slid_r1 : P15 2 C15 ⟨[(0, rA tsNode n_), (1, rA tsI3 s_), (2, ri c_)], [], [], 27⟩ k = Option.bind (graph_slid_r1_p n_ s_) (fun y189 : (Int × Int) => k ⟨[(6, rF 0)], [[di y189.1, di y189.2, di c_]], [], 27⟩) := .trans (by kernel_rfl) (bind_b fun y187 => (bind_b fun y188 => some_b))
/-- quilt/graph.slid -/
def graph_slid : Option I3 := (Option.bind (graph_slid_r1_p n_ s_) (fun y189 : (Int × Int) => (some (y189.1, y189.2, c_))))
theorem graph_slid_is : stepS E cp15 noE 51 [rA tsNode n_, rA tsI3 s_, ri c_] = Option.bind (graph_slid n_ s_ c_) (fun y : I3 => some (rA tsI3 y : R)) := by
  refine .trans ?_ (bind_b fun y189 => some_b)
  refine (stepG_is (nt := 27) (regs := [(0, rA tsNode n_), (1, rA tsI3 s_), (2, ri c_)])).trans ?_
  refine (pre2 (graph_slid_r1 n_ s_ c_ _)).trans (bind_g fun y189 => ?_)
  refine (ret_eq).trans ?_
  kernel_rfl
noncomputable def cp16 : CallP := withC cp15 51 [(.agg tsNode), (.agg tsI3), pI] (.one (.agg tsI3)) (fun y : I3 => y) (fun x => graph_slid x.1 x.2.1 x.2.2.1)
theorem cp16_ok : PureOK E cp16 := conS eok cp15_ok noE_ok fun x => Eq.mp (by kernel_rfl) (graph_slid_is x.1 x.2.1 x.2.2.1)
end
section
variable {α : Type} (n_ : Node) (a_ : I3) (a2 : I3) (k : St → Option α)
noncomputable abbrev C16 := codeOf E.P 50
noncomputable abbrev P16 := @preK α E 50 cp16 noE
theorem graph_of_1_r1 : P16 2 C16 ⟨[(0, rA tsNode n_), (1, rA tsI3 a_), (2, rA tsI3 a2)], [], [], 12⟩ k = Option.bind (graph_slid n_ a_ n_.2.2.2.2.2.1) fun y190 : I3 => k ⟨[(6, rF 0)], [(tsI3.leaves y190)], [], 12⟩ := by kernel_rfl
/-- quilt/graph.of$1 -/
def graph_of_1 (n_ : Node) (a_ : I3) (a2 : I3) : Option I3 := (Option.bind (graph_slid n_ a_ n_.2.2.2.2.2.1) (fun y190 : I3 => (some y190)))
theorem graph_of_1_is : stepS E cp16 noE 50 [rA tsNode n_, rA tsI3 a_, rA tsI3 a2] = Option.bind (graph_of_1 n_ a_ a2) (fun y : I3 => some (rA tsI3 y : R)) := by
  refine .trans ?_ (bind_b fun y190 => some_b)
  refine (stepG_is (nt := 12) (regs := [(0, rA tsNode n_), (1, rA tsI3 a_), (2, rA tsI3 a2)])).trans ?_
  refine (pre2 (graph_of_1_r1 n_ a_ a2 _)).trans (bind_g fun y190 => ?_)
  refine (ret_eq).trans ?_
  kernel_rfl
noncomputable def cp17 : CallP := withC cp16 50 [(.agg tsNode), (.agg tsI3), (.agg tsI3)] (.one (.agg tsI3)) (fun y : I3 => y) (fun x => graph_of_1 x.1 x.2.1 x.2.2.1)
theorem cp17_ok : PureOK E cp17 := conS eok cp16_ok noE_ok fun x => Eq.mp (by kernel_rfl) (graph_of_1_is x.1 x.2.1 x.2.2.1)
end
section
variable {α : Type} (n_ : Node) (a_ : I3) (a2 : I3) (k : St → Option α)
noncomputable abbrev C17 := codeOf E.P 53
noncomputable abbrev P17 := @preK α E 53 cp17 noE
theorem graph_pooled_r1 : P17 2 C17 ⟨[(0, rA tsNode n_), (1, rA tsI3 a_), (2, rA tsI3 a2)], [], [], 12⟩ k = Option.bind (graph_slid n_ a_ a_.2.2) fun y193 : I3 => k ⟨[(6, rF 0)], [(tsI3.leaves y193)], [], 12⟩ := by kernel_rfl
/-- quilt/graph.pooled -/
def graph_pooled (n_ : Node) (a_ : I3) (a2 : I3) : Option I3 := (Option.bind (graph_slid n_ a_ a_.2.2) (fun y193 : I3 => (some y193)))
theorem graph_pooled_is : stepS E cp17 noE 53 [rA tsNode n_, rA tsI3 a_, rA tsI3 a2] = Option.bind (graph_pooled n_ a_ a2) (fun y : I3 => some (rA tsI3 y : R)) := by
  refine .trans ?_ (bind_b fun y193 => some_b)
  refine (stepG_is (nt := 12) (regs := [(0, rA tsNode n_), (1, rA tsI3 a_), (2, rA tsI3 a2)])).trans ?_
  refine (pre2 (graph_pooled_r1 n_ a_ a2 _)).trans (bind_g fun y193 => ?_)
  refine (ret_eq).trans ?_
  kernel_rfl
noncomputable def cp18 : CallP := withC cp17 53 [(.agg tsNode), (.agg tsI3), (.agg tsI3)] (.one (.agg tsI3)) (fun y : I3 => y) (fun x => graph_pooled x.1 x.2.1 x.2.2.1)
theorem cp18_ok : PureOK E cp18 := conS eok cp17_ok noE_ok fun x => Eq.mp (by kernel_rfl) (graph_pooled_is x.1 x.2.1 x.2.2.1)
end
section
variable {α β : Type} (n_ : Node) (a1 : I3) (a2 : I3) (k : St → Option α)
noncomputable abbrev C18 := codeOf E.P 55
noncomputable abbrev P18 := @preK α E 55 cp18 noE
theorem graph_of_4_fz : P18 2 C18 ⟨[(0, rA tsNode n_), (1, rA tsI3 a1), (2, rA tsI3 a2)], [], [], 10⟩ k = k ⟨[(6, rF 0)], [[di 1, di 1, di n_.2.2.2.2.2.1]], [], 10⟩ := by kernel_rfl
/-- quilt/graph.of$4 -/
def graph_of_4_q {β : Type} (n_ : Node) (a1 : I3) (a2 : I3) (K : I3 → β) : β := (K ((1 : Int), (1 : Int), n_.2.2.2.2.2.1))
def graph_of_4 : I3 := graph_of_4_q n_ a1 a2 (fun y => y)
theorem graph_of_4_n (K : I3 → β) : graph_of_4_q n_ a1 a2 K = K (graph_of_4 n_ a1 a2) := rfl
theorem graph_of_4_is : stepS E cp18 noE 55 [rA tsNode n_, rA tsI3 a1, rA tsI3 a2] = (fun y : I3 => some (rA tsI3 y : R)) (graph_of_4 n_ a1 a2) := by
  refine Eq.trans ?_ (graph_of_4_n n_ a1 a2 (fun y : I3 => some (rA tsI3 y : R)))
  refine (stepG_is (nt := 10) (regs := [(0, rA tsNode n_), (1, rA tsI3 a1), (2, rA tsI3 a2)])).trans ?_
  unfold graph_of_4_q
  refine (pre2 (graph_of_4_fz n_ a1 a2 _)).trans ?_
  refine (ret_eq).trans ?_
  kernel_rfl
noncomputable def cp19 : CallP := withC cp18 55 [(.agg tsNode), (.agg tsI3), (.agg tsI3)] (.one (.agg tsI3)) (fun y : I3 => y) (fun x => some (graph_of_4 x.1 x.2.1 x.2.2.1))
theorem cp19_ok : PureOK E cp19 := conS eok cp18_ok noE_ok fun x => Eq.mp (by kernel_rfl) (graph_of_4_is x.1 x.2.1 x.2.2.1)
end
end Go.V.P
