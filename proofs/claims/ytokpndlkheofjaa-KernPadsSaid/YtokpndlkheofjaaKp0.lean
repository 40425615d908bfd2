/- What functions compute. -/
import Derived.Test.YtokpndlkheofjaaKpEnv
namespace Go.V.P
open Go.RowKit Go.V Go.Proofs
set_option linter.unusedVariables false
set_option maxRecDepth 100000
section
variable {α β : Type} (op : Int) (y3 : U11) (k : St → Option α) (q : Kont α)
noncomputable abbrev C0 := Q0r E.P 33
noncomputable abbrev P0 := @preK α E 33 cpA noE
noncomputable abbrev R0 := @Q0o α E 33 cpA noE
noncomputable abbrev Q0 := @seqC α E 33 cpA noE
abbrev S0_0 : St := ⟨[(0, ri op), (2, rF 0), (4, rF 1)], [[di 0, db false, db false, db false, db false, db false, .nilFn, .nilFn], [di 1, db false, db false, db false, db false, db false, .fn 49 [], .fn 50 []]], [], 58⟩
theorem d8m : P0 2 C0 ⟨[(0, ri op)], [], [], 58⟩ k = k (S0_0 op) := by kernel_rfl
abbrev S0_1 : St := ⟨[(2, rF 0), (4, rF 1), (6, ri op)], [[di 0, db false, db false, db false, db false, db false, .nilFn, .nilFn], [di 1, db false, db false, db false, db false, db false, .fn 49 [], .fn 50 []]], [], 58⟩
theorem d8n : P0 1 C0.r.r.l (S0_0 op) k = k (S0_1 op) := by kernel_rfl
theorem c1p : P0 1 C0.r.r.l.r.b (S0_1 op) k = k ⟨[(2, rF 0), (4, rF 1), (6, ri op), (8, rb (op == 1))], [[di 0, db false, db false, db false, db false, db false, .nilFn, .nilFn], [di 1, db false, db false, db false, db false, db false, .fn 49 [], .fn 50 []]], [], 58⟩ := by kernel_rfl
abbrev S0_2 : St := ⟨[(2, rF 0), (4, rF 1)], [[di 0, db false, db false, db false, db false, db false, .nilFn, .nilFn], [di 1, db true, db true, db false, db true, db false, .fn 51 [], .fn 50 []]], [], 58⟩
theorem d8o : P0 2 C0.r.r.l.r.b.r.t (S0_1 op) k = k S0_2 := by kernel_rfl
abbrev S0_3 : St := ⟨[(2, rF 0), (4, rF 1)], [[di 0, db false, db false, db false, db false, db false, .nilFn, .nilFn], [di 1, db true, db true, db false, db true, db false, .fn 51 [], .fn 53 []]], [], 58⟩
theorem d8s : R0 C0.r.r.l.r.b.r.t.r.r S0_2 q = q .normal S0_3 := by kernel_rfl
theorem c1q : P0 1 C0.r.r.l.r.b.r.e (S0_1 op) k = k ⟨[(2, rF 0), (4, rF 1), (6, ri op), (15, rb (op == 2))], [[di 0, db false, db false, db false, db false, db false, .nilFn, .nilFn], [di 1, db false, db false, db false, db false, db false, .fn 49 [], .fn 50 []]], [], 58⟩ := by kernel_rfl
abbrev S0_4 : St := ⟨[(2, rF 0), (4, rF 1)], [[di 0, db false, db false, db false, db false, db false, .nilFn, .nilFn], [di 1, db true, db true, db false, db false, db false, .fn 54 [], .fn 50 []]], [], 58⟩
theorem d60 : P0 1 C0.r.r.l.r.b.r.e.r.t (S0_1 op) k = k S0_4 := by kernel_rfl
abbrev S0_5 : St := ⟨[(2, rF 0), (4, rF 1)], [[di 0, db false, db false, db false, db false, db false, .nilFn, .nilFn], [di 1, db true, db true, db false, db false, db false, .fn 54 [], .fn 55 []]], [], 58⟩
theorem d65 : R0 C0.r.r.l.r.b.r.e.r.t.r S0_4 q = q .normal S0_5 := by kernel_rfl
theorem c1r : P0 1 C0.r.r.l.r.b.r.e.r.e (S0_1 op) k = k ⟨[(2, rF 0), (4, rF 1), (6, ri op), (21, rb (op == 3))], [[di 0, db false, db false, db false, db false, db false, .nilFn, .nilFn], [di 1, db false, db false, db false, db false, db false, .fn 49 [], .fn 50 []]], [], 58⟩ := by kernel_rfl
abbrev S0_6 : St := ⟨[(2, rF 0), (4, rF 1)], [[di 0, db false, db false, db false, db false, db false, .nilFn, .nilFn], [di 1, db false, db false, db false, db true, db false, .fn 56 [], .fn 50 []]], [], 58⟩
theorem d61 : P0 2 C0.r.r.l.r.b.r.e.r.e.r.t (S0_1 op) k = k S0_6 := by kernel_rfl
abbrev S0_7 : St := ⟨[(2, rF 0), (4, rF 1)], [[di 0, db false, db false, db false, db false, db false, .nilFn, .nilFn], [di 1, db false, db false, db false, db true, db false, .fn 56 [], .fn 57 []]], [], 58⟩
theorem d66 : R0 C0.r.r.l.r.b.r.e.r.e.r.t.r.r S0_6 q = q .normal S0_7 := by kernel_rfl
abbrev S0_8 : St := ⟨[(2, rF 0), (4, rF 1), (6, ri op), (26, rb (op == 4))], [[di 0, db false, db false, db false, db false, db false, .nilFn, .nilFn], [di 1, db false, db false, db false, db false, db false, .fn 49 [], .fn 50 []]], [], 58⟩
theorem c1y : P0 1 C0.r.r.l.r.b.r.e.r.e.r.e.l (S0_1 op) k = k (S0_8 op) := by kernel_rfl
abbrev S0_9 : St := ⟨[(2, rF 0), (4, rF 1), (6, ri op), (26, rb (op == 5))], [[di 0, db false, db false, db false, db false, db false, .nilFn, .nilFn], [di 1, db false, db false, db false, db false, db false, .fn 49 [], .fn 50 []]], [], 58⟩
theorem d67 : R0 C0.r.r.l.r.b.r.e.r.e.r.e.l.r.e (S0_8 op) q = q .normal (S0_9 op) := by kernel_rfl
def a87 (K : Bool → β) : β := (bif (op == 4) then (K (op == 4)) else (K (op == 5)))
def a4c : Bool := a87 op (fun y => y)
theorem c80 (K : Bool → β) : a87 op K = K (a4c op) := (Q2h K rfl rfl)
abbrev S0_10 : St := ⟨[(2, rF 0), (4, rF 1), (6, ri op), (26, rb (a4c op))], [[di 0, db false, db false, db false, db false, db false, .nilFn, .nilFn], [di 1, db false, db false, db false, db false, db false, .fn 49 [], .fn 50 []]], [], 58⟩
theorem d63 : R0 C0.r.r.l.r.b.r.e.r.e.r.e.l (S0_1 op) (Q0 C0.r.r.l.r.b.r.e.r.e.r.e.r q) = R0 C0.r.r.l.r.b.r.e.r.e.r.e.r (S0_10 op) q := by
  refine Eq.trans ?_ (c80 op (fun y1 : Bool => R0 C0.r.r.l.r.b.r.e.r.e.r.e.r ⟨[(2, rF 0), (4, rF 1), (6, ri op), (26, rb y1)], [[di 0, db false, db false, db false, db false, db false, .nilFn, .nilFn], [di 1, db false, db false, db false, db false, db false, .fn 49 [], .fn 50 []]], [], 58⟩ q))
  unfold a87
  refine (Q2d (c1y op _)).trans ?_
  refine (cond_s (b := (op == 4)) ).trans (Q2f ?_ ?_)
  · refine (Q0i).trans ?_
    refine (Q0a (st' := (S0_8 op))).trans ?_
    kernel_rfl
  · refine (d67 op _).trans ?_
    refine (Q0a (st' := (S0_9 op))).trans ?_
    kernel_rfl
abbrev S0_11 : St := ⟨[(2, rF 0), (4, rF 1)], [[di 0, db false, db false, db false, db false, db false, .nilFn, .nilFn], [di 1, db true, db false, db false, db false, db true, .fn 54 [], .fn 50 []]], [], 58⟩
theorem d68 : R0 C0.r.r.l.r.b.r.e.r.e.r.e.r.t (S0_10 op) q = q .normal S0_11 := by kernel_rfl
abbrev S0_12 : St := ⟨[(2, rF 0), (4, rF 1), (6, ri op), (32, rb (op == 6))], [[di 0, db false, db false, db false, db false, db false, .nilFn, .nilFn], [di 1, db false, db false, db false, db false, db false, .fn 49 [], .fn 50 []]], [], 58⟩
theorem c1z : P0 1 C0.r.r.l.r.b.r.e.r.e.r.e.r.e.l (S0_10 op) k = k (S0_12 op) := by kernel_rfl
abbrev S0_13 : St := ⟨[(2, rF 0), (4, rF 1), (6, ri op), (32, rb (op == 7))], [[di 0, db false, db false, db false, db false, db false, .nilFn, .nilFn], [di 1, db false, db false, db false, db false, db false, .fn 49 [], .fn 50 []]], [], 58⟩
theorem d69 : R0 C0.r.r.l.r.b.r.e.r.e.r.e.r.e.l.r.e (S0_12 op) q = q .normal (S0_13 op) := by kernel_rfl
def a88 (K : Bool → β) : β := (bif (op == 6) then (K (op == 6)) else (K (op == 7)))
def a4d : Bool := a88 op (fun y => y)
theorem c81 (K : Bool → β) : a88 op K = K (a4d op) := (Q2h K rfl rfl)
abbrev S0_14 : St := ⟨[(2, rF 0), (4, rF 1), (6, ri op), (32, rb (a4d op))], [[di 0, db false, db false, db false, db false, db false, .nilFn, .nilFn], [di 1, db false, db false, db false, db false, db false, .fn 49 [], .fn 50 []]], [], 58⟩
theorem d64 : R0 C0.r.r.l.r.b.r.e.r.e.r.e.r.e.l (S0_10 op) (Q0 C0.r.r.l.r.b.r.e.r.e.r.e.r.e.r q) = R0 C0.r.r.l.r.b.r.e.r.e.r.e.r.e.r (S0_14 op) q := by
  refine Eq.trans ?_ (c81 op (fun y2 : Bool => R0 C0.r.r.l.r.b.r.e.r.e.r.e.r.e.r ⟨[(2, rF 0), (4, rF 1), (6, ri op), (32, rb y2)], [[di 0, db false, db false, db false, db false, db false, .nilFn, .nilFn], [di 1, db false, db false, db false, db false, db false, .fn 49 [], .fn 50 []]], [], 58⟩ q))
  unfold a88
  refine (Q2d (c1z op _)).trans ?_
  refine (cond_s (b := (op == 6)) ).trans (Q2f ?_ ?_)
  · refine (Q0i).trans ?_
    refine (Q0a (st' := (S0_12 op))).trans ?_
    kernel_rfl
  · refine (d69 op _).trans ?_
    refine (Q0a (st' := (S0_13 op))).trans ?_
    kernel_rfl
abbrev S0_15 : St := ⟨[(2, rF 0), (4, rF 1)], [[di 0, db false, db false, db false, db false, db false, .nilFn, .nilFn], [di 2, db false, db false, db false, db false, db false, .fn 59 [], .fn 50 []]], [], 58⟩
theorem d6a : R0 C0.r.r.l.r.b.r.e.r.e.r.e.r.e.r.t (S0_14 op) q = q .normal S0_15 := by kernel_rfl
theorem c1s : P0 1 C0.r.r.l.r.b.r.e.r.e.r.e.r.e.r.e (S0_14 op) k = k ⟨[(2, rF 0), (4, rF 1), (6, ri op), (37, rb (op == 8))], [[di 0, db false, db false, db false, db false, db false, .nilFn, .nilFn], [di 1, db false, db false, db false, db false, db false, .fn 49 [], .fn 50 []]], [], 58⟩ := by kernel_rfl
abbrev S0_16 : St := ⟨[(2, rF 0), (4, rF 1)], [[di 0, db false, db false, db false, db false, db false, .nilFn, .nilFn], [di 1, db false, db false, db false, db false, db true, .fn 49 [], .fn 50 []]], [], 58⟩
theorem d6b : R0 C0.r.r.l.r.b.r.e.r.e.r.e.r.e.r.e.r.t (S0_1 op) q = q .normal S0_16 := by kernel_rfl
theorem c1t : P0 1 C0.r.r.l.r.b.r.e.r.e.r.e.r.e.r.e.r.e (S0_1 op) k = k ⟨[(2, rF 0), (4, rF 1), (6, ri op), (40, rb (op == 9))], [[di 0, db false, db false, db false, db false, db false, .nilFn, .nilFn], [di 1, db false, db false, db false, db false, db false, .fn 49 [], .fn 50 []]], [], 58⟩ := by kernel_rfl
abbrev S0_17 : St := ⟨[(2, rF 0), (4, rF 1)], [[di 0, db false, db false, db false, db false, db false, .nilFn, .nilFn], [di 1, db false, db false, db true, db false, db true, .fn 49 [], .fn 50 []]], [], 58⟩
theorem d62 : P0 1 C0.r.r.l.r.b.r.e.r.e.r.e.r.e.r.e.r.e.r.t (S0_1 op) k = k S0_17 := by kernel_rfl
abbrev S0_18 : St := ⟨[(2, rF 0), (4, rF 1)], [[di 0, db false, db false, db false, db false, db false, .nilFn, .nilFn], [di 1, db false, db false, db true, db false, db true, .fn 60 [], .fn 50 []]], [], 58⟩
theorem d6c : R0 C0.r.r.l.r.b.r.e.r.e.r.e.r.e.r.e.r.e.r.t.r S0_17 q = q .normal S0_18 := by kernel_rfl
theorem c1v : P0 1 C0.r.r.l.r.b.r.e.r.e.r.e.r.e.r.e.r.e.r.e (S0_1 op) k = k ⟨[(2, rF 0), (4, rF 1), (6, ri op), (45, rb (op == 10))], [[di 0, db false, db false, db false, db false, db false, .nilFn, .nilFn], [di 1, db false, db false, db false, db false, db false, .fn 49 [], .fn 50 []]], [], 58⟩ := by kernel_rfl
abbrev S0_19 : St := ⟨[(2, rF 0), (4, rF 1)], [[di 0, db false, db false, db false, db false, db false, .nilFn, .nilFn], [di 2, db false, db false, db false, db false, db true, .fn 61 [], .fn 50 []]], [], 58⟩
theorem d6d : R0 C0.r.r.l.r.b.r.e.r.e.r.e.r.e.r.e.r.e.r.e.r.t (S0_1 op) q = q .normal S0_19 := by kernel_rfl
theorem c1w : P0 1 C0.r.r.l.r.b.r.e.r.e.r.e.r.e.r.e.r.e.r.e.r.e (S0_1 op) k = k ⟨[(2, rF 0), (4, rF 1), (6, ri op), (50, rb (op == 11))], [[di 0, db false, db false, db false, db false, db false, .nilFn, .nilFn], [di 1, db false, db false, db false, db false, db false, .fn 49 [], .fn 50 []]], [], 58⟩ := by kernel_rfl
abbrev S0_20 : St := ⟨[(2, rF 0), (4, rF 1)], [[di 0, db false, db false, db false, db false, db false, .nilFn, .nilFn], [di 1, db false, db false, db false, db false, db true, .fn 62 [], .fn 50 []]], [], 58⟩
theorem d6e : R0 C0.r.r.l.r.b.r.e.r.e.r.e.r.e.r.e.r.e.r.e.r.e.r.t (S0_1 op) q = q .normal S0_20 := by kernel_rfl
theorem c1x : P0 1 C0.r.r.l.r.b.r.e.r.e.r.e.r.e.r.e.r.e.r.e.r.e.r.e (S0_1 op) k = k ⟨[(2, rF 0), (4, rF 1), (54, rb (op == 12))], [[di 0, db false, db false, db false, db false, db false, .nilFn, .nilFn], [di 1, db false, db false, db false, db false, db false, .fn 49 [], .fn 50 []]], [], 58⟩ := by kernel_rfl
abbrev S0_21 : St := ⟨[(2, rF 0), (4, rF 1)], [[di 0, db false, db false, db false, db false, db false, .nilFn, .nilFn], [di 1, db false, db false, db false, db false, db false, .fn 49 [], .fn 50 []]], [], 58⟩
abbrev S0_22 : St := ⟨[(2, rF 0), (4, rF 1)], [[di 0, db false, db false, db false, db false, db false, .nilFn, .nilFn], [di 1, db false, db false, db false, db false, db false, .fn 49 [], .fn 63 []]], [], 58⟩
theorem d6f : R0 C0.r.r.l.r.b.r.e.r.e.r.e.r.e.r.e.r.e.r.e.r.e.r.e.r.t S0_21 q = q .normal S0_22 := by kernel_rfl
abbrev S0_23 : St := ⟨[(2, rF 0), (3, rb false)], [[di 0, db false, db false, db false, db false, db false, .nilFn, .nilFn], []], [], 58⟩
theorem d8p : P0 1 C0.r.r.l.r.b.r.e.r.e.r.e.r.e.r.e.r.e.r.e.r.e.r.e.r.e S0_21 k = k S0_23 := by kernel_rfl
def b7x : Option (U11 ⊕ Unit) := (bif (op == 1) then (some (Sum.inl ((1 : Int), true, true, false, true, false, (Sum.inr (Sum.inl ())), (Sum.inr (Sum.inl ()))))) else (bif (op == 2) then (some (Sum.inl ((1 : Int), true, true, false, false, false, (Sum.inr (Sum.inr (Sum.inl ()))), (Sum.inr (Sum.inr (Sum.inl ())))))) else (bif (op == 3) then (some (Sum.inl ((1 : Int), false, false, false, true, false, (Sum.inr (Sum.inr (Sum.inr (Sum.inl ())))), (Sum.inr (Sum.inr (Sum.inr (Sum.inl ()))))))) else (bif (a4c op) then (some (Sum.inl ((1 : Int), true, false, false, false, true, (Sum.inr (Sum.inr (Sum.inl ()))), (Sum.inl ())))) else (bif (a4d op) then (some (Sum.inl ((2 : Int), false, false, false, false, false, (Sum.inr (Sum.inr (Sum.inr (Sum.inr (Sum.inl ()))))), (Sum.inl ())))) else (bif (op == 8) then (some (Sum.inl ((1 : Int), false, false, false, false, true, (Sum.inl ()), (Sum.inl ())))) else (bif (op == 9) then (some (Sum.inl ((1 : Int), false, false, true, false, true, (Sum.inr (Sum.inr (Sum.inr (Sum.inr (Sum.inr (Sum.inl ())))))), (Sum.inl ())))) else (bif (op == 10) then (some (Sum.inl ((2 : Int), false, false, false, false, true, (Sum.inr (Sum.inr (Sum.inr (Sum.inr (Sum.inr (Sum.inr (Sum.inl ()))))))), (Sum.inl ())))) else (bif (op == 11) then (some (Sum.inl ((1 : Int), false, false, false, false, true, (Sum.inr (Sum.inr (Sum.inr (Sum.inr (Sum.inr (Sum.inr (Sum.inr ()))))))), (Sum.inl ())))) else (bif (op == 12) then (some (Sum.inl ((1 : Int), false, false, false, false, false, (Sum.inl ()), (Sum.inr (Sum.inr (Sum.inr (Sum.inr ()))))))) else (some (Sum.inr ()))))))))))))
abbrev S0_24 : St := ⟨[(2, rF 0), (4, rF 1)], [[di 0, db false, db false, db false, db false, db false, .nilFn, .nilFn], [di y3.1, db y3.2.1, db y3.2.2.1, db y3.2.2.2.1, db y3.2.2.2.2.1, db y3.2.2.2.2.2.1, Ps.enc (.alt (.fn 49 .nil) (.alt (.fn 51 .nil) (.alt (.fn 54 .nil) (.alt (.fn 56 .nil) (.alt (.fn 59 .nil) (.alt (.fn 60 .nil) (.alt (.fn 61 .nil) (.fn 62 .nil)))))))) y3.2.2.2.2.2.2.1, Ps.enc (.alt (.fn 50 .nil) (.alt (.fn 53 .nil) (.alt (.fn 55 .nil) (.alt (.fn 57 .nil) (.fn 63 .nil))))) y3.2.2.2.2.2.2.2]], [], 58⟩
theorem d8r : R0 C0.r.r.l (S0_0 op) (Q0 C0.r.r.r q) = Option.bind (b7x op) (Q1z (fun y3 : U11 => R0 C0.r.r.r (S0_24 y3) q) (fun y4 : Unit => q .ret S0_23)) := by
  refine .trans ?_ (Q2b e2_0 (Q2b e2_0 (Q2b e2_0 (Q2b e2_0 (Q2b e2_0 (Q2b e2_0 (Q2b e2_0 (Q2b e2_0 (Q2b e2_0 (Q2b e2_0 e2_1))))))))))
  refine (Q2d (d8n op _)).trans ?_
  refine (Q0j (id := 0)).trans ?_
  refine (Q2d (c1p op _)).trans ?_
  refine (Q0m (b := (op == 1)) (st' := (S0_1 op)) ).trans (Q2f ?_ ?_)
  · refine (pre2 (d8o op _)).trans ?_
    refine (d8s _).trans ?_
    refine Q0f.trans ?_
    refine (Q0a (st' := S0_3)).trans ?_
    kernel_rfl
  · refine (Q2d (c1q op _)).trans ?_
    refine (Q0m (b := (op == 2)) (st' := (S0_1 op)) ).trans (Q2f ?_ ?_)
    · refine (Q2d (d60 op _)).trans ?_
      refine (d65 _).trans ?_
      refine Q0f.trans ?_
      refine (Q0a (st' := S0_5)).trans ?_
      kernel_rfl
    · refine (Q2d (c1r op _)).trans ?_
      refine (Q0m (b := (op == 3)) (st' := (S0_1 op)) ).trans (Q2f ?_ ?_)
      · refine (pre2 (d61 op _)).trans ?_
        refine (d66 _).trans ?_
        refine Q0f.trans ?_
        refine (Q0a (st' := S0_7)).trans ?_
        kernel_rfl
      · refine .trans Q0c ?_
        refine (d63 op _).trans ?_
        refine (cond_s (b := (a4c op)) ).trans (Q2f ?_ ?_)
        · refine (d68 op _).trans ?_
          refine Q0f.trans ?_
          refine (Q0a (st' := S0_11)).trans ?_
          kernel_rfl
        · refine .trans Q0c ?_
          refine (d64 op _).trans ?_
          refine (cond_s (b := (a4d op)) ).trans (Q2f ?_ ?_)
          · refine (d6a op _).trans ?_
            refine Q0f.trans ?_
            refine (Q0a (st' := S0_15)).trans ?_
            kernel_rfl
          · refine (Q2d (c1s op _)).trans ?_
            refine (Q0m (b := (op == 8)) (st' := (S0_1 op)) ).trans (Q2f ?_ ?_)
            · refine (d6b op _).trans ?_
              refine Q0f.trans ?_
              refine (Q0a (st' := S0_16)).trans ?_
              kernel_rfl
            · refine (Q2d (c1t op _)).trans ?_
              refine (Q0m (b := (op == 9)) (st' := (S0_1 op)) ).trans (Q2f ?_ ?_)
              · refine (Q2d (d62 op _)).trans ?_
                refine (d6c _).trans ?_
                refine Q0f.trans ?_
                refine (Q0a (st' := S0_18)).trans ?_
                kernel_rfl
              · refine (Q2d (c1v op _)).trans ?_
                refine (Q0m (b := (op == 10)) (st' := (S0_1 op)) ).trans (Q2f ?_ ?_)
                · refine (d6d op _).trans ?_
                  refine Q0f.trans ?_
                  refine (Q0a (st' := S0_19)).trans ?_
                  kernel_rfl
                · refine (Q2d (c1w op _)).trans ?_
                  refine (Q0m (b := (op == 11)) (st' := (S0_1 op)) ).trans (Q2f ?_ ?_)
                  · refine (d6e op _).trans ?_
                    refine Q0f.trans ?_
                    refine (Q0a (st' := S0_20)).trans ?_
                    kernel_rfl
                  · refine (Q2d (c1x op _)).trans ?_
                    refine (Q0m (b := (op == 12)) (st' := S0_21) ).trans (Q2f ?_ ?_)
                    · refine (d6f _).trans ?_
                      refine Q0f.trans ?_
                      refine (Q0a (st' := S0_22)).trans ?_
                      kernel_rfl
                    · refine (Q2d (d8p _)).trans ?_
                      refine (Q0h).trans ?_
                      refine Q0t.trans ?_
                      refine Q0k.trans ?_
                      kernel_rfl
theorem d1w : P0 1 C0.r.r.r (S0_24 y3) k = k ⟨[(2, rF 0), (3, rb true)], [[di y3.1, db y3.2.1, db y3.2.2.1, db y3.2.2.2.1, db y3.2.2.2.2.1, db y3.2.2.2.2.2.1, Ps.enc (.alt (.fn 49 .nil) (.alt (.fn 51 .nil) (.alt (.fn 54 .nil) (.alt (.fn 56 .nil) (.alt (.fn 59 .nil) (.alt (.fn 60 .nil) (.alt (.fn 61 .nil) (.fn 62 .nil)))))))) y3.2.2.2.2.2.2.1, Ps.enc (.alt (.fn 50 .nil) (.alt (.fn 53 .nil) (.alt (.fn 55 .nil) (.alt (.fn 57 .nil) (.fn 63 .nil))))) y3.2.2.2.2.2.2.2], []], [], 58⟩ := by (rcases y3 with ⟨_, _, _, _, _, _, (_ | _ | _ | _ | _ | _ | _ | _), (_ | _ | _ | _ | _)⟩ <;> kernel_rfl)
def c3b : Option U17 := (Option.bind (b7x op) (Q1z (fun y3 : U11 => (some ((y3.1, y3.2.1, y3.2.2.1, y3.2.2.2.1, y3.2.2.2.2.1, y3.2.2.2.2.2.1, ((Q1z (fun u5 : Unit => (Sum.inl ())) (Q1z (fun u6 : Unit => (Sum.inr (Sum.inl ()))) (Q1z (fun u7 : Unit => (Sum.inr (Sum.inr (Sum.inl ())))) (Q1z (fun u8 : Unit => (Sum.inr (Sum.inr (Sum.inr (Sum.inl ()))))) (Q1z (fun u9 : Unit => (Sum.inr (Sum.inr (Sum.inr (Sum.inr (Sum.inl ())))))) (Q1z (fun u10 : Unit => (Sum.inr (Sum.inr (Sum.inr (Sum.inr (Sum.inr (Sum.inl ()))))))) (Q1z (fun u11 : Unit => (Sum.inr (Sum.inr (Sum.inr (Sum.inr (Sum.inr (Sum.inr (Sum.inl ())))))))) (fun u12 : Unit => (Sum.inr (Sum.inr (Sum.inr (Sum.inr (Sum.inr (Sum.inr (Sum.inr (Sum.inl ())))))))))))))))) y3.2.2.2.2.2.2.1), ((Q1z (fun u13 : Unit => (Sum.inl ())) (Q1z (fun u14 : Unit => (Sum.inr (Sum.inl ()))) (Q1z (fun u15 : Unit => (Sum.inr (Sum.inr (Sum.inl ())))) (Q1z (fun u16 : Unit => (Sum.inr (Sum.inr (Sum.inr (Sum.inl ()))))) (fun u17 : Unit => (Sum.inr (Sum.inr (Sum.inr (Sum.inr (Sum.inl ())))))))))) y3.2.2.2.2.2.2.2), ()), true))) (fun y4 : Unit => (some (((0 : Int), false, false, false, false, false, (Sum.inr (Sum.inr (Sum.inr (Sum.inr (Sum.inr (Sum.inr (Sum.inr (Sum.inr ())))))))), (Sum.inr (Sum.inr (Sum.inr (Sum.inr (Sum.inr ()))))), ()), false)))))
theorem d8q : Q2j E cpA noE 33 [ri op] = Option.bind (c3b op) (fun y : U17 => some (Po.enc (.tup [(.aggs Z4), pB]) ((fun y : U17 => (y.1, y.2, ())) y))) := by
  refine .trans ?_ (Q0d (Q0g (fun y3 => Q0b) (fun y4 => Q0b)))
  refine (Q0l (nt := 58) (regs := [(0, ri op)])).trans ?_
  refine (pre2 (d8m op _)).trans ?_
  refine .trans Q0c ?_
  refine (d8r op _).trans (Q0e (Q1d (fun y3 => ?_) (fun y4 => ?_)))
  · refine (Q2d (d1w y3 _)).trans ?_
    refine (Q0h).trans ?_
    (rcases y3 with ⟨_, _, _, _, _, _, (_ | _ | _ | _ | _ | _ | _ | _), (_ | _ | _ | _ | _)⟩ <;> kernel_rfl)
  · kernel_rfl
noncomputable def cp1 : Q2g := Q2i cpA 33 [pI] (.tup [(.aggs Z4), pB]) (fun y : U17 => (y.1, y.2, ())) (fun x => c3b x.1)
theorem e4f : Q0p E cp1 := conS eok e4o Q0z fun x => Eq.mp (by kernel_rfl) (d8q x.1)
end
section
variable {α β : Type} (x_ : Int) (low : Int) (high : Int) (k : St → Option α)
noncomputable abbrev C1 := Q0r E.P 41
noncomputable abbrev P1 := @preK α E 41 cp1 noE
def a9e (K : Bool → β) : β := (bif (decide (x_ ≥ low)) then (K (decide (x_ ≤ high))) else (K false))
def a4u : Bool := a9e x_ low high (fun y => y)
theorem c20 (K : Bool → β) : a9e x_ low high K = K (a4u x_ low high) := (Q2h K rfl rfl)
theorem c5h : P1 2 C1 ⟨[(0, ri x_), (1, ri low), (2, ri high)], [], [], 15⟩ k = k ⟨[(6, rb (a4u x_ low high))], [], [], 15⟩ := Eq.trans (by kernel_rfl) (c20 x_ low high (fun y83 : Bool => k ⟨[(6, rb y83)], [], [], 15⟩))
def a89 (K : Bool → β) : β := (K (a4u x_ low high))
def a0s : Bool := a89 x_ low high (fun y => y)
theorem c82 (K : Bool → β) : a89 x_ low high K = K (a0s x_ low high) := rfl
theorem c5g : Q2j E cp1 noE 41 [ri x_, ri low, ri high] = (fun y : Bool => some (rb y : R)) (a0s x_ low high) := by
  refine Eq.trans ?_ (c82 x_ low high (fun y : Bool => some (rb y : R)))
  refine (Q0l (nt := 15) (regs := [(0, ri x_), (1, ri low), (2, ri high)])).trans ?_
  unfold a89
  refine (pre2 (c5h x_ low high _)).trans ?_
  refine (Q0h).trans ?_
  kernel_rfl
noncomputable def cp2 : Q2g := Q2i cp1 41 [pI, pI, pI] (.one pB) (fun y : Bool => y) (fun x => some (a0s x.1 x.2.1 x.2.2.1))
theorem e4g : Q0p E cp2 := conS eok e4f Q0z fun x => Eq.mp (by kernel_rfl) (c5g x.1 x.2.1 x.2.2.1)
end
section
variable {α β : Type} (k_ : Int) (k_' : Bool) (k_'' : Bool) (k_''' : Bool) (k_'''' : Bool) (k_''''' : Bool) (k_'''''' : U6) (k_''''''' : U1) (n_ : Node) (in_ : (List I4)) (k : St → Option α) (q : Kont α)
noncomputable abbrev C2 := Q0r E.P 34
noncomputable abbrev P2 := @preK α E 34 cp2 noE
noncomputable abbrev R2 := @Q0o α E 34 cp2 noE
noncomputable abbrev Q2 := @seqC α E 34 cp2 noE
def a7s (K : Bool → β) : β := (bif ((in_.length : Int) == k_) then (bif (a0s n_.2.2.2.2.2.2.1 (1 : Int) (32767 : Int)) then (bif (a0s n_.2.2.2.2.2.2.2.1 (0 : Int) (31 : Int)) then (K (a0s n_.2.2.2.2.2.2.2.2.1 (-128 : Int) (127 : Int))) else (K false)) else (K false)) else (K false))
def a3l : Bool := a7s k_ n_ in_ (fun y => y)
theorem b85 (K : Bool → β) : a7s k_ n_ in_ K = K (a3l k_ n_ in_) := (Q2h K (Q2h K (Q2h K rfl rfl) rfl) rfl)
abbrev S2_0 : St := ⟨[(3, .one (.cell [di k_, db k_', db k_'', db k_''', db k_'''', db k_''''', Ps.enc Z2 k_'''''', Ps.enc Z0 k_'''''''])), (4, rC a01 n_), (7, rb (a3l k_ n_ in_))], [], [], 106⟩
theorem c1i : P2 2 C2 ⟨[(0, .agg [di k_, db k_', db k_'', db k_''', db k_'''', db k_''''', Ps.enc Z2 k_'''''', Ps.enc Z0 k_''''''']), (1, rA a01 n_), (2, rl Q2n in_)], [], [], 106⟩ k = k (S2_0 k_ k_' k_'' k_''' k_'''' k_''''' k_'''''' k_''''''' n_ in_) := Eq.trans (by (rcases k_'''''' with (_ | _ | _ | _ | _ | _ | _ | _ | _) <;> rcases k_''''''' with (_ | _ | _ | _ | _ | _) <;> kernel_rfl)) (b85 k_ n_ in_ (fun y84 : Bool => k ⟨[(3, .one (.cell [di k_, db k_', db k_'', db k_''', db k_'''', db k_''''', Ps.enc Z2 k_'''''', Ps.enc Z0 k_'''''''])), (4, rC a01 n_), (7, rb y84)], [], [], 106⟩))
def a7t (K : Bool → β) : β := (bif (a3l k_ n_ in_) then (bif (n_.1 == 11) then (K true) else (K ((n_.2.2.2.2.2.2.2.2.2.1 == 0) && ((n_.2.2.2.2.2.2.2.2.2.2.1 == 0) && ((n_.2.2.2.2.2.2.2.2.2.2.2.1 == 0) && true))))) else (K false))
def a1h : Bool := a7t k_ n_ in_ (fun y => y)
theorem b86 (K : Bool → β) : a7t k_ n_ in_ K = K (a1h k_ n_ in_) := (Q2h K (Q2h K rfl rfl) rfl)
abbrev S2_1 : St := ⟨[(3, .one (.cell [di k_, db k_', db k_'', db k_''', db k_'''', db k_''''', Ps.enc Z2 k_'''''', Ps.enc Z0 k_'''''''])), (4, rC a01 n_), (7, rb (a1h k_ n_ in_))], [], [], 106⟩
theorem c1j : P2 1 C2.r.r (S2_0 k_ k_' k_'' k_''' k_'''' k_''''' k_'''''' k_''''''' n_ in_) k = k (S2_1 k_ k_' k_'' k_''' k_'''' k_''''' k_'''''' k_''''''' n_ in_) := Eq.trans (by (rcases k_'''''' with (_ | _ | _ | _ | _ | _ | _ | _ | _) <;> rcases k_''''''' with (_ | _ | _ | _ | _ | _) <;> kernel_rfl)) (b86 k_ n_ in_ (fun y85 : Bool => k ⟨[(3, .one (.cell [di k_, db k_', db k_'', db k_''', db k_'''', db k_''''', Ps.enc Z2 k_'''''', Ps.enc Z0 k_'''''''])), (4, rC a01 n_), (7, rb y85)], [], [], 106⟩))
theorem b1n : P2 1 C2.r.r.r.l (S2_1 k_ k_' k_'' k_''' k_'''' k_''''' k_'''''' k_''''''' n_ in_) k = k ⟨[(3, .one (.cell [di k_, db k_', db k_'', db k_''', db k_'''', db k_''''', Ps.enc Z2 k_'''''', Ps.enc Z0 k_'''''''])), (4, rC a01 n_), (7, rb (a1h k_ n_ in_)), (41, rb k_')], [], [], 106⟩ := by (rcases k_'''''' with (_ | _ | _ | _ | _ | _ | _ | _ | _) <;> rcases k_''''''' with (_ | _ | _ | _ | _ | _) <;> kernel_rfl)
def a7u (K : Bool → β) : β := (bif (a1h k_ n_ in_) then (bif (a0s n_.2.2.1 (1 : Int) (3 : Int)) then (K (a0s n_.2.2.2.1 (1 : Int) (2 : Int))) else (K false)) else (K false))
def a3m : Bool := a7u k_ n_ in_ (fun y => y)
theorem b87 (K : Bool → β) : a7u k_ n_ in_ K = K (a3m k_ n_ in_) := (Q2h K (Q2h K rfl rfl) rfl)
abbrev S2_2 : St := ⟨[(3, .one (.cell [di k_, db k_', db k_'', db k_''', db k_'''', db k_''''', Ps.enc Z2 k_'''''', Ps.enc Z0 k_'''''''])), (4, rC a01 n_), (7, rb (a3m k_ n_ in_))], [], [], 106⟩
theorem c1k : R2 C2.r.r.r.l.r.t (S2_1 k_ k_' k_'' k_''' k_'''' k_''''' k_'''''' k_''''''' n_ in_) q = q .normal (S2_2 k_ k_' k_'' k_''' k_'''' k_''''' k_'''''' k_''''''' n_ in_) := Eq.trans (by (rcases k_'''''' with (_ | _ | _ | _ | _ | _ | _ | _ | _) <;> rcases k_''''''' with (_ | _ | _ | _ | _ | _) <;> kernel_rfl)) (b87 k_ n_ in_ (fun y86 : Bool => q .normal ⟨[(3, .one (.cell [di k_, db k_', db k_'', db k_''', db k_'''', db k_''''', Ps.enc Z2 k_'''''', Ps.enc Z0 k_'''''''])), (4, rC a01 n_), (7, rb y86)], [], [], 106⟩))
def a7v (K : Bool → β) : β := (bif (a1h k_ n_ in_) then (bif (n_.2.2.1 == 0) then (K (n_.2.2.2.1 == 0)) else (K false)) else (K false))
def a3n : Bool := a7v k_ n_ in_ (fun y => y)
theorem b88 (K : Bool → β) : a7v k_ n_ in_ K = K (a3n k_ n_ in_) := (Q2h K (Q2h K rfl rfl) rfl)
abbrev S2_3 : St := ⟨[(3, .one (.cell [di k_, db k_', db k_'', db k_''', db k_'''', db k_''''', Ps.enc Z2 k_'''''', Ps.enc Z0 k_'''''''])), (4, rC a01 n_), (7, rb (a3n k_ n_ in_))], [], [], 106⟩
theorem c1l : R2 C2.r.r.r.l.r.e (S2_1 k_ k_' k_'' k_''' k_'''' k_''''' k_'''''' k_''''''' n_ in_) q = q .normal (S2_3 k_ k_' k_'' k_''' k_'''' k_''''' k_'''''' k_''''''' n_ in_) := Eq.trans (by (rcases k_'''''' with (_ | _ | _ | _ | _ | _ | _ | _ | _) <;> rcases k_''''''' with (_ | _ | _ | _ | _ | _) <;> kernel_rfl)) (b88 k_ n_ in_ (fun y87 : Bool => q .normal ⟨[(3, .one (.cell [di k_, db k_', db k_'', db k_''', db k_'''', db k_''''', Ps.enc Z2 k_'''''', Ps.enc Z0 k_'''''''])), (4, rC a01 n_), (7, rb y87)], [], [], 106⟩))
def a3j (K : Bool → β) : β := (bif k_' then (K (a3m k_ n_ in_)) else (K (a3n k_ n_ in_)))
def a0u : Bool := a3j k_ k_' n_ in_ (fun y => y)
theorem b83 (K : Bool → β) : a3j k_ k_' n_ in_ K = K (a0u k_ k_' n_ in_) := (Q2h K rfl rfl)
abbrev S2_4 : St := ⟨[(3, .one (.cell [di k_, db k_', db k_'', db k_''', db k_'''', db k_''''', Ps.enc Z2 k_'''''', Ps.enc Z0 k_'''''''])), (4, rC a01 n_), (7, rb (a0u k_ k_' n_ in_))], [], [], 106⟩
theorem c1g : R2 C2.r.r.r.l (S2_1 k_ k_' k_'' k_''' k_'''' k_''''' k_'''''' k_''''''' n_ in_) (Q2 C2.r.r.r.r q) = R2 C2.r.r.r.r (S2_4 k_ k_' k_'' k_''' k_'''' k_''''' k_'''''' k_''''''' n_ in_) q := by
  refine Eq.trans ?_ (b83 k_ k_' n_ in_ (fun y88 : Bool => R2 C2.r.r.r.r ⟨[(3, .one (.cell [di k_, db k_', db k_'', db k_''', db k_'''', db k_''''', Ps.enc Z2 k_'''''', Ps.enc Z0 k_'''''''])), (4, rC a01 n_), (7, rb y88)], [], [], 106⟩ q))
  unfold a3j
  refine (Q2d (b1n k_ k_' k_'' k_''' k_'''' k_''''' k_'''''' k_''''''' n_ in_ _)).trans ?_
  refine (Q0m (b := k_') (st' := (S2_1 k_ k_' k_'' k_''' k_'''' k_''''' k_'''''' k_''''''' n_ in_)) (hs := by (rcases k_'''''' with (_ | _ | _ | _ | _ | _ | _ | _ | _) <;> rcases k_''''''' with (_ | _ | _ | _ | _ | _) <;> kernel_rfl))).trans (Q2f ?_ ?_)
  · refine (c1k k_ k_' k_'' k_''' k_'''' k_''''' k_'''''' k_''''''' n_ in_ _).trans ?_
    refine (Q0a (st' := (S2_2 k_ k_' k_'' k_''' k_'''' k_''''' k_'''''' k_''''''' n_ in_)) (hs := by (rcases k_'''''' with (_ | _ | _ | _ | _ | _ | _ | _ | _) <;> rcases k_''''''' with (_ | _ | _ | _ | _ | _) <;> kernel_rfl))).trans ?_
    (rcases k_'''''' with (_ | _ | _ | _ | _ | _ | _ | _ | _) <;> rcases k_''''''' with (_ | _ | _ | _ | _ | _) <;> kernel_rfl)
  · refine (c1l k_ k_' k_'' k_''' k_'''' k_''''' k_'''''' k_''''''' n_ in_ _).trans ?_
    refine (Q0a (st' := (S2_3 k_ k_' k_'' k_''' k_'''' k_''''' k_'''''' k_''''''' n_ in_)) (hs := by (rcases k_'''''' with (_ | _ | _ | _ | _ | _ | _ | _ | _) <;> rcases k_''''''' with (_ | _ | _ | _ | _ | _) <;> kernel_rfl))).trans ?_
    (rcases k_'''''' with (_ | _ | _ | _ | _ | _ | _ | _ | _) <;> rcases k_''''''' with (_ | _ | _ | _ | _ | _) <;> kernel_rfl)
theorem b1o : P2 1 C2.r.r.r.r.l.b (S2_4 k_ k_' k_'' k_''' k_'''' k_''''' k_'''''' k_''''''' n_ in_) k = k ⟨[(3, .one (.cell [di k_, db k_', db k_'', db k_''', db k_'''', db k_''''', Ps.enc Z2 k_'''''', Ps.enc Z0 k_'''''''])), (4, rC a01 n_), (7, rb (a0u k_ k_' n_ in_)), (70, rb k_'')], [], [], 106⟩ := by (rcases k_'''''' with (_ | _ | _ | _ | _ | _ | _ | _ | _) <;> rcases k_''''''' with (_ | _ | _ | _ | _ | _) <;> kernel_rfl)
def a7x (K : Bool → β) : β := (bif (a0u k_ k_' n_ in_) then (K (a0s n_.2.2.2.2.1 (0 : Int) (min (1 : Int) (IntKind.wrap .i64 (n_.2.2.1 - 1))))) else (K false))
def a3p : Bool := a7x k_ k_' n_ in_ (fun y => y)
theorem b8a (K : Bool → β) : a7x k_ k_' n_ in_ K = K (a3p k_ k_' n_ in_) := (Q2h K rfl rfl)
abbrev S2_5 : St := ⟨[(3, .one (.cell [di k_, db k_', db k_'', db k_''', db k_'''', db k_''''', Ps.enc Z2 k_'''''', Ps.enc Z0 k_'''''''])), (4, rC a01 n_), (7, rb (a3p k_ k_' n_ in_))], [], [], 106⟩
theorem c1o : R2 C2.r.r.r.r.l.b.r.t (S2_4 k_ k_' k_'' k_''' k_'''' k_''''' k_'''''' k_''''''' n_ in_) q = q .normal (S2_5 k_ k_' k_'' k_''' k_'''' k_''''' k_'''''' k_''''''' n_ in_) := Eq.trans (by (rcases k_'''''' with (_ | _ | _ | _ | _ | _ | _ | _ | _) <;> rcases k_''''''' with (_ | _ | _ | _ | _ | _) <;> kernel_rfl)) (b8a k_ k_' n_ in_ (fun y89 : Bool => q .normal ⟨[(3, .one (.cell [di k_, db k_', db k_'', db k_''', db k_'''', db k_''''', Ps.enc Z2 k_'''''', Ps.enc Z0 k_'''''''])), (4, rC a01 n_), (7, rb y89)], [], [], 106⟩))
theorem b1p : P2 1 C2.r.r.r.r.l.b.r.e (S2_4 k_ k_' k_'' k_''' k_'''' k_''''' k_'''''' k_''''''' n_ in_) k = k ⟨[(3, .one (.cell [di k_, db k_', db k_'', db k_''', db k_'''', db k_''''', Ps.enc Z2 k_'''''', Ps.enc Z0 k_'''''''])), (4, rC a01 n_), (7, rb (a0u k_ k_' n_ in_)), (83, rb k_''')], [], [], 106⟩ := by (rcases k_'''''' with (_ | _ | _ | _ | _ | _ | _ | _ | _) <;> rcases k_''''''' with (_ | _ | _ | _ | _ | _) <;> kernel_rfl)
def a6i (K : Bool → β) : β := (bif (a0u k_ k_' n_ in_) then (K (n_.2.2.2.2.1 == 1)) else (K false))
def a2y : Bool := a6i k_ k_' n_ in_ (fun y => y)
theorem b5o (K : Bool → β) : a6i k_ k_' n_ in_ K = K (a2y k_ k_' n_ in_) := (Q2h K rfl rfl)
abbrev S2_6 : St := ⟨[(3, .one (.cell [di k_, db k_', db k_'', db k_''', db k_'''', db k_''''', Ps.enc Z2 k_'''''', Ps.enc Z0 k_'''''''])), (4, rC a01 n_), (7, rb (a2y k_ k_' n_ in_))], [], [], 106⟩
theorem b9m : R2 C2.r.r.r.r.l.b.r.e.r.t (S2_4 k_ k_' k_'' k_''' k_'''' k_''''' k_'''''' k_''''''' n_ in_) q = q .normal (S2_6 k_ k_' k_'' k_''' k_'''' k_''''' k_'''''' k_''''''' n_ in_) := Eq.trans (by (rcases k_'''''' with (_ | _ | _ | _ | _ | _ | _ | _ | _) <;> rcases k_''''''' with (_ | _ | _ | _ | _ | _) <;> kernel_rfl)) (b5o k_ k_' n_ in_ (fun y90 : Bool => q .normal ⟨[(3, .one (.cell [di k_, db k_', db k_'', db k_''', db k_'''', db k_''''', Ps.enc Z2 k_'''''', Ps.enc Z0 k_'''''''])), (4, rC a01 n_), (7, rb y90)], [], [], 106⟩))
def a7w (K : Bool → β) : β := (bif (a0u k_ k_' n_ in_) then (K (n_.2.2.2.2.1 == 0)) else (K false))
def a3o : Bool := a7w k_ k_' n_ in_ (fun y => y)
theorem b89 (K : Bool → β) : a7w k_ k_' n_ in_ K = K (a3o k_ k_' n_ in_) := (Q2h K rfl rfl)
abbrev S2_7 : St := ⟨[(3, .one (.cell [di k_, db k_', db k_'', db k_''', db k_'''', db k_''''', Ps.enc Z2 k_'''''', Ps.enc Z0 k_'''''''])), (4, rC a01 n_), (7, rb (a3o k_ k_' n_ in_))], [], [], 106⟩
theorem c1n : R2 C2.r.r.r.r.l.b.r.e.r.e (S2_4 k_ k_' k_'' k_''' k_'''' k_''''' k_'''''' k_''''''' n_ in_) q = q .normal (S2_7 k_ k_' k_'' k_''' k_'''' k_''''' k_'''''' k_''''''' n_ in_) := Eq.trans (by (rcases k_'''''' with (_ | _ | _ | _ | _ | _ | _ | _ | _) <;> rcases k_''''''' with (_ | _ | _ | _ | _ | _) <;> kernel_rfl)) (b89 k_ k_' n_ in_ (fun y91 : Bool => q .normal ⟨[(3, .one (.cell [di k_, db k_', db k_'', db k_''', db k_'''', db k_''''', Ps.enc Z2 k_'''''', Ps.enc Z0 k_'''''''])), (4, rC a01 n_), (7, rb y91)], [], [], 106⟩))
def a3k (K : Bool → β) : β := (bif k_'' then (K (a3p k_ k_' n_ in_)) else (bif k_''' then (K (a2y k_ k_' n_ in_)) else (K (a3o k_ k_' n_ in_))))
def a0z : Bool := a3k k_ k_' k_'' k_''' n_ in_ (fun y => y)
theorem b84 (K : Bool → β) : a3k k_ k_' k_'' k_''' n_ in_ K = K (a0z k_ k_' k_'' k_''' n_ in_) := (Q2h K rfl (Q2h K rfl rfl))
abbrev S2_8 : St := ⟨[(3, .one (.cell [di k_, db k_', db k_'', db k_''', db k_'''', db k_''''', Ps.enc Z2 k_'''''', Ps.enc Z0 k_'''''''])), (4, rC a01 n_), (7, rb (a0z k_ k_' k_'' k_''' n_ in_))], [], [], 106⟩
theorem c1h : R2 C2.r.r.r.r.l (S2_4 k_ k_' k_'' k_''' k_'''' k_''''' k_'''''' k_''''''' n_ in_) (Q2 C2.r.r.r.r.r q) = R2 C2.r.r.r.r.r (S2_8 k_ k_' k_'' k_''' k_'''' k_''''' k_'''''' k_''''''' n_ in_) q := by
  refine Eq.trans ?_ (b84 k_ k_' k_'' k_''' n_ in_ (fun y92 : Bool => R2 C2.r.r.r.r.r ⟨[(3, .one (.cell [di k_, db k_', db k_'', db k_''', db k_'''', db k_''''', Ps.enc Z2 k_'''''', Ps.enc Z0 k_'''''''])), (4, rC a01 n_), (7, rb y92)], [], [], 106⟩ q))
  unfold a3k
  refine (Q0j (id := 0)).trans ?_
  refine (Q2d (b1o k_ k_' k_'' k_''' k_'''' k_''''' k_'''''' k_''''''' n_ in_ _)).trans ?_
  refine (Q0m (b := k_'') (st' := (S2_4 k_ k_' k_'' k_''' k_'''' k_''''' k_'''''' k_''''''' n_ in_)) (hs := by (rcases k_'''''' with (_ | _ | _ | _ | _ | _ | _ | _ | _) <;> rcases k_''''''' with (_ | _ | _ | _ | _ | _) <;> kernel_rfl))).trans (Q2f ?_ ?_)
  · refine (c1o k_ k_' k_'' k_''' k_'''' k_''''' k_'''''' k_''''''' n_ in_ _).trans ?_
    refine Q0f.trans ?_
    refine (Q0a (st' := (S2_5 k_ k_' k_'' k_''' k_'''' k_''''' k_'''''' k_''''''' n_ in_)) (hs := by (rcases k_'''''' with (_ | _ | _ | _ | _ | _ | _ | _ | _) <;> rcases k_''''''' with (_ | _ | _ | _ | _ | _) <;> kernel_rfl))).trans ?_
    (rcases k_'''''' with (_ | _ | _ | _ | _ | _ | _ | _ | _) <;> rcases k_''''''' with (_ | _ | _ | _ | _ | _) <;> kernel_rfl)
  · refine (Q2d (b1p k_ k_' k_'' k_''' k_'''' k_''''' k_'''''' k_''''''' n_ in_ _)).trans ?_
    refine (Q0m (b := k_''') (st' := (S2_4 k_ k_' k_'' k_''' k_'''' k_''''' k_'''''' k_''''''' n_ in_)) (hs := by (rcases k_'''''' with (_ | _ | _ | _ | _ | _ | _ | _ | _) <;> rcases k_''''''' with (_ | _ | _ | _ | _ | _) <;> kernel_rfl))).trans (Q2f ?_ ?_)
    · refine (b9m k_ k_' k_'' k_''' k_'''' k_''''' k_'''''' k_''''''' n_ in_ _).trans ?_
      refine Q0f.trans ?_
      refine (Q0a (st' := (S2_6 k_ k_' k_'' k_''' k_'''' k_''''' k_'''''' k_''''''' n_ in_)) (hs := by (rcases k_'''''' with (_ | _ | _ | _ | _ | _ | _ | _ | _) <;> rcases k_''''''' with (_ | _ | _ | _ | _ | _) <;> kernel_rfl))).trans ?_
      (rcases k_'''''' with (_ | _ | _ | _ | _ | _ | _ | _ | _) <;> rcases k_''''''' with (_ | _ | _ | _ | _ | _) <;> kernel_rfl)
    · refine (c1n k_ k_' k_'' k_''' k_'''' k_''''' k_'''''' k_''''''' n_ in_ _).trans ?_
      refine Q0f.trans ?_
      refine (Q0a (st' := (S2_7 k_ k_' k_'' k_''' k_'''' k_''''' k_'''''' k_''''''' n_ in_)) (hs := by (rcases k_'''''' with (_ | _ | _ | _ | _ | _ | _ | _ | _) <;> rcases k_''''''' with (_ | _ | _ | _ | _ | _) <;> kernel_rfl))).trans ?_
      (rcases k_'''''' with (_ | _ | _ | _ | _ | _ | _ | _ | _) <;> rcases k_''''''' with (_ | _ | _ | _ | _ | _) <;> kernel_rfl)
theorem b1q : P2 1 C2.r.r.r.r.r.l (S2_8 k_ k_' k_'' k_''' k_'''' k_''''' k_'''''' k_''''''' n_ in_) k = k ⟨[(4, rC a01 n_), (7, rb (a0z k_ k_' k_'' k_''' n_ in_)), (93, rb k_'''')], [], [], 106⟩ := by (rcases k_'''''' with (_ | _ | _ | _ | _ | _ | _ | _ | _) <;> rcases k_''''''' with (_ | _ | _ | _ | _ | _) <;> kernel_rfl)
def a6j (K : Bool → β) : β := (bif (a0z k_ k_' k_'' k_''' n_ in_) then (K (a0s n_.2.2.2.2.2.1 (1 : Int) (8 : Int))) else (K false))
def a2z : Bool := a6j k_ k_' k_'' k_''' n_ in_ (fun y => y)
theorem b5p (K : Bool → β) : a6j k_ k_' k_'' k_''' n_ in_ K = K (a2z k_ k_' k_'' k_''' n_ in_) := (Q2h K rfl rfl)
abbrev S2_9 : St := ⟨[(4, rC a01 n_), (7, rb (a0z k_ k_' k_'' k_''' n_ in_))], [], [], 106⟩
theorem b9n : P2 1 C2.r.r.r.r.r.l.r.t (S2_9 k_ k_' k_'' k_''' n_ in_) k = k ⟨[(6, rb (a2z k_ k_' k_'' k_''' n_ in_))], [], [], 106⟩ := Eq.trans (by kernel_rfl) (b5p k_ k_' k_'' k_''' n_ in_ (fun y94 : Bool => k ⟨[(6, rb y94)], [], [], 106⟩))
def a6k (K : Bool → β) : β := (bif (a0z k_ k_' k_'' k_''' n_ in_) then (K (n_.2.2.2.2.2.1 == 0)) else (K false))
def a30 : Bool := a6k k_ k_' k_'' k_''' n_ in_ (fun y => y)
theorem b5q (K : Bool → β) : a6k k_ k_' k_'' k_''' n_ in_ K = K (a30 k_ k_' k_'' k_''' n_ in_) := (Q2h K rfl rfl)
theorem b9o : P2 1 C2.r.r.r.r.r.r (S2_9 k_ k_' k_'' k_''' n_ in_) k = k ⟨[(6, rb (a30 k_ k_' k_'' k_''' n_ in_))], [], [], 106⟩ := Eq.trans (by kernel_rfl) (b5q k_ k_' k_'' k_''' n_ in_ (fun y95 : Bool => k ⟨[(6, rb y95)], [], [], 106⟩))
def a5t {β : Type} (k_ : Int) (k_' : Bool) (k_'' : Bool) (k_''' : Bool) (k_'''' : Bool) (k_''''' : Bool) (k_'''''' : U6) (k_''''''' : U1) (n_ : Node) (in_ : (List I4)) (K : Bool → β) : β := (bif k_'''' then (K (a2z k_ k_' k_'' k_''' n_ in_)) else (K (a30 k_ k_' k_'' k_''' n_ in_)))
def a4b : Bool := a5t k_ k_' k_'' k_''' k_'''' k_''''' k_'''''' k_''''''' n_ in_ (fun y => y)
theorem c3a (K : Bool → β) : a5t k_ k_' k_'' k_''' k_'''' k_''''' k_'''''' k_''''''' n_ in_ K = K (a4b k_ k_' k_'' k_''' k_'''' k_''''' k_'''''' k_''''''' n_ in_) := (Q2h K rfl rfl)
theorem c1f : Q2j E cp2 noE 34 [.agg [di k_, db k_', db k_'', db k_''', db k_'''', db k_''''', Ps.enc Z2 k_'''''', Ps.enc Z0 k_'''''''], rA a01 n_, rl Q2n in_] = (fun y : Bool => some (rb y : R)) (a4b k_ k_' k_'' k_''' k_'''' k_''''' k_'''''' k_''''''' n_ in_) := by
  refine Eq.trans ?_ (c3a k_ k_' k_'' k_''' k_'''' k_''''' k_'''''' k_''''''' n_ in_ (fun y : Bool => some (rb y : R)))
  refine (Q0l (nt := 106) (regs := [(0, .agg [di k_, db k_', db k_'', db k_''', db k_'''', db k_''''', Ps.enc Z2 k_'''''', Ps.enc Z0 k_''''''']), (1, rA a01 n_), (2, rl Q2n in_)]) (by (rcases k_'''''' with (_ | _ | _ | _ | _ | _ | _ | _ | _) <;> rcases k_''''''' with (_ | _ | _ | _ | _ | _) <;> kernel_rfl)) (by (rcases k_'''''' with (_ | _ | _ | _ | _ | _ | _ | _ | _) <;> rcases k_''''''' with (_ | _ | _ | _ | _ | _) <;> kernel_rfl))).trans ?_
  unfold a5t
  refine (pre2 (c1i k_ k_' k_'' k_''' k_'''' k_''''' k_'''''' k_''''''' n_ in_ _)).trans ?_
  refine (Q2d (c1j k_ k_' k_'' k_''' k_'''' k_''''' k_'''''' k_''''''' n_ in_ _)).trans ?_
  refine .trans Q0c ?_
  refine (c1g k_ k_' k_'' k_''' k_'''' k_''''' k_'''''' k_''''''' n_ in_ _).trans ?_
  refine .trans Q0c ?_
  refine (c1h k_ k_' k_'' k_''' k_'''' k_''''' k_'''''' k_''''''' n_ in_ _).trans ?_
  refine .trans Q0c ?_
  refine (Q2d (b1q k_ k_' k_'' k_''' k_'''' k_''''' k_'''''' k_''''''' n_ in_ _)).trans ?_
  refine (Q0m (b := k_'''') (st' := (S2_9 k_ k_' k_'' k_''' n_ in_)) (hs := by (rcases k_'''''' with (_ | _ | _ | _ | _ | _ | _ | _ | _) <;> rcases k_''''''' with (_ | _ | _ | _ | _ | _) <;> kernel_rfl))).trans (Q2f ?_ ?_)
  · refine (Q2d (b9n k_ k_' k_'' k_''' n_ in_ _)).trans ?_
    refine (Q0h).trans ?_
    refine Q0k.trans ?_
    (rcases k_'''''' with (_ | _ | _ | _ | _ | _ | _ | _ | _) <;> rcases k_''''''' with (_ | _ | _ | _ | _ | _) <;> kernel_rfl)
  · refine (Q0i).trans ?_
    refine (Q0a (st' := (S2_9 k_ k_' k_'' k_''' n_ in_)) (hs := by (rcases k_'''''' with (_ | _ | _ | _ | _ | _ | _ | _ | _) <;> rcases k_''''''' with (_ | _ | _ | _ | _ | _) <;> kernel_rfl))).trans ?_
    refine (Q2d (b9o k_ k_' k_'' k_''' n_ in_ _)).trans ?_
    refine (Q0h).trans ?_
    (rcases k_'''''' with (_ | _ | _ | _ | _ | _ | _ | _ | _) <;> rcases k_''''''' with (_ | _ | _ | _ | _ | _) <;> kernel_rfl)
noncomputable def cp3 : Q2g := Q2i cp2 34 [(.aggs Z4), (.agg a01), (pL Q2n)] (.one pB) (fun y : Bool => y) (fun x => some (a4b x.1.1 x.1.2.1 x.1.2.2.1 x.1.2.2.2.1 x.1.2.2.2.2.1 x.1.2.2.2.2.2.1 x.1.2.2.2.2.2.2.1 x.1.2.2.2.2.2.2.2.1 x.2.1 x.2.2.1))
theorem e4h : Q0p E cp3 := conS eok e4g Q0z fun x => Eq.mp (by kernel_rfl) (c1f x.1.1 x.1.2.1 x.1.2.2.1 x.1.2.2.2.1 x.1.2.2.2.2.1 x.1.2.2.2.2.2.1 x.1.2.2.2.2.2.2.1 x.1.2.2.2.2.2.2.2.1 x.2.1 x.2.2.1)
end
section
variable {α β : Type} (v_ : I4) (c1_ : Node) (k : St → Option α)
noncomputable abbrev C3 := Q0r E.P 36
noncomputable abbrev P3 := @preK α E 36 cp3 noE
theorem c2y : P3 2 C3 ⟨[(0, rA Q2n v_), (1, rC a01 c1_)], [], [], 9⟩ k = k ⟨[(3, rb (v_.2.2.2 != c1_.2.2.2.2.2.2.2.2.1))], [], [], 9⟩ := by kernel_rfl
def a6f (K : Bool → β) : β := (K (v_.2.2.2 != c1_.2.2.2.2.2.2.2.2.1))
def a29 : Bool := a6f v_ c1_ (fun y => y)
theorem c53 (K : Bool → β) : a6f v_ c1_ K = K (a29 v_ c1_) := rfl
theorem c2z : Q2j E cp3 noE 36 [rA Q2n v_, rC a01 c1_] = (fun y : Bool => some (rb y : R)) (a29 v_ c1_) := by
  refine Eq.trans ?_ (c53 v_ c1_ (fun y : Bool => some (rb y : R)))
  refine (Q0l (nt := 9) (regs := [(0, rA Q2n v_), (1, rC a01 c1_)])).trans ?_
  unfold a6f
  refine (pre2 (c2y v_ c1_ _)).trans ?_
  refine (Q0h).trans ?_
  kernel_rfl
noncomputable def cp4 : Q2g := Q2i cp3 36 [(.agg Q2n), (.one (.cell (.cons (.g (.int .i64)) (.cons (.g (.sl (.one (.int .i64)))) (.cons (.g (.int .i64)) (.cons (.g (.int .i64)) (.cons (.g (.int .i64)) (.cons (.g (.int .i64)) (.cons (.g (.int .i64)) (.cons (.g (.int .i64)) (.cons (.g (.int .i64)) (.cons (.g (.int .i64)) (.cons (.g (.int .i64)) (.cons (.g (.int .i64)) (.cons (.g (.sl (.one (.int .i8)))) (.cons (.g (.sl (.one (.int .i32)))) .nil))))))))))))))))] (.one pB) (fun y : Bool => y) (fun x => some (a29 x.1 (x.2.1.1, x.2.1.2.1, x.2.1.2.2.1, x.2.1.2.2.2.1, x.2.1.2.2.2.2.1, x.2.1.2.2.2.2.2.1, x.2.1.2.2.2.2.2.2.1, x.2.1.2.2.2.2.2.2.2.1, x.2.1.2.2.2.2.2.2.2.2.1, x.2.1.2.2.2.2.2.2.2.2.2.1, x.2.1.2.2.2.2.2.2.2.2.2.2.1, x.2.1.2.2.2.2.2.2.2.2.2.2.2.1, x.2.1.2.2.2.2.2.2.2.2.2.2.2.2.1, x.2.1.2.2.2.2.2.2.2.2.2.2.2.2.2.1)))
theorem e4i : Q0p E cp4 := conS eok e4h Q0z fun x => Eq.mp (by kernel_rfl) (c2z x.1 (x.2.1.1, x.2.1.2.1, x.2.1.2.2.1, x.2.1.2.2.2.1, x.2.1.2.2.2.2.1, x.2.1.2.2.2.2.2.1, x.2.1.2.2.2.2.2.2.1, x.2.1.2.2.2.2.2.2.2.1, x.2.1.2.2.2.2.2.2.2.2.1, x.2.1.2.2.2.2.2.2.2.2.2.1, x.2.1.2.2.2.2.2.2.2.2.2.2.1, x.2.1.2.2.2.2.2.2.2.2.2.2.2.1, x.2.1.2.2.2.2.2.2.2.2.2.2.2.2.1, x.2.1.2.2.2.2.2.2.2.2.2.2.2.2.2.1))
end
section
variable {α : Type} (s_ : (List I4)) (f_ : Node) (s109 : Int) (k : St → Option α) (q : Kont α)
noncomputable abbrev C4 := Q0r E.P 64
noncomputable abbrev P4 := @preK α E 64 cp4 noE
noncomputable abbrev R4 := @Q0o α E 64 cp4 noE
abbrev S4_0 : St := ⟨[(0, rl Q2n s_), (1, .one (.fn 36 [.cell (a01.leaves f_)]))], [], [], 19⟩
theorem a3r : P4 1 C4 (S4_0 s_ f_) k = k (S4_0 s_ f_) := by kernel_rfl
abbrev S4_1 : St := ⟨[(0, rl Q2n s_), (1, .one (.fn 36 [.cell (a01.leaves f_)])), (7, ri (s_.length : Int)), (8, ri 0)], [], [], 19⟩
theorem a3s : P4 1 C4.r.l (S4_0 s_ f_) k = k (S4_1 s_ f_) := by kernel_rfl
abbrev S4_2 : St := ⟨[(0, rl Q2n s_), (1, .one (.fn 36 [.cell (a01.leaves f_)])), (7, ri (s_.length : Int)), (8, ri s109)], [], [], 19⟩
theorem a3t : P4 1 C4.r.l.r.b.b (S4_2 s_ f_ s109) k = k ⟨[(0, rl Q2n s_), (1, .one (.fn 36 [.cell (a01.leaves f_)])), (7, ri (s_.length : Int)), (8, ri s109), (9, rb (decide (s109 < (s_.length : Int))))], [], [], 19⟩ := by kernel_rfl
def a1d : Option Unit := (bif (decide ((0 : Int) ≤ s109)) then (bif (decide (s109 < (s_.length : Int))) then (some ()) else none) else none)
theorem a3w : P4 2 C4.r.l.r.b.b.r.r.l.b (S4_2 s_ f_ s109) k = Option.bind (a1d s_ s109) (fun y111 : Unit => k ⟨[(0, rl Q2n s_), (1, .one (.fn 36 [.cell (a01.leaves f_)])), (5, ri s109), (7, ri (s_.length : Int)), (8, ri s109), (16, rb (a29 (gt s_ s109 dI4) f_))], [], [], 19⟩) := .trans (by kernel_rfl) (Q2b (Q2b Q0b Q0n) Q0n)
abbrev S4_3 : St := ⟨[(0, rl Q2n s_), (1, .one (.fn 36 [.cell (a01.leaves f_)])), (5, ri s109), (7, ri (s_.length : Int)), (8, ri s109)], [], [], 19⟩
theorem a3d : P4 1 C4.r.l.r.b.b.r.r.l.b.r.r.t (S4_3 s_ f_ s109) k = k ⟨[(4, ri s109)], [], [], 19⟩ := by kernel_rfl
theorem a3x : R4 C4.r.l.r.b.b.r.r.r (S4_2 s_ f_ s109) q = q .normal ⟨[(0, rl Q2n s_), (1, .one (.fn 36 [.cell (a01.leaves f_)])), (7, ri (s_.length : Int)), (8, ri (IntKind.wrap .i64 (s109 + 1)))], [], [], 19⟩ := by kernel_rfl
def a0q : Option (Int ⊕ (Int ⊕ Int)) := (bif (decide (s109 < (s_.length : Int))) then (Option.bind (a1d s_ s109) (fun y111 : Unit => (bif (a29 (gt s_ s109 dI4) f_) then (some (Sum.inr (Sum.inr s109))) else (some (Sum.inl (IntKind.wrap .i64 (s109 + 1))))))) else (some (Sum.inr (Sum.inl s109))))
abbrev S4_4 (y112 : Int) : St := ⟨[(0, rl Q2n s_), (1, .one (.fn 36 [.cell (a01.leaves f_)])), (7, ri (s_.length : Int)), (8, ri y112)], [], [], 19⟩
theorem a3f : R4 C4.r.l.r.b.b (S4_2 s_ f_ s109) (Q0w 0 q) = Option.bind (a0q s_ f_ s109) (Q1z (fun y : Int => q .normal ⟨[(0, rl Q2n s_), (1, .one (.fn 36 [.cell (a01.leaves f_)])), (7, ri (s_.length : Int)), (8, ri y)], [], [], 19⟩) (Q1z (fun y112 : Int => q (.exit 0) (S4_4 s_ f_ y112)) (fun y113 : Int => q .ret ⟨[(4, ri y113)], [], [], 19⟩))) := by
  refine .trans ?_ (Q2b (Q0d fun y111 => (Q2b e3_2 e3_0)) e3_1)
  refine (Q2d (a3t s_ f_ s109 _)).trans ?_
  refine .trans Q0c ?_
  refine (Q0m (b := (decide (s109 < (s_.length : Int)))) (st' := (S4_2 s_ f_ s109)) ).trans (Q2f ?_ ?_)
  · refine (Q0i).trans ?_
    refine (Q0a (st' := (S4_2 s_ f_ s109))).trans ?_
    refine .trans Q0c ?_
    refine (Q0j (id := 1)).trans ?_
    refine (pre2 (a3w s_ f_ s109 _)).trans (Q0e fun y111 => ?_)
    refine (Q0m (b := (a29 (gt s_ s109 dI4) f_)) (st' := (S4_3 s_ f_ s109)) ).trans (Q2f ?_ ?_)
    · refine (Q2d (a3d s_ f_ s109 _)).trans ?_
      refine (Q0h).trans ?_
      refine Q0t.trans ?_
      refine Q0k.trans ?_
      kernel_rfl
    · refine (Q0i).trans ?_
      refine Q0f.trans ?_
      refine (Q0a (st' := (S4_2 s_ f_ s109))).trans ?_
      refine (a3x s_ f_ s109 _).trans ?_
      kernel_rfl
  · refine ((Q1f (j := 0))).trans ?_
    refine Q0v.trans ?_
    kernel_rfl
theorem a3v : R4 C4.r.l.r.b (S4_1 s_ f_) q = Option.bind (iterN (a0q s_ f_) LL (0 : Int)) (Q1z (fun y112 : Int => q (.exit 0) (S4_4 s_ f_ y112)) (fun y113 : Int => q .ret ⟨[(4, ri y113)], [], [], 19⟩)) :=
  Eq.trans (by kernel_rfl) (loop_iter2 (S := fun s109 : Int => (S4_2 s_ f_ s109)) (Y1 := fun y112 : Int => ((.exit 0), (S4_4 s_ f_ y112))) (Y2 := fun y113 : Int => (.ret, ⟨[(4, ri y113)], [], [], 19⟩)) (fun s q => a3f s_ f_ s q) (fun z => rfl) (fun z => rfl) LL (0 : Int))
theorem a3e : P4 1 C4.r.r ⟨[], [], [], 19⟩ k = k ⟨[(4, ri (-1 : Int))], [], [], 19⟩ := by kernel_rfl
def a0m : Option Int := (Option.bind (iterN (a0q s_ f_) LL (0 : Int)) (Q1z (fun y112 : Int => (some (-1 : Int))) (fun y113 : Int => (some y113))))
theorem a3u : Q2j E cp4 noE 64 [rl Q2n s_, .one (.fn 36 [.cell (a01.leaves f_)])] = Option.bind (a0m s_ f_) (fun y : Int => some (ri y : R)) := by
  refine .trans ?_ (Q0d (Q0g (fun y112 => Q0b) (fun y113 => Q0b)))
  refine (Q0l (nt := 19) (regs := [(0, rl Q2n s_), (1, .one (.fn 36 [.cell (a01.leaves f_)]))])).trans ?_
  refine (Q2d (a3r s_ f_ _)).trans ?_
  refine .trans Q0c ?_
  refine (Q2d (a3s s_ f_ _)).trans ?_
  refine (Q0j (id := 0)).trans ?_
  refine (a3v s_ f_ _).trans (Q0e (Q1d (fun y112 => ?_) (fun y113 => ?_)))
  · refine Q0u.trans ?_
    refine (Q0a (st' := ⟨[], [], [], 19⟩)).trans ?_
    refine (Q2d (a3e _)).trans ?_
    refine (Q0h).trans ?_
    kernel_rfl
  · refine Q0t.trans ?_
    refine Q0k.trans ?_
    kernel_rfl
noncomputable def cp5 : Q2g := Q2i cp4 64 [(pL Q2n), (.one (.fn 36 (.cons (.cell (.cons (.g (.int .i64)) (.cons (.g (.sl (.one (.int .i64)))) (.cons (.g (.int .i64)) (.cons (.g (.int .i64)) (.cons (.g (.int .i64)) (.cons (.g (.int .i64)) (.cons (.g (.int .i64)) (.cons (.g (.int .i64)) (.cons (.g (.int .i64)) (.cons (.g (.int .i64)) (.cons (.g (.int .i64)) (.cons (.g (.int .i64)) (.cons (.g (.sl (.one (.int .i8)))) (.cons (.g (.sl (.one (.int .i32)))) .nil))))))))))))))) .nil)))] (.one pI) (fun y : Int => y) (fun x => a0m x.1 (x.2.1.1.1, x.2.1.1.2.1, x.2.1.1.2.2.1, x.2.1.1.2.2.2.1, x.2.1.1.2.2.2.2.1, x.2.1.1.2.2.2.2.2.1, x.2.1.1.2.2.2.2.2.2.1, x.2.1.1.2.2.2.2.2.2.2.1, x.2.1.1.2.2.2.2.2.2.2.2.1, x.2.1.1.2.2.2.2.2.2.2.2.2.1, x.2.1.1.2.2.2.2.2.2.2.2.2.2.1, x.2.1.1.2.2.2.2.2.2.2.2.2.2.2.1, x.2.1.1.2.2.2.2.2.2.2.2.2.2.2.2.1, x.2.1.1.2.2.2.2.2.2.2.2.2.2.2.2.2.1))
theorem e4j : Q0p E cp5 := conS eok e4i Q0z fun x => Eq.mp (by kernel_rfl) (a3u x.1 (x.2.1.1.1, x.2.1.1.2.1, x.2.1.1.2.2.1, x.2.1.1.2.2.2.1, x.2.1.1.2.2.2.2.1, x.2.1.1.2.2.2.2.2.1, x.2.1.1.2.2.2.2.2.2.1, x.2.1.1.2.2.2.2.2.2.2.1, x.2.1.1.2.2.2.2.2.2.2.2.1, x.2.1.1.2.2.2.2.2.2.2.2.2.1, x.2.1.1.2.2.2.2.2.2.2.2.2.2.1, x.2.1.1.2.2.2.2.2.2.2.2.2.2.2.1, x.2.1.1.2.2.2.2.2.2.2.2.2.2.2.2.1, x.2.1.1.2.2.2.2.2.2.2.2.2.2.2.2.2.1))
end
section
variable {α : Type} (s_ : (List I4)) (f_ : Node) (k : St → Option α)
noncomputable abbrev C5 := Q0r E.P 35
noncomputable abbrev P5 := @preK α E 35 cp5 noE
theorem a2p : P5 2 C5 ⟨[(0, rl Q2n s_), (1, .one (.fn 36 [.cell (a01.leaves f_)]))], [], [], 9⟩ k = Option.bind (a0m s_ f_) fun y114 : Int => k ⟨[(4, rb (decide (y114 ≥ 0)))], [], [], 9⟩ := by kernel_rfl
def a0v : Option Bool := (Option.bind (a0m s_ f_) (fun y114 : Int => (some (decide (y114 ≥ 0)))))
theorem a2o : Q2j E cp5 noE 35 [rl Q2n s_, .one (.fn 36 [.cell (a01.leaves f_)])] = Option.bind (a0v s_ f_) (fun y : Bool => some (rb y : R)) := by
  refine .trans ?_ (Q0d fun y114 => Q0b)
  refine (Q0l (nt := 9) (regs := [(0, rl Q2n s_), (1, .one (.fn 36 [.cell (a01.leaves f_)]))])).trans ?_
  refine (pre2 (a2p s_ f_ _)).trans (Q0e fun y114 => ?_)
  refine (Q0h).trans ?_
  kernel_rfl
noncomputable def cp6 : Q2g := Q2i cp5 35 [(pL Q2n), (.one (.fn 36 (.cons (.cell (.cons (.g (.int .i64)) (.cons (.g (.sl (.one (.int .i64)))) (.cons (.g (.int .i64)) (.cons (.g (.int .i64)) (.cons (.g (.int .i64)) (.cons (.g (.int .i64)) (.cons (.g (.int .i64)) (.cons (.g (.int .i64)) (.cons (.g (.int .i64)) (.cons (.g (.int .i64)) (.cons (.g (.int .i64)) (.cons (.g (.int .i64)) (.cons (.g (.sl (.one (.int .i8)))) (.cons (.g (.sl (.one (.int .i32)))) .nil))))))))))))))) .nil)))] (.one pB) (fun y : Bool => y) (fun x => a0v x.1 (x.2.1.1.1, x.2.1.1.2.1, x.2.1.1.2.2.1, x.2.1.1.2.2.2.1, x.2.1.1.2.2.2.2.1, x.2.1.1.2.2.2.2.2.1, x.2.1.1.2.2.2.2.2.2.1, x.2.1.1.2.2.2.2.2.2.2.1, x.2.1.1.2.2.2.2.2.2.2.2.1, x.2.1.1.2.2.2.2.2.2.2.2.2.1, x.2.1.1.2.2.2.2.2.2.2.2.2.2.1, x.2.1.1.2.2.2.2.2.2.2.2.2.2.2.1, x.2.1.1.2.2.2.2.2.2.2.2.2.2.2.2.1, x.2.1.1.2.2.2.2.2.2.2.2.2.2.2.2.2.1))
theorem e4k : Q0p E cp6 := conS eok e4j Q0z fun x => Eq.mp (by kernel_rfl) (a2o x.1 (x.2.1.1.1, x.2.1.1.2.1, x.2.1.1.2.2.1, x.2.1.1.2.2.2.1, x.2.1.1.2.2.2.2.1, x.2.1.1.2.2.2.2.2.1, x.2.1.1.2.2.2.2.2.2.1, x.2.1.1.2.2.2.2.2.2.2.1, x.2.1.1.2.2.2.2.2.2.2.2.1, x.2.1.1.2.2.2.2.2.2.2.2.2.1, x.2.1.1.2.2.2.2.2.2.2.2.2.2.1, x.2.1.1.2.2.2.2.2.2.2.2.2.2.2.1, x.2.1.1.2.2.2.2.2.2.2.2.2.2.2.2.1, x.2.1.1.2.2.2.2.2.2.2.2.2.2.2.2.2.1))
end
section
variable {α β : Type} (low : Int) (high : Int) (k : St → Option α)
noncomputable abbrev C6 := Q0r E.P 67
noncomputable abbrev P6 := @preK α E 67 cp6 noE
theorem c7b : P6 2 C6 ⟨[(0, ri low), (1, ri high)], [], [], 6⟩ k = k ⟨[(4, .one (.fn 80 [.cell [di low], .cell [di high]]))], [], [], 6⟩ := by kernel_rfl
def a8l (K : ((Int × Unit) × (Int × Unit) × Unit) → β) : β := (K ((low, ()), (high, ()), ()))
def a0e : ((Int × Unit) × (Int × Unit) × Unit) := a8l low high (fun y => y)
theorem d17 (K : ((Int × Unit) × (Int × Unit) × Unit) → β) : a8l low high K = K (a0e low high) := rfl
theorem c7c : Q2j E cp6 noE 67 [ri low, ri high] = (fun y : ((Int × Unit) × (Int × Unit) × Unit) => some (.one (.fn 80 [.cell [di y.1.1], .cell [di y.2.1.1]]) : R)) (a0e low high) := by
  refine Eq.trans ?_ (d17 low high (fun y : ((Int × Unit) × (Int × Unit) × Unit) => some (.one (.fn 80 [.cell [di y.1.1], .cell [di y.2.1.1]]) : R)))
  refine (Q0l (nt := 6) (regs := [(0, ri low), (1, ri high)])).trans ?_
  unfold a8l
  refine (pre2 (c7b low high _)).trans ?_
  refine (Q0h).trans ?_
  kernel_rfl
noncomputable def cp7 : Q2g := Q2i cp6 67 [pI, pI] (.one (.one (.fn 80 (.cons (.cell (.cons (.g (.int .i64)) .nil)) (.cons (.cell (.cons (.g (.int .i64)) .nil)) .nil))))) (fun y : ((Int × Unit) × (Int × Unit) × Unit) => y) (fun x => some (a0e x.1 x.2.1))
theorem e4l : Q0p E cp7 := conS eok e4k Q0z fun x => Eq.mp (by kernel_rfl) (c7c x.1 x.2.1)
end
section
variable {α β : Type} (l_ : (List Int)) (c1_ : Int) (c2_ : Int) (s137 : Int) (k : St → Option α) (q : Kont α)
noncomputable abbrev C7 := Q0r E.P 80
noncomputable abbrev P7 := @preK α E 80 cp7 noE
noncomputable abbrev R7 := @Q0o α E 80 cp7 noE
abbrev S7_0 : St := ⟨[(0, rl (.one (.int .i64)) l_), (1, .one (.cell [di c1_])), (2, .one (.cell [di c2_]))], [], [], 22⟩
theorem c2j : P7 1 C7 (S7_0 l_ c1_ c2_) k = k (S7_0 l_ c1_ c2_) := by kernel_rfl
abbrev S7_1 : St := ⟨[(1, .one (.cell [di c1_])), (2, .one (.cell [di c2_])), (7, rl (.one (.int .i64)) l_), (8, ri (l_.length : Int)), (9, ri 0)], [], [], 22⟩
theorem c2k : P7 1 C7.r.l (S7_0 l_ c1_ c2_) k = k (S7_1 l_ c1_ c2_) := by kernel_rfl
abbrev S7_2 : St := ⟨[(1, .one (.cell [di c1_])), (2, .one (.cell [di c2_])), (7, rl (.one (.int .i64)) l_), (8, ri (l_.length : Int)), (9, ri s137)], [], [], 22⟩
theorem c2l : P7 1 C7.r.l.r.b.b (S7_2 l_ c1_ c2_ s137) k = k ⟨[(1, .one (.cell [di c1_])), (2, .one (.cell [di c2_])), (7, rl (.one (.int .i64)) l_), (8, ri (l_.length : Int)), (9, ri s137), (10, rb (decide (s137 < (l_.length : Int))))], [], [], 22⟩ := by kernel_rfl
def a82 : Option Unit := (bif (decide ((0 : Int) ≤ s137)) then (bif (decide (s137 < (l_.length : Int))) then (some ()) else none) else none)
abbrev S7_3 : St := ⟨[(1, .one (.cell [di c1_])), (2, .one (.cell [di c2_])), (6, ri (gt l_ s137 (0 : Int))), (7, rl (.one (.int .i64)) l_), (8, ri (l_.length : Int)), (9, ri s137)], [], [], 22⟩
theorem c2p : P7 1 C7.r.l.r.b.b.r.r.l.b (S7_2 l_ c1_ c2_ s137) k = Option.bind (a82 l_ s137) (fun y140 : Unit => k (S7_3 l_ c1_ c2_ s137)) := .trans (by kernel_rfl) (Q2b (Q2b Q0b Q0n) Q0n)
def a83 (K : Bool → β) : β := (bif (decide ((gt l_ s137 (0 : Int)) < c1_)) then (K true) else (K (decide ((gt l_ s137 (0 : Int)) > c2_))))
def a22 : Bool := a83 l_ c1_ c2_ s137 (fun y => y)
theorem b9e (K : Bool → β) : a83 l_ c1_ c2_ s137 K = K (a22 l_ c1_ c2_ s137) := (Q2h K rfl rfl)
theorem c2q : P7 1 C7.r.l.r.b.b.r.r.l.b.r (S7_3 l_ c1_ c2_ s137) k = k ⟨[(1, .one (.cell [di c1_])), (2, .one (.cell [di c2_])), (7, rl (.one (.int .i64)) l_), (8, ri (l_.length : Int)), (9, ri s137), (20, rb (a22 l_ c1_ c2_ s137))], [], [], 22⟩ := Eq.trans (by kernel_rfl) (b9e l_ c1_ c2_ s137 (fun y141 : Bool => k ⟨[(1, .one (.cell [di c1_])), (2, .one (.cell [di c2_])), (7, rl (.one (.int .i64)) l_), (8, ri (l_.length : Int)), (9, ri s137), (20, rb y141)], [], [], 22⟩))
abbrev S7_4 : St := ⟨[(4, rb false)], [], [], 22⟩
theorem b9b : P7 1 C7.r.l.r.b.b.r.r.l.b.r.r.t (S7_2 l_ c1_ c2_ s137) k = k S7_4 := by kernel_rfl
theorem c2r : R7 C7.r.l.r.b.b.r.r.r (S7_2 l_ c1_ c2_ s137) q = q .normal ⟨[(1, .one (.cell [di c1_])), (2, .one (.cell [di c2_])), (7, rl (.one (.int .i64)) l_), (8, ri (l_.length : Int)), (9, ri (IntKind.wrap .i64 (s137 + 1)))], [], [], 22⟩ := by kernel_rfl
def a3q : Option (Int ⊕ (Int ⊕ Unit)) := (bif (decide (s137 < (l_.length : Int))) then (Option.bind (a82 l_ s137) (fun y140 : Unit => (bif (a22 l_ c1_ c2_ s137) then (some (Sum.inr (Sum.inr ()))) else (some (Sum.inl (IntKind.wrap .i64 (s137 + 1))))))) else (some (Sum.inr (Sum.inl s137))))
abbrev S7_5 (y142 : Int) : St := ⟨[(1, .one (.cell [di c1_])), (2, .one (.cell [di c2_])), (7, rl (.one (.int .i64)) l_), (8, ri (l_.length : Int)), (9, ri y142)], [], [], 22⟩
theorem b9d : R7 C7.r.l.r.b.b (S7_2 l_ c1_ c2_ s137) (Q0w 0 q) = Option.bind (a3q l_ c1_ c2_ s137) (Q1z (fun y : Int => q .normal ⟨[(1, .one (.cell [di c1_])), (2, .one (.cell [di c2_])), (7, rl (.one (.int .i64)) l_), (8, ri (l_.length : Int)), (9, ri y)], [], [], 22⟩) (Q1z (fun y142 : Int => q (.exit 0) (S7_5 l_ c1_ c2_ y142)) (fun y143 : Unit => q .ret S7_4))) := by
  refine .trans ?_ (Q2b (Q0d fun y140 => (Q2b e3_2 e3_0)) e3_1)
  refine (Q2d (c2l l_ c1_ c2_ s137 _)).trans ?_
  refine .trans Q0c ?_
  refine (Q0m (b := (decide (s137 < (l_.length : Int)))) (st' := (S7_2 l_ c1_ c2_ s137)) ).trans (Q2f ?_ ?_)
  · refine (Q0i).trans ?_
    refine (Q0a (st' := (S7_2 l_ c1_ c2_ s137))).trans ?_
    refine .trans Q0c ?_
    refine (Q0j (id := 1)).trans ?_
    refine (Q2d (c2p l_ c1_ c2_ s137 _)).trans (Q0e fun y140 => ?_)
    refine (Q2d (c2q l_ c1_ c2_ s137 _)).trans ?_
    refine (Q0m (b := (a22 l_ c1_ c2_ s137)) (st' := (S7_2 l_ c1_ c2_ s137)) ).trans (Q2f ?_ ?_)
    · refine (Q2d (b9b l_ c1_ c2_ s137 _)).trans ?_
      refine (Q0h).trans ?_
      refine Q0t.trans ?_
      refine Q0k.trans ?_
      kernel_rfl
    · refine (Q0i).trans ?_
      refine Q0f.trans ?_
      refine (Q0a (st' := (S7_2 l_ c1_ c2_ s137))).trans ?_
      refine (c2r l_ c1_ c2_ s137 _).trans ?_
      kernel_rfl
  · refine ((Q1f (j := 0))).trans ?_
    refine Q0v.trans ?_
    kernel_rfl
theorem c2o : R7 C7.r.l.r.b (S7_1 l_ c1_ c2_) q = Option.bind (iterN (a3q l_ c1_ c2_) LL (0 : Int)) (Q1z (fun y142 : Int => q (.exit 0) (S7_5 l_ c1_ c2_ y142)) (fun y143 : Unit => q .ret S7_4)) :=
  Eq.trans (by kernel_rfl) (loop_iter2 (S := fun s137 : Int => (S7_2 l_ c1_ c2_ s137)) (Y1 := fun y142 : Int => ((.exit 0), (S7_5 l_ c1_ c2_ y142))) (Y2 := fun y143 : Unit => (.ret, S7_4)) (fun s q => b9d l_ c1_ c2_ s q) (fun z => rfl) (fun z => rfl) LL (0 : Int))
theorem b9c : P7 1 C7.r.r ⟨[], [], [], 22⟩ k = k ⟨[(4, rb true)], [], [], 22⟩ := by kernel_rfl
def a0t : Option Bool := (Option.bind (iterN (a3q l_ c1_ c2_) LL (0 : Int)) (Q1z (fun y142 : Int => (some true)) (fun y143 : Unit => (some false))))
theorem c2n : Q2j E cp7 noE 80 [rl (.one (.int .i64)) l_, .one (.cell [di c1_]), .one (.cell [di c2_])] = Option.bind (a0t l_ c1_ c2_) (fun y : Bool => some (rb y : R)) := by
  refine .trans ?_ (Q0d (Q0g (fun y142 => Q0b) (fun y143 => Q0b)))
  refine (Q0l (nt := 22) (regs := [(0, rl (.one (.int .i64)) l_), (1, .one (.cell [di c1_])), (2, .one (.cell [di c2_]))])).trans ?_
  refine (Q2d (c2j l_ c1_ c2_ _)).trans ?_
  refine .trans Q0c ?_
  refine (Q2d (c2k l_ c1_ c2_ _)).trans ?_
  refine (Q0j (id := 0)).trans ?_
  refine (c2o l_ c1_ c2_ _).trans (Q0e (Q1d (fun y142 => ?_) (fun y143 => ?_)))
  · refine Q0u.trans ?_
    refine (Q0a (st' := ⟨[], [], [], 22⟩)).trans ?_
    refine (Q2d (b9c _)).trans ?_
    refine (Q0h).trans ?_
    kernel_rfl
  · refine Q0t.trans ?_
    refine Q0k.trans ?_
    kernel_rfl
noncomputable def cp8 : Q2g := Q2i cp7 80 [(.one (.g (.sl (.one (.int .i64))))), (.one (.cell (.cons (.g (.int .i64)) .nil))), (.one (.cell (.cons (.g (.int .i64)) .nil)))] (.one pB) (fun y : Bool => y) (fun x => a0t x.1 x.2.1.1 x.2.2.1.1)
theorem e4m : Q0p E cp8 := conS eok e4l Q0z fun x => Eq.mp (by kernel_rfl) (c2n x.1 x.2.1.1 x.2.2.1.1)
end
noncomputable abbrev C8 := Q0r E.P 65
noncomputable abbrev P8 {α : Type} := @preK α E 65 cp8 noE
def b5m (s_ : I3) : Option Bool := (Option.bind (a0t [s_.1, s_.2.1] (((a0e (1 : Int) (16 : Int)).1).1) (((a0e (1 : Int) (16 : Int)).2.1).1)) (fun y144 : Bool => (bif y144 then (Option.bind (a0t [s_.2.2] (((a0e (1 : Int) (8 : Int)).1).1) (((a0e (1 : Int) (8 : Int)).2.1).1)) (fun y145 : Bool => (some y145))) else (some false))))
theorem d8j {α : Type} (s_ : I3) (k : St → Option α) : P8 2 C8 ⟨[(0, rA Q2o s_)], [], [], 17⟩ k = Option.bind (b5m s_) (fun y146 : Bool => k ⟨[(2, rb y146)], [], [], 17⟩) := .trans (by kernel_rfl) (Q0d fun y144 => (Q2b (Q0d fun y145 => Q0b) Q0b))
def a4a (s_ : I3) : Option Bool := (Option.bind (b5m s_) (fun y146 : Bool => (some y146)))
theorem d8i (s_ : I3) : Q2j E cp8 noE 65 [rA Q2o s_] = Option.bind (a4a s_) (fun y : Bool => some (rb y : R)) := by
  refine .trans ?_ (Q0d fun y146 => Q0b)
  refine (Q0l (nt := 17) (regs := [(0, rA Q2o s_)])).trans ?_
  refine (pre2 (d8j s_ _)).trans (Q0e fun y146 => ?_)
  refine (Q0h).trans ?_
  kernel_rfl
noncomputable def cp9 : Q2g := Q2i cp8 65 [(.agg Q2o)] (.one pB) (fun y : Bool => y) (fun x => a4a x.1)
theorem e4n : Q0p E cp9 := conS eok e4m Q0z fun x => Eq.mp (by kernel_rfl) (d8i x.1)
noncomputable abbrev C9 := Q0r E.P 38
noncomputable abbrev P9 {α : Type} := @preK α E 38 cp9 noE
theorem d85 {α : Type} (s_ : I3) (k : St → Option α) : P9 1 C9 ⟨[(0, rA Q2o s_)], [], [], 6⟩ k = k ⟨[(1, rC Q2o s_)], [], [], 6⟩ := by kernel_rfl
theorem d88 {α : Type} (s_ : I3) (k : St → Option α) : P9 1 C9.r.l ⟨[(1, rC Q2o s_)], [], [], 6⟩ k = Option.bind (a4a s_) fun y148 : Bool => k ⟨[(5, rb (!y148))], [], [], 6⟩ := by kernel_rfl
theorem d86 {α : Type} (k : St → Option α) : P9 1 C9.r.l.r.t ⟨[], [], [], 6⟩ k = k ⟨[(2, ri 10)], [], [], 6⟩ := by kernel_rfl
theorem d0u {α : Type} (k : St → Option α) : P9 1 C9.r.r ⟨[], [], [], 6⟩ k = k ⟨[(2, ri 0)], [], [], 6⟩ := by kernel_rfl
def a6d (s_ : I3) : Option Int := (Option.bind (a4a s_) (fun y148 : Bool => (bif (!y148) then (some (10 : Int)) else (some (0 : Int)))))
theorem d87 (s_ : I3) : Q2j E cp9 noE 38 [rA Q2o s_] = Option.bind (a6d s_) (fun y : Int => some (ri y : R)) := by
  refine .trans ?_ (Q0d fun y148 => (Q2b Q0b Q0b))
  refine (Q0l (nt := 6) (regs := [(0, rA Q2o s_)])).trans ?_
  refine (Q2d (d85 s_ _)).trans ?_
  refine .trans Q0c ?_
  refine (Q2d (d88 s_ _)).trans (Q0e fun y148 => ?_)
  refine (Q0m (b := (!y148)) (st' := ⟨[], [], [], 6⟩) ).trans (Q2f ?_ ?_)
  · refine (Q2d (d86 _)).trans ?_
    refine (Q0h).trans ?_
    refine Q0k.trans ?_
    kernel_rfl
  · refine (Q0i).trans ?_
    refine (Q0a (st' := ⟨[], [], [], 6⟩)).trans ?_
    refine (Q2d (d0u _)).trans ?_
    refine (Q0h).trans ?_
    kernel_rfl
noncomputable def cp10 : Q2g := Q2i cp9 38 [(.agg Q2o)] (.one pI) (fun y : Int => y) (fun x => a6d x.1)
theorem e2i : Q0p E cp10 := conS eok e4n Q0z fun x => Eq.mp (by kernel_rfl) (d87 x.1)
noncomputable abbrev C10 := Q0r E.P 37
noncomputable abbrev P10 {α : Type} := @preK α E 37 cp10 noE
theorem c31 {α : Type} (v_ : I4) (k : St → Option α) : P10 2 C10 ⟨[(0, rA Q2n v_)], [], [], 7⟩ k = Option.bind (a6d (v_.1, v_.2.1, v_.2.2.1)) fun y149 : Int => k ⟨[(2, rb (y149 != 0))], [], [], 7⟩ := by kernel_rfl
def a92 (v_ : I4) : Option Bool := (Option.bind (a6d (v_.1, v_.2.1, v_.2.2.1)) (fun y149 : Int => (some (y149 != 0))))
theorem c30 (v_ : I4) : Q2j E cp10 noE 37 [rA Q2n v_] = Option.bind (a92 v_) (fun y : Bool => some (rb y : R)) := by
  refine .trans ?_ (Q0d fun y149 => Q0b)
  refine (Q0l (nt := 7) (regs := [(0, rA Q2n v_)])).trans ?_
  refine (pre2 (c31 v_ _)).trans (Q0e fun y149 => ?_)
  refine (Q0h).trans ?_
  kernel_rfl
noncomputable def cp11 : Q2g := Q2i cp10 37 [(.agg Q2n)] (.one pB) (fun y : Bool => y) (fun x => a92 x.1)
theorem e2j : Q0p E cp11 := conS eok e2i Q0z fun x => Eq.mp (by kernel_rfl) (c30 x.1)
section
variable {α : Type} (s_ : (List I4)) (s166 : Int) (k : St → Option α) (q : Kont α)
noncomputable abbrev C11 := Q0r E.P 64
noncomputable abbrev P11 := @preK α E 64 cp11 noE
noncomputable abbrev R11 := @Q0o α E 64 cp11 noE
abbrev S11_0 : St := ⟨[(0, rl Q2n s_), (1, .one (.fn 37 []))], [], [], 19⟩
theorem a2q : P11 1 C11 (S11_0 s_) k = k (S11_0 s_) := by kernel_rfl
abbrev S11_1 : St := ⟨[(0, rl Q2n s_), (1, .one (.fn 37 [])), (7, ri (s_.length : Int)), (8, ri 0)], [], [], 19⟩
theorem a2r : P11 1 C11.r.l (S11_0 s_) k = k (S11_1 s_) := by kernel_rfl
abbrev S11_2 : St := ⟨[(0, rl Q2n s_), (1, .one (.fn 37 [])), (7, ri (s_.length : Int)), (8, ri s166)], [], [], 19⟩
theorem a2s : P11 1 C11.r.l.r.b.b (S11_2 s_ s166) k = k ⟨[(0, rl Q2n s_), (1, .one (.fn 37 [])), (7, ri (s_.length : Int)), (8, ri s166), (9, rb (decide (s166 < (s_.length : Int))))], [], [], 19⟩ := by kernel_rfl
def a16 : Option Bool := (bif (decide ((0 : Int) ≤ s166)) then (bif (decide (s166 < (s_.length : Int))) then (Option.bind (a92 (gt s_ s166 dI4)) (fun y169 : Bool => (some y169))) else none) else none)
theorem a2v : P11 2 C11.r.l.r.b.b.r.r.l.b (S11_2 s_ s166) k = Option.bind (a16 s_ s166) (fun y170 : Bool => k ⟨[(0, rl Q2n s_), (1, .one (.fn 37 [])), (5, ri s166), (7, ri (s_.length : Int)), (8, ri s166), (16, rb y170)], [], [], 19⟩) := .trans (by kernel_rfl) (Q2b (Q2b (Q0d fun y169 => Q0b) Q0n) Q0n)
abbrev S11_3 : St := ⟨[(0, rl Q2n s_), (1, .one (.fn 37 [])), (5, ri s166), (7, ri (s_.length : Int)), (8, ri s166)], [], [], 19⟩
theorem a2h : P11 1 C11.r.l.r.b.b.r.r.l.b.r.r.t (S11_3 s_ s166) k = k ⟨[(4, ri s166)], [], [], 19⟩ := by kernel_rfl
theorem a2w : R11 C11.r.l.r.b.b.r.r.r (S11_2 s_ s166) q = q .normal ⟨[(0, rl Q2n s_), (1, .one (.fn 37 [])), (7, ri (s_.length : Int)), (8, ri (IntKind.wrap .i64 (s166 + 1)))], [], [], 19⟩ := by kernel_rfl
def a0n : Option (Int ⊕ (Int ⊕ Int)) := (bif (decide (s166 < (s_.length : Int))) then (Option.bind (a16 s_ s166) (fun y170 : Bool => (bif y170 then (some (Sum.inr (Sum.inr s166))) else (some (Sum.inl (IntKind.wrap .i64 (s166 + 1))))))) else (some (Sum.inr (Sum.inl s166))))
abbrev S11_4 (y171 : Int) : St := ⟨[(0, rl Q2n s_), (1, .one (.fn 37 [])), (7, ri (s_.length : Int)), (8, ri y171)], [], [], 19⟩
theorem a2j : R11 C11.r.l.r.b.b (S11_2 s_ s166) (Q0w 0 q) = Option.bind (a0n s_ s166) (Q1z (fun y : Int => q .normal ⟨[(0, rl Q2n s_), (1, .one (.fn 37 [])), (7, ri (s_.length : Int)), (8, ri y)], [], [], 19⟩) (Q1z (fun y171 : Int => q (.exit 0) (S11_4 s_ y171)) (fun y172 : Int => q .ret ⟨[(4, ri y172)], [], [], 19⟩))) := by
  refine .trans ?_ (Q2b (Q0d fun y170 => (Q2b e3_2 e3_0)) e3_1)
  refine (Q2d (a2s s_ s166 _)).trans ?_
  refine .trans Q0c ?_
  refine (Q0m (b := (decide (s166 < (s_.length : Int)))) (st' := (S11_2 s_ s166)) ).trans (Q2f ?_ ?_)
  · refine (Q0i).trans ?_
    refine (Q0a (st' := (S11_2 s_ s166))).trans ?_
    refine .trans Q0c ?_
    refine (Q0j (id := 1)).trans ?_
    refine (pre2 (a2v s_ s166 _)).trans (Q0e fun y170 => ?_)
    refine (Q0m (b := y170) (st' := (S11_3 s_ s166)) ).trans (Q2f ?_ ?_)
    · refine (Q2d (a2h s_ s166 _)).trans ?_
      refine (Q0h).trans ?_
      refine Q0t.trans ?_
      refine Q0k.trans ?_
      kernel_rfl
    · refine (Q0i).trans ?_
      refine Q0f.trans ?_
      refine (Q0a (st' := (S11_2 s_ s166))).trans ?_
      refine (a2w s_ s166 _).trans ?_
      kernel_rfl
  · refine ((Q1f (j := 0))).trans ?_
    refine Q0v.trans ?_
    kernel_rfl
theorem a2u : R11 C11.r.l.r.b (S11_1 s_) q = Option.bind (iterN (a0n s_) LL (0 : Int)) (Q1z (fun y171 : Int => q (.exit 0) (S11_4 s_ y171)) (fun y172 : Int => q .ret ⟨[(4, ri y172)], [], [], 19⟩)) :=
  Eq.trans (by kernel_rfl) (loop_iter2 (S := fun s166 : Int => (S11_2 s_ s166)) (Y1 := fun y171 : Int => ((.exit 0), (S11_4 s_ y171))) (Y2 := fun y172 : Int => (.ret, ⟨[(4, ri y172)], [], [], 19⟩)) (fun s q => a2j s_ s q) (fun z => rfl) (fun z => rfl) LL (0 : Int))
theorem a2i : P11 1 C11.r.r ⟨[], [], [], 19⟩ k = k ⟨[(4, ri (-1 : Int))], [], [], 19⟩ := by kernel_rfl
def a0l : Option Int := (Option.bind (iterN (a0n s_) LL (0 : Int)) (Q1z (fun y171 : Int => (some (-1 : Int))) (fun y172 : Int => (some y172))))
theorem a2t : Q2j E cp11 noE 64 [rl Q2n s_, .one (.fn 37 [])] = Option.bind (a0l s_) (fun y : Int => some (ri y : R)) := by
  refine .trans ?_ (Q0d (Q0g (fun y171 => Q0b) (fun y172 => Q0b)))
  refine (Q0l (nt := 19) (regs := [(0, rl Q2n s_), (1, .one (.fn 37 []))])).trans ?_
  refine (Q2d (a2q s_ _)).trans ?_
  refine .trans Q0c ?_
  refine (Q2d (a2r s_ _)).trans ?_
  refine (Q0j (id := 0)).trans ?_
  refine (a2u s_ _).trans (Q0e (Q1d (fun y171 => ?_) (fun y172 => ?_)))
  · refine Q0u.trans ?_
    refine (Q0a (st' := ⟨[], [], [], 19⟩)).trans ?_
    refine (Q2d (a2i _)).trans ?_
    refine (Q0h).trans ?_
    kernel_rfl
  · refine Q0t.trans ?_
    refine Q0k.trans ?_
    kernel_rfl
noncomputable def cp12 : Q2g := Q2i cp11 64 [(pL Q2n), (.one (.fn 37 .nil))] (.one pI) (fun y : Int => y) (fun x => a0l x.1)
theorem e2k : Q0p E cp12 := conS eok e2j Q0z fun x => Eq.mp (by kernel_rfl) (a2t x.1)
end
noncomputable abbrev C12 := Q0r E.P 35
noncomputable abbrev P12 {α : Type} := @preK α E 35 cp12 noE
theorem a2g {α : Type} (s_ : (List I4)) (k : St → Option α) : P12 2 C12 ⟨[(0, rl Q2n s_), (1, .one (.fn 37 []))], [], [], 9⟩ k = Option.bind (a0l s_) fun y173 : Int => k ⟨[(4, rb (decide (y173 ≥ 0)))], [], [], 9⟩ := by kernel_rfl
def a0k (s_ : (List I4)) : Option Bool := (Option.bind (a0l s_) (fun y173 : Int => (some (decide (y173 ≥ 0)))))
theorem a2f (s_ : (List I4)) : Q2j E cp12 noE 35 [rl Q2n s_, .one (.fn 37 [])] = Option.bind (a0k s_) (fun y : Bool => some (rb y : R)) := by
  refine .trans ?_ (Q0d fun y173 => Q0b)
  refine (Q0l (nt := 9) (regs := [(0, rl Q2n s_), (1, .one (.fn 37 []))])).trans ?_
  refine (pre2 (a2g s_ _)).trans (Q0e fun y173 => ?_)
  refine (Q0h).trans ?_
  kernel_rfl
noncomputable def cp13 : Q2g := Q2i cp12 35 [(pL Q2n), (.one (.fn 37 .nil))] (.one pB) (fun y : Bool => y) (fun x => a0k x.1)
theorem e2l : Q0p E cp13 := conS eok e2k Q0z fun x => Eq.mp (by kernel_rfl) (a2f x.1)
section
variable {α β : Type} (a0 : Node) (a_ : I3) (a2 : I3) (k : St → Option α)
noncomputable abbrev C13 := Q0r E.P 49
noncomputable abbrev P13 := @preK α E 49 cp13 noE
theorem c7y : P13 2 C13 ⟨[(0, rA a01 a0), (1, rA Q2o a_), (2, rA Q2o a2)], [], [], 8⟩ k = k ⟨[(6, rF 0)], [(Q2o.leaves a_)], [], 8⟩ := by kernel_rfl
def a93 {β : Type} (a0 : Node) (a_ : I3) (a2 : I3) (K : I3 → β) : β := (K a_)
def a8n : I3 := a93 a0 a_ a2 (fun y => y)
theorem d1h (K : I3 → β) : a93 a0 a_ a2 K = K (a8n a0 a_ a2) := rfl
theorem c7z : Q2j E cp13 noE 49 [rA a01 a0, rA Q2o a_, rA Q2o a2] = (fun y : I3 => some (rA Q2o y : R)) (a8n a0 a_ a2) := by
  refine Eq.trans ?_ (d1h a0 a_ a2 (fun y : I3 => some (rA Q2o y : R)))
  refine (Q0l (nt := 8) (regs := [(0, rA a01 a0), (1, rA Q2o a_), (2, rA Q2o a2)])).trans ?_
  unfold a93
  refine (pre2 (c7y a0 a_ a2 _)).trans ?_
  refine (Q0h).trans ?_
  kernel_rfl
noncomputable def cp14 : Q2g := Q2i cp13 49 [(.agg a01), (.agg Q2o), (.agg Q2o)] (.one (.agg Q2o)) (fun y : I3 => y) (fun x => some (a8n x.1 x.2.1 x.2.2.1))
theorem e2m : Q0p E cp14 := conS eok e2l Q0z fun x => Eq.mp (by kernel_rfl) (c7z x.1 x.2.1 x.2.2.1)
end
section
variable {α : Type} (size : Int) (k_ : Int) (stride : Int) (pad : Int) (k : St → Option α)
noncomputable abbrev C14 := Q0r E.P 42
noncomputable abbrev P14 := @preK α E 42 cp14 noE
abbrev S14_0 : St := ⟨[(0, ri size), (1, ri k_), (2, ri stride), (3, ri pad)], [], [], 46⟩
theorem d89 : P14 1 C14 (S14_0 size k_ stride pad) k = k (S14_0 size k_ stride pad) := by kernel_rfl
def b5k : Option Bool := (Option.bind (a0t [size] (((a0e (1 : Int) (64 : Int)).1).1) (((a0e (1 : Int) (64 : Int)).2.1).1)) (fun y182 : Bool => (bif (!y182) then (some true) else (Option.bind (a0t [k_, stride] (((a0e (1 : Int) (16 : Int)).1).1) (((a0e (1 : Int) (16 : Int)).2.1).1)) (fun y183 : Bool => (bif (!y183) then (some true) else (Option.bind (a0t [pad] (((a0e (0 : Int) (16 : Int)).1).1) (((a0e (0 : Int) (16 : Int)).2.1).1)) (fun y184 : Bool => (bif (!y184) then (some true) else (some (decide (k_ > (IntKind.wrap .i64 (size + (IntKind.wrap .i64 ((2 : Int) * pad))))))))))))))))
theorem d8c : P14 1 C14.r.l (S14_0 size k_ stride pad) k = Option.bind (b5k size k_ stride pad) (fun y185 : Bool => k ⟨[(0, ri size), (1, ri k_), (2, ri stride), (3, ri pad), (36, rb y185)], [], [], 46⟩) := .trans (by kernel_rfl) (Q0d fun y182 => (Q2b Q0b (Q0d fun y183 => (Q2b Q0b (Q0d fun y184 => (Q2b Q0b Q0b))))))
theorem d8a : P14 1 C14.r.l.r.t (S14_0 size k_ stride pad) k = k ⟨[(8, ri 0)], [], [], 46⟩ := by kernel_rfl
def b5l : Option Int := (bif (stride == 0) then none else (some (IntKind.wrap .i64 ((1 : Int) + (IntKind.wrap .i64 (Int.tdiv (IntKind.wrap .i64 ((IntKind.wrap .i64 (size + (IntKind.wrap .i64 ((2 : Int) * pad)))) - k_)) stride))))))
theorem d8d : P14 1 C14.r.r (S14_0 size k_ stride pad) k = Option.bind (b5l size k_ stride pad) (fun y186 : Int => k ⟨[(8, ri y186)], [], [], 46⟩) := .trans (by kernel_rfl) (Q2b Q0n Q0b)
def a6e : Option Int := (Option.bind (b5k size k_ stride pad) (fun y185 : Bool => (bif y185 then (some (0 : Int)) else (Option.bind (b5l size k_ stride pad) (fun y186 : Int => (some y186))))))
theorem d8b : Q2j E cp14 noE 42 [ri size, ri k_, ri stride, ri pad] = Option.bind (a6e size k_ stride pad) (fun y : Int => some (ri y : R)) := by
  refine .trans ?_ (Q0d fun y185 => (Q2b Q0b (Q0d fun y186 => Q0b)))
  refine (Q0l (nt := 46) (regs := [(0, ri size), (1, ri k_), (2, ri stride), (3, ri pad)])).trans ?_
  refine (Q2d (d89 size k_ stride pad _)).trans ?_
  refine .trans Q0c ?_
  refine (Q2d (d8c size k_ stride pad _)).trans (Q0e fun y185 => ?_)
  refine (Q0m (b := y185) (st' := (S14_0 size k_ stride pad)) ).trans (Q2f ?_ ?_)
  · refine (Q2d (d8a size k_ stride pad _)).trans ?_
    refine (Q0h).trans ?_
    refine Q0k.trans ?_
    kernel_rfl
  · refine (Q0i).trans ?_
    refine (Q0a (st' := (S14_0 size k_ stride pad))).trans ?_
    refine (Q2d (d8d size k_ stride pad _)).trans (Q0e fun y186 => ?_)
    refine (Q0h).trans ?_
    kernel_rfl
noncomputable def cp15 : Q2g := Q2i cp14 42 [pI, pI, pI, pI] (.one pI) (fun y : Int => y) (fun x => a6e x.1 x.2.1 x.2.2.1 x.2.2.2.1)
theorem e2n : Q0p E cp15 := conS eok e2m Q0z fun x => Eq.mp (by kernel_rfl) (d8b x.1 x.2.1 x.2.2.1 x.2.2.2.1)
end
section
variable {α : Type} (n_ : Node) (s_ : I3) (c_ : Int) (k : St → Option α)
noncomputable abbrev C15 := Q0r E.P 52
noncomputable abbrev P15 := @preK α E 52 cp15 noE
def b27 : Option (Int × Int) := (Option.bind (a6e s_.1 n_.2.2.1 n_.2.2.2.1 n_.2.2.2.2.1) (fun y187 : Int => (Option.bind (a6e s_.2.1 n_.2.2.1 n_.2.2.2.1 n_.2.2.2.2.1) (fun y188 : Int => (some (y187, y188))))))
theorem d21 : P15 2 C15 ⟨[(0, rA a01 n_), (1, rA Q2o s_), (2, ri c_)], [], [], 27⟩ k = Option.bind (b27 n_ s_) (fun y189 : (Int × Int) => k ⟨[(6, rF 0)], [[di y189.1, di y189.2, di c_]], [], 27⟩) := .trans (by kernel_rfl) (Q0d fun y187 => (Q0d fun y188 => Q0b))
def a4e : Option I3 := (Option.bind (b27 n_ s_) (fun y189 : (Int × Int) => (some (y189.1, y189.2, c_))))
theorem d20 : Q2j E cp15 noE 52 [rA a01 n_, rA Q2o s_, ri c_] = Option.bind (a4e n_ s_ c_) (fun y : I3 => some (rA Q2o y : R)) := by
  refine .trans ?_ (Q0d fun y189 => Q0b)
  refine (Q0l (nt := 27) (regs := [(0, rA a01 n_), (1, rA Q2o s_), (2, ri c_)])).trans ?_
  refine (pre2 (d21 n_ s_ c_ _)).trans (Q0e fun y189 => ?_)
  refine (Q0h).trans ?_
  kernel_rfl
noncomputable def cp16 : Q2g := Q2i cp15 52 [(.agg a01), (.agg Q2o), pI] (.one (.agg Q2o)) (fun y : I3 => y) (fun x => a4e x.1 x.2.1 x.2.2.1)
theorem e2o : Q0p E cp16 := conS eok e2n Q0z fun x => Eq.mp (by kernel_rfl) (d20 x.1 x.2.1 x.2.2.1)
end
section
variable {α : Type} (n_ : Node) (a_ : I3) (a2 : I3) (k : St → Option α)
noncomputable abbrev C16 := Q0r E.P 51
noncomputable abbrev P16 := @preK α E 51 cp16 noE
theorem d1j : P16 2 C16 ⟨[(0, rA a01 n_), (1, rA Q2o a_), (2, rA Q2o a2)], [], [], 12⟩ k = Option.bind (a4e n_ a_ n_.2.2.2.2.2.1) fun y190 : I3 => k ⟨[(6, rF 0)], [(Q2o.leaves y190)], [], 12⟩ := by kernel_rfl
def b5r (n_ : Node) (a_ : I3) (a2 : I3) : Option I3 := (Option.bind (a4e n_ a_ n_.2.2.2.2.2.1) (fun y190 : I3 => (some y190)))
theorem d1i : Q2j E cp16 noE 51 [rA a01 n_, rA Q2o a_, rA Q2o a2] = Option.bind (b5r n_ a_ a2) (fun y : I3 => some (rA Q2o y : R)) := by
  refine .trans ?_ (Q0d fun y190 => Q0b)
  refine (Q0l (nt := 12) (regs := [(0, rA a01 n_), (1, rA Q2o a_), (2, rA Q2o a2)])).trans ?_
  refine (pre2 (d1j n_ a_ a2 _)).trans (Q0e fun y190 => ?_)
  refine (Q0h).trans ?_
  kernel_rfl
noncomputable def cp17 : Q2g := Q2i cp16 51 [(.agg a01), (.agg Q2o), (.agg Q2o)] (.one (.agg Q2o)) (fun y : I3 => y) (fun x => b5r x.1 x.2.1 x.2.2.1)
theorem e2p : Q0p E cp17 := conS eok e2o Q0z fun x => Eq.mp (by kernel_rfl) (d1i x.1 x.2.1 x.2.2.1)
end
section
variable {α : Type} (n_ : Node) (a_ : I3) (a2 : I3) (k : St → Option α)
noncomputable abbrev C17 := Q0r E.P 54
noncomputable abbrev P17 := @preK α E 54 cp17 noE
theorem c5e : P17 2 C17 ⟨[(0, rA a01 n_), (1, rA Q2o a_), (2, rA Q2o a2)], [], [], 12⟩ k = Option.bind (a4e n_ a_ a_.2.2) fun y193 : I3 => k ⟨[(6, rF 0)], [(Q2o.leaves y193)], [], 12⟩ := by kernel_rfl
def b0k (n_ : Node) (a_ : I3) (a2 : I3) : Option I3 := (Option.bind (a4e n_ a_ a_.2.2) (fun y193 : I3 => (some y193)))
theorem c5d : Q2j E cp17 noE 54 [rA a01 n_, rA Q2o a_, rA Q2o a2] = Option.bind (b0k n_ a_ a2) (fun y : I3 => some (rA Q2o y : R)) := by
  refine .trans ?_ (Q0d fun y193 => Q0b)
  refine (Q0l (nt := 12) (regs := [(0, rA a01 n_), (1, rA Q2o a_), (2, rA Q2o a2)])).trans ?_
  refine (pre2 (c5e n_ a_ a2 _)).trans (Q0e fun y193 => ?_)
  refine (Q0h).trans ?_
  kernel_rfl
noncomputable def cp18 : Q2g := Q2i cp17 54 [(.agg a01), (.agg Q2o), (.agg Q2o)] (.one (.agg Q2o)) (fun y : I3 => y) (fun x => b0k x.1 x.2.1 x.2.2.1)
theorem e2q : Q0p E cp18 := conS eok e2p Q0z fun x => Eq.mp (by kernel_rfl) (c5d x.1 x.2.1 x.2.2.1)
end
section
variable {α β : Type} (n_ : Node) (a1 : I3) (a2 : I3) (k : St → Option α)
noncomputable abbrev C18 := Q0r E.P 56
noncomputable abbrev P18 := @preK α E 56 cp18 noE
theorem d1o : P18 2 C18 ⟨[(0, rA a01 n_), (1, rA Q2o a1), (2, rA Q2o a2)], [], [], 10⟩ k = k ⟨[(6, rF 0)], [[di 1, di 1, di n_.2.2.2.2.2.1]], [], 10⟩ := by kernel_rfl
def b0h {β : Type} (n_ : Node) (a1 : I3) (a2 : I3) (K : I3 → β) : β := (K ((1 : Int), (1 : Int), n_.2.2.2.2.2.1))
def a9u : I3 := b0h n_ a1 a2 (fun y => y)
theorem d5x (K : I3 → β) : b0h n_ a1 a2 K = K (a9u n_ a1 a2) := rfl
theorem d1p : Q2j E cp18 noE 56 [rA a01 n_, rA Q2o a1, rA Q2o a2] = (fun y : I3 => some (rA Q2o y : R)) (a9u n_ a1 a2) := by
  refine Eq.trans ?_ (d5x n_ a1 a2 (fun y : I3 => some (rA Q2o y : R)))
  refine (Q0l (nt := 10) (regs := [(0, rA a01 n_), (1, rA Q2o a1), (2, rA Q2o a2)])).trans ?_
  unfold b0h
  refine (pre2 (d1o n_ a1 a2 _)).trans ?_
  refine (Q0h).trans ?_
  kernel_rfl
noncomputable def cp19 : Q2g := Q2i cp18 56 [(.agg a01), (.agg Q2o), (.agg Q2o)] (.one (.agg Q2o)) (fun y : I3 => y) (fun x => some (a9u x.1 x.2.1 x.2.2.1))
theorem e2r : Q0p E cp19 := conS eok e2q Q0z fun x => Eq.mp (by kernel_rfl) (d1p x.1 x.2.1 x.2.2.1)
end
end Go.V.P
