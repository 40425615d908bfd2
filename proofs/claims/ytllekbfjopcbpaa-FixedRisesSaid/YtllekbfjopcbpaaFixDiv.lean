/- What a division of layer 1 computes. -/
import Derived.Test.YtllekbfjopcbpaaFixLaw
namespace Go.V.Fix
open Go.RowKit Go.V Go.Proofs
set_option linter.unusedVariables false
set_option linter.unusedSimpArgs false
abbrev ri (x : Int) : R := .one (.g (.int .i64) x)
abbrev rb (x : Bool) : R := .one (.g .bool x)
def divP (x y : Int) : Int := IntKind.wrap .i64 (Int.tdiv (IntKind.wrap .i64 (x + IntKind.wrap .i64 (Int.tdiv (max y 1) 2))) (max y 1))
noncomputable def cpN : CallP := withF cp0 12 (fun _ => none)
theorem cpN_ok : PureOK E cpN := with_ok cp0_ok fun args r hr => by cases hr
theorem divN (x y : Int) : step E cpN 12 [ri x, ri y] = bif decide (x < 0) then none else bif (max y 1 == (0 : Int)) then none else some (ri (divP x y)) := by kernel_rfl
theorem divN_pos {x y : Int} (h : 0 ≤ x) : step E cpN 12 [ri x, ri y] = some (ri (divP x y)) := by
  rw [divN]
  exact bif_f (by (simp only [decide_eq_true_eq, decide_eq_false_iff_not, beq_eq_false_iff_ne, beq_iff_eq, ne_eq]; omega)) (bif_f (by (simp only [decide_eq_true_eq, decide_eq_false_iff_not, beq_eq_false_iff_ne, beq_iff_eq, ne_eq]; omega)) rfl)
noncomputable def cpD : CallP := withF cp0 12 (step E cpN 12)
theorem cpD_ok : PureOK E cpD := with_ok cp0_ok fun args r hr => ⟨_, step_ok eok cpN_ok, hr⟩
theorem cpD_12 (l : List R) : cpD 12 l = step E cpN 12 l := by kernel_rfl
def mB (y : Int) : Int := max y 1
def mM (x : Int) : Int := max (IntKind.wrap .i64 (0 - x)) 0
def divV (x y : Int) : Int := bif decide (x < 0) then IntKind.wrap .i64 (0 - divP (mM x) (mB y)) else divP x y
theorem div_r0 (x y : Int) (k : Kont R) : runCode E 12 cpD noE (codeOf E.P 12).l ⟨[(0, ri x), (1, ri y)], [], [], 21⟩ k = k .normal ⟨[(0, ri x), (1, ri y)], [], [], 21⟩ := by kernel_rfl
theorem div_r1 (x y : Int) (k : Kont R) : runCode E 12 cpD noE (codeOf E.P 12).r.l ⟨[(0, ri x), (1, ri y)], [], [], 21⟩ k = k .normal ⟨[(0, ri x), (1, ri (mB y))], [], [], 21⟩ := by kernel_rfl
theorem div_r2 (x y : Int) (k : Kont R) : runCode E 12 cpD noE (codeOf E.P 12).r.r.l.l ⟨[(0, ri x), (1, ri (mB y))], [], [], 21⟩ k = k .normal ⟨[(0, ri x), (1, ri (mB y)), (8, rb (decide (x < 0)))], [], [], 21⟩ := by kernel_rfl
noncomputable abbrev c3 : Code := (codeOf E.P 12).r.r.l.r.t.l
theorem div_a (x y : Int) (k : Kont R) : runCode E 12 cpD noE c3 ⟨[(0, ri x), (1, ri (mB y)), (8, rb true)], [], [], 21⟩ k =
    opsE E 12 cpD noE (regOps c3) ((regOps c3).drop 4) ⟨[(0, ri x), (1, ri (mB y)), (8, rb true), (9, ri x), (10, ri (IntKind.wrap .i64 (0 - x))), (11, ri (mM x)), (12, ri (mB y))], [], [], 21⟩ (fun st => k .normal (st.norm E 12 3)) := by kernel_rfl
theorem div_b (x y : Int) (k : Kont R) : opsE E 12 cpD noE (regOps c3) ((regOps c3).drop 4) ⟨[(0, ri x), (1, ri (mB y)), (8, rb true), (9, ri x), (10, ri (IntKind.wrap .i64 (0 - x))), (11, ri (mM x)), (12, ri (mB y))], [], [], 21⟩ (fun st => k .normal (st.norm E 12 3)) =
    opsE E 12 cpD noE (regOps c3) ((regOps c3).drop 5) ⟨[(0, ri x), (1, ri (mB y)), (8, rb true), (9, ri x), (10, ri (IntKind.wrap .i64 (0 - x))), (11, ri (mM x)), (12, ri (mB y)), (13, ri (divP (mM x) (mB y)))], [], [], 21⟩ (fun st => k .normal (st.norm E 12 3)) :=
  opsE_call (g := 12) (n := 4) (caps := []) (args := [ri (mM x), ri (mB y)]) (aa := [ri (mM x), ri (mB y)]) (r := ri (divP (mM x) (mB y))) (r' := ri (divP (mM x) (mB y))) (by kernel_rfl) (by kernel_rfl) (by kernel_rfl) (by kernel_rfl) (by kernel_rfl) (by kernel_rfl) (by kernel_rfl) rfl
    ((cpD_12 _).trans (divN_pos (by unfold mM; omega))) (fun K => by kernel_rfl) (by kernel_rfl)
theorem div_c (x y : Int) (k : Kont R) : opsE E 12 cpD noE (regOps c3) ((regOps c3).drop 5) ⟨[(0, ri x), (1, ri (mB y)), (8, rb true), (9, ri x), (10, ri (IntKind.wrap .i64 (0 - x))), (11, ri (mM x)), (12, ri (mB y)), (13, ri (divP (mM x) (mB y)))], [], [], 21⟩ (fun st => k .normal (st.norm E 12 3)) =
    k .normal ⟨[(4, ri (IntKind.wrap .i64 (0 - divP (mM x) (mB y))))], [], [], 21⟩ := by kernel_rfl
theorem div_r2' {x y : Int} {b : Bool} (hb : decide (x < 0) = b) (k : Kont R) : runCode E 12 cpD noE (codeOf E.P 12).r.r.l.l ⟨[(0, ri x), (1, ri (mB y))], [], [], 21⟩ k = k .normal ⟨[(0, ri x), (1, ri (mB y)), (8, rb b)], [], [], 21⟩ := by
  rw [← hb]; exact div_r2 x y k
theorem div_neg {x y : Int} (hb : decide (x < 0) = true) (k : Kont R) : runCode E 12 cpD noE (codeOf E.P 12).r.r.l ⟨[(0, ri x), (1, ri (mB y))], [], [], 21⟩ k = k .ret ⟨[(4, ri (IntKind.wrap .i64 (0 - divP (mM x) (mB y))))], [], [], 21⟩ := by
  have h1 := seq_step (E := E) (cp := cpD) (f := 12) (ce := noE) (c := (codeOf E.P 12).r.r.l) (k := k) (by kernel_rfl) (div_r2' (x := x) (y := y) hb)
  have h2 := cond_eq (E := E) (cp := cpD) (f := 12) (ce := noE) (c := (codeOf E.P 12).r.r.l.r) (st := ⟨[(0, ri x), (1, ri (mB y)), (8, rb true)], [], [], 21⟩) (k := k) (b := true) (by kernel_rfl) (by kernel_rfl)
  rw [cond_true] at h2
  have h3 := seq_step (E := E) (cp := cpD) (f := 12) (ce := noE) (c := (codeOf E.P 12).r.r.l.r.t) (k := k) (by kernel_rfl) (fun k => (div_a x y k).trans ((div_b x y k).trans (div_c x y k)))
  have h4 : runCode E 12 cpD noE (codeOf E.P 12).r.r.l.r.t.r ⟨[(4, ri (IntKind.wrap .i64 (0 - divP (mM x) (mB y))))], [], [], 21⟩ k = k .ret ⟨[(4, ri (IntKind.wrap .i64 (0 - divP (mM x) (mB y))))], [], [], 21⟩ := by kernel_rfl
  exact h1.trans (h2.trans (h3.trans h4))
theorem div_pos {x y : Int} (hb : decide (x < 0) = false) (k : Kont R) : runCode E 12 cpD noE (codeOf E.P 12).r.r.l ⟨[(0, ri x), (1, ri (mB y))], [], [], 21⟩ k = k .normal ⟨[(0, ri x), (1, ri (mB y)), (8, rb false)], [], [], 21⟩ := by
  have h1 := seq_step (E := E) (cp := cpD) (f := 12) (ce := noE) (c := (codeOf E.P 12).r.r.l) (k := k) (by kernel_rfl) (div_r2' (x := x) (y := y) hb)
  have h2 : runCode E 12 cpD noE (codeOf E.P 12).r.r.l.r ⟨[(0, ri x), (1, ri (mB y)), (8, rb false)], [], [], 21⟩ k = k .normal ⟨[(0, ri x), (1, ri (mB y)), (8, rb false)], [], [], 21⟩ := by kernel_rfl
  exact h1.trans h2
theorem div_last (x y : Int) : runCode E 12 cpD noE (codeOf E.P 12).r.r.r ⟨[(0, ri x), (1, ri (mB y)), (8, rb false)], [], [], 21⟩ (kEnd E.P 12) =
    bif (mB y == (0 : Int)) then none else some (ri (IntKind.wrap .i64 (Int.tdiv (IntKind.wrap .i64 (x + IntKind.wrap .i64 (Int.tdiv (mB y) 2))) (mB y)))) := by kernel_rfl
theorem div_end (v : Int) : seqK (fun st k => runCode E 12 cpD noE (codeOf E.P 12).r.r.r st k) (kEnd E.P 12) .ret ⟨[(4, ri v)], [], [], 21⟩ = some (ri v) := by kernel_rfl
theorem div_is (x y : Int) : step E cpD 12 [ri x, ri y] = some (ri (divV x y)) := by
  have h1 : step E cpD 12 [ri x, ri y] = runCode E 12 cpD noE (codeOf E.P 12) ⟨[(0, ri x), (1, ri y)], [], [], 21⟩ (kEnd E.P 12) := step_is (by kernel_rfl) rfl
  have h2 := seq_step (E := E) (cp := cpD) (f := 12) (ce := noE) (c := codeOf E.P 12) (k := kEnd E.P 12) (by kernel_rfl) (div_r0 x y)
  have h3 := seq_step (E := E) (cp := cpD) (f := 12) (ce := noE) (c := (codeOf E.P 12).r) (k := kEnd E.P 12) (by kernel_rfl) (div_r1 x y)
  rw [h1, h2, h3]
  cases hb : decide (x < 0) with
  | true =>
    have hv : divV x y = IntKind.wrap .i64 (0 - divP (mM x) (mB y)) := by unfold divV; rw [hb]; rfl
    have h4 : runCode E 12 cpD noE (codeOf E.P 12).r.r ⟨[(0, ri x), (1, ri (mB y))], [], [], 21⟩ (kEnd E.P 12) = runCode E 12 cpD noE (codeOf E.P 12).r.r.l ⟨[(0, ri x), (1, ri (mB y))], [], [], 21⟩ (seqK (fun st k => runCode E 12 cpD noE (codeOf E.P 12).r.r.r st k) (kEnd E.P 12)) := seq_eq (by kernel_rfl)
    rw [h4, div_neg hb, div_end, hv]
  | false =>
    have hv : divV x y = divP x y := by unfold divV; rw [hb]; rfl
    have h4 := seq_step (E := E) (cp := cpD) (f := 12) (ce := noE) (c := (codeOf E.P 12).r.r) (k := kEnd E.P 12) (by kernel_rfl) (div_pos (y := y) hb)
    rw [h4, div_last, hv]
    exact bif_f (by unfold mB; (simp only [decide_eq_true_eq, decide_eq_false_iff_not, beq_eq_false_iff_ne, beq_iff_eq, ne_eq]; omega)) rfl
end Go.V.Fix
