/- What functions compute. -/
import Derived.Test.YtelfooangijedaaHa2
namespace Go.V.P
open Go.RowKit Go.V Go.Proofs
set_option linter.unusedVariables false
set_option maxRecDepth 100000
noncomputable abbrev C16 : Code := codeOf E.P 38
noncomputable abbrev P16 {α : Type} (n : Nat) (c : Code) (st : St) (k : St → Option α) : Option α := preK E 38 cp16 noE n c st k
noncomputable abbrev R16 {α : Type} (c : Code) (st : St) (k : Kont α) : Option α := runCode E 38 cp16 noE c st k
noncomputable abbrev Q16 {α : Type} (c : Code) (k : Kont α) : Kont α := seqC E 38 cp16 noE c k
theorem shape_May_f1 {α : Type} (s_ : I3) (k : St → Option α) : P16 1 C16 ⟨[(0, .agg (tsI3.leaves s_))], [], [], 6⟩ k = k ⟨[(1, .one (.cell (tsI3.leaves s_)))], [], [], 6⟩ := by kernel_rfl
theorem shape_May_r1 {α : Type} (s_ : I3) (k : St → Option α) : P16 1 C16.r.l ⟨[(1, .one (.cell (tsI3.leaves s_)))], [], [], 6⟩ k = Option.bind (shape_may s_) fun y194 : Bool => k ⟨[(5, rb (!y194))], [], [], 6⟩ := by kernel_rfl
theorem shape_May_fz {α : Type} (k : St → Option α) : P16 1 C16.r.l.r.t ⟨[], [], [], 6⟩ k = k ⟨[(2, ri (10 : Int))], [], [], 6⟩ := by kernel_rfl
theorem shape_May_fzx1 {α : Type} (k : St → Option α) : P16 1 C16.r.r ⟨[], [], [], 6⟩ k = k ⟨[(2, ri (0 : Int))], [], [], 6⟩ := by kernel_rfl
/-- quilt/shape.May -/
def shape_May_q {β : Type} (s_ : I3) (K : Int → Option β) : Option β := (Option.bind (shape_may s_) (fun y194 : Bool => (bif (!y194) then (K (10 : Int)) else (K (0 : Int)))))
def shape_May (s_ : I3) : Option Int := shape_May_q s_ some
theorem shape_May_n {β : Type} (s_ : I3) (K : Int → Option β) : shape_May_q s_ K = (shape_May s_).bind K := (bind_b fun y194 => (bif_b some_b some_b))
theorem shape_May_is (s_ : I3) : stepS E cp16 noE 38 [.agg (tsI3.leaves s_)] = Option.bind (shape_May s_) (fun y : Int => some (ri y : R)) := by
  refine Eq.trans ?_ (shape_May_n s_ (fun y : Int => some (ri y : R)))
  refine (stepG_is (nt := 6) (regs := [(0, .agg (tsI3.leaves s_))]) (by kernel_rfl) (by kernel_rfl)).trans ?_
  unfold shape_May_q
  refine (pre (n := 1) (c' := C16.r) (by kernel_rfl) (by kernel_rfl) (shape_May_f1 s_ _)).trans ?_
  refine (seq_push (by kernel_rfl)).trans ?_
  refine (pre (n := 1) (c' := C16.r.l.r) (by kernel_rfl) (by kernel_rfl) (shape_May_r1 s_ _)).trans (bind_g fun y194 => ?_)
  refine (cond_eq (b := (!y194)) (st' := ⟨[], [], [], 6⟩) (by kernel_rfl) (by kernel_rfl) (by kernel_rfl)).trans (bif_g ?_ ?_)
  · refine (pre (n := 1) (c' := C16.r.l.r.t.r) (by kernel_rfl) (by kernel_rfl) (shape_May_fz _)).trans ?_
    refine (ret_eq (by kernel_rfl)).trans ?_
    refine seqC_ret.trans ?_
    kernel_rfl
  · refine (skip_eq (by kernel_rfl)).trans ?_
    refine (seqC_normal (st' := ⟨[], [], [], 6⟩) (by kernel_rfl)).trans ?_
    refine (pre (n := 1) (c' := C16.r.r.r) (by kernel_rfl) (by kernel_rfl) (shape_May_fzx1 _)).trans ?_
    refine (ret_eq (by kernel_rfl)).trans ?_
    kernel_rfl
theorem shape_May_c (x : denL [(.agg tsI3)]) : stepS E cp16 noE 38 (encL [(.agg tsI3)] x) = ((fun x => shape_May x.1) x).bind fun y => some (Po.enc (.one (.one (.g (.int .i64)))) ((fun y : Int => y) y)) := Eq.mp (by kernel_rfl) (shape_May_is x.1)
noncomputable def cp17 : CallP := withC cp16 38 [(.agg tsI3)] (.one (.one (.g (.int .i64)))) (fun y : Int => y) (fun x => shape_May x.1)
theorem cp17_ok : PureOK E cp17 := withC_ok cp16_ok (stepS_ok eok cp16_ok noE_ok) fun x => con_of (enc := fun y => Po.enc (.one (.one (.g (.int .i64)))) ((fun y : Int => y) y)) (shape_May_c x)
noncomputable abbrev C17 : Code := codeOf E.P 37
noncomputable abbrev P17 {α : Type} (n : Nat) (c : Code) (st : St) (k : St → Option α) : Option α := preK E 37 cp17 noE n c st k
noncomputable abbrev R17 {α : Type} (c : Code) (st : St) (k : Kont α) : Option α := runCode E 37 cp17 noE c st k
noncomputable abbrev Q17 {α : Type} (c : Code) (k : Kont α) : Kont α := seqC E 37 cp17 noE c k
theorem graph_Value_2_r1 {α : Type} (v_ : I4) (k : St → Option α) : P17 2 C17 ⟨[(0, .agg (tsI4.leaves v_))], [], [], 7⟩ k = Option.bind (shape_May (v_.1, v_.2.1, v_.2.2.1)) fun y195 : Int => k ⟨[(2, rb (y195 != (0 : Int)))], [], [], 7⟩ := by kernel_rfl
/-- quilt/graph.Value$2 -/
def graph_Value_2_q {β : Type} (v_ : I4) (K : Bool → Option β) : Option β := (Option.bind (shape_May (v_.1, v_.2.1, v_.2.2.1)) (fun y195 : Int => (K (y195 != (0 : Int)))))
def graph_Value_2 (v_ : I4) : Option Bool := graph_Value_2_q v_ some
theorem graph_Value_2_n {β : Type} (v_ : I4) (K : Bool → Option β) : graph_Value_2_q v_ K = (graph_Value_2 v_).bind K := (bind_b fun y195 => some_b)
theorem graph_Value_2_is (v_ : I4) : stepS E cp17 noE 37 [.agg (tsI4.leaves v_)] = Option.bind (graph_Value_2 v_) (fun y : Bool => some (rb y : R)) := by
  refine Eq.trans ?_ (graph_Value_2_n v_ (fun y : Bool => some (rb y : R)))
  refine (stepG_is (nt := 7) (regs := [(0, .agg (tsI4.leaves v_))]) (by kernel_rfl) (by kernel_rfl)).trans ?_
  unfold graph_Value_2_q
  refine (pre (n := 2) (c' := C17.r.r) (by kernel_rfl) (by kernel_rfl) (graph_Value_2_r1 v_ _)).trans (bind_g fun y195 => ?_)
  refine (ret_eq (by kernel_rfl)).trans ?_
  kernel_rfl
theorem graph_Value_2_c (x : denL [(.agg tsI4)]) : stepS E cp17 noE 37 (encL [(.agg tsI4)] x) = ((fun x => graph_Value_2 x.1) x).bind fun y => some (Po.enc (.one (.one (.g .bool))) ((fun y : Bool => y) y)) := Eq.mp (by kernel_rfl) (graph_Value_2_is x.1)
noncomputable def cp18 : CallP := withC cp17 37 [(.agg tsI4)] (.one (.one (.g .bool))) (fun y : Bool => y) (fun x => graph_Value_2 x.1)
theorem cp18_ok : PureOK E cp18 := withC_ok cp17_ok (stepS_ok eok cp17_ok noE_ok) fun x => con_of (enc := fun y => Po.enc (.one (.one (.g .bool))) ((fun y : Bool => y) y)) (graph_Value_2_c x)
noncomputable abbrev C18 : Code := codeOf E.P 64
noncomputable abbrev P18 {α : Type} (n : Nat) (c : Code) (st : St) (k : St → Option α) : Option α := preK E 64 cp18 noE n c st k
noncomputable abbrev R18 {α : Type} (c : Code) (st : St) (k : Kont α) : Option α := runCode E 64 cp18 noE c st k
noncomputable abbrev Q18 {α : Type} (c : Code) (k : Kont α) : Kont α := seqC E 64 cp18 noE c k
theorem slices_IndexFuncapi_Value_api_Value_s2_f1 {α : Type} (s_ : (List I4)) (k : St → Option α) : P18 1 C18 ⟨[(0, rl tsI4 s_), (1, .one (.fn 37 []))], [], [], 19⟩ k = k ⟨[(0, rl tsI4 s_), (1, .one (.fn 37 []))], [], [], 19⟩ := by kernel_rfl
theorem slices_IndexFuncapi_Value_api_Value_s2_f2 {α : Type} (s_ : (List I4)) (k : St → Option α) : P18 1 C18.r.l ⟨[(0, rl tsI4 s_), (1, .one (.fn 37 []))], [], [], 19⟩ k = k ⟨[(0, rl tsI4 s_), (1, .one (.fn 37 [])), (7, ri (s_.length : Int)), (8, ri (0 : Int))], [], [], 19⟩ := by kernel_rfl
theorem slices_IndexFuncapi_Value_api_Value_s2_fz {α : Type} (s_ : (List I4)) (s212 : Int) (k : St → Option α) : P18 1 (bodyOf (bodyOf C18.r.l.r)) ⟨[(0, rl tsI4 s_), (1, .one (.fn 37 [])), (7, ri (s_.length : Int)), (8, ri s212)], [], [], 19⟩ k = k ⟨[(0, rl tsI4 s_), (1, .one (.fn 37 [])), (7, ri (s_.length : Int)), (8, ri s212), (9, rb (decide (s212 < (s_.length : Int))))], [], [], 19⟩ := by kernel_rfl
def slices_IndexFuncapi_Value_api_Value_s2_r4_q {β : Type} (s_ : (List I4)) (s212 : Int) (K : Bool → Option β) : Option β := (bif (decide ((0 : Int) ≤ s212)) then (bif (decide (s212 < (s_.length : Int))) then (Option.bind (graph_Value_2 (gt s_ s212 dI4)) (fun y215 : Bool => (K y215))) else none) else none)
def slices_IndexFuncapi_Value_api_Value_s2_r4_p (s_ : (List I4)) (s212 : Int) : Option (Bool) := slices_IndexFuncapi_Value_api_Value_s2_r4_q s_ s212 some
theorem slices_IndexFuncapi_Value_api_Value_s2_r4_n {β : Type} (s_ : (List I4)) (s212 : Int) (K : Bool → Option β) : slices_IndexFuncapi_Value_api_Value_s2_r4_q s_ s212 K = (slices_IndexFuncapi_Value_api_Value_s2_r4_p s_ s212).bind K := (bif_b (bif_b (bind_b fun y215 => some_b) none_b) none_b)
theorem slices_IndexFuncapi_Value_api_Value_s2_r4 {α : Type} (s_ : (List I4)) (s212 : Int) (k : St → Option α) : P18 2 (bodyOf (bodyOf (bodyOf C18.r.l.r)).r.r.l) ⟨[(0, rl tsI4 s_), (1, .one (.fn 37 [])), (7, ri (s_.length : Int)), (8, ri s212)], [], [], 19⟩ k = Option.bind (slices_IndexFuncapi_Value_api_Value_s2_r4_p s_ s212) (fun y216 : Bool => k ⟨[(0, rl tsI4 s_), (1, .one (.fn 37 [])), (5, ri s212), (7, ri (s_.length : Int)), (8, ri s212), (16, rb y216)], [], [], 19⟩) := Eq.trans (by kernel_rfl) (slices_IndexFuncapi_Value_api_Value_s2_r4_n s_ s212 _)
theorem slices_IndexFuncapi_Value_api_Value_s2_fzx1 {α : Type} (s_ : (List I4)) (s212 : Int) (k : St → Option α) : P18 1 (bodyOf (bodyOf (bodyOf C18.r.l.r)).r.r.l).r.r.t ⟨[(0, rl tsI4 s_), (1, .one (.fn 37 [])), (5, ri s212), (7, ri (s_.length : Int)), (8, ri s212)], [], [], 19⟩ k = k ⟨[(4, ri s212)], [], [], 19⟩ := by kernel_rfl
theorem slices_IndexFuncapi_Value_api_Value_s2_r6 {α : Type} (s_ : (List I4)) (s212 : Int) (k : Kont α) : R18 (bodyOf (bodyOf C18.r.l.r)).r.r.r ⟨[(0, rl tsI4 s_), (1, .one (.fn 37 [])), (7, ri (s_.length : Int)), (8, ri s212)], [], [], 19⟩ k = k .normal ⟨[(0, rl tsI4 s_), (1, .one (.fn 37 [])), (7, ri (s_.length : Int)), (8, ri (IntKind.wrap .i64 (s212 + (1 : Int))))], [], [], 19⟩ := by kernel_rfl
def slices_IndexFuncapi_Value_api_Value_s2_l2_q {β : Type} (s_ : (List I4)) (s212 : Int) (K0 : Int → Option β) (K1 : Int → Option β) (K2 : Int → Option β) : Option β := (bif (decide (s212 < (s_.length : Int))) then (Option.bind (slices_IndexFuncapi_Value_api_Value_s2_r4_p s_ s212) (fun y216 : Bool => (bif y216 then (K2 s212) else (K0 (IntKind.wrap .i64 (s212 + (1 : Int))))))) else (K1 s212))
def slices_IndexFuncapi_Value_api_Value_s2_l2_p (s_ : (List I4)) (s212 : Int) : Option (Int ⊕ (Int ⊕ Int)) := slices_IndexFuncapi_Value_api_Value_s2_l2_q s_ s212 (fun y => some (Sum.inl y)) (fun y => some (Sum.inr (Sum.inl y))) (fun y => some (Sum.inr (Sum.inr y)))
theorem slices_IndexFuncapi_Value_api_Value_s2_l2_n {β : Type} (s_ : (List I4)) (s212 : Int) (K0 : Int → Option β) (K1 : Int → Option β) (K2 : Int → Option β) : slices_IndexFuncapi_Value_api_Value_s2_l2_q s_ s212 K0 K1 K2 = (slices_IndexFuncapi_Value_api_Value_s2_l2_p s_ s212).bind (either K0 (either K1 K2)) := (bif_b (bind_b fun y216 => (bif_b e3_2 e3_0)) e3_1)
theorem slices_IndexFuncapi_Value_api_Value_s2_l2_b {α : Type} (s_ : (List I4)) (s212 : Int) (k : Kont α) : R18 (bodyOf (bodyOf C18.r.l.r)) ⟨[(0, rl tsI4 s_), (1, .one (.fn 37 [])), (7, ri (s_.length : Int)), (8, ri s212)], [], [], 19⟩ (loopKont 0 k) = Option.bind (slices_IndexFuncapi_Value_api_Value_s2_l2_p s_ s212) (either (fun y : Int => k .normal ⟨[(0, rl tsI4 s_), (1, .one (.fn 37 [])), (7, ri (s_.length : Int)), (8, ri y)], [], [], 19⟩) (either (fun y217 : Int => k (.exit 0) ⟨[(0, rl tsI4 s_), (1, .one (.fn 37 [])), (7, ri (s_.length : Int)), (8, ri y217)], [], [], 19⟩) (fun y218 : Int => k .ret ⟨[(4, ri y218)], [], [], 19⟩))) := by
  refine Eq.trans ?_ (slices_IndexFuncapi_Value_api_Value_s2_l2_n s_ s212 _ _ _)
  unfold slices_IndexFuncapi_Value_api_Value_s2_l2_q
  refine (pre (n := 1) (c' := (bodyOf (bodyOf C18.r.l.r)).r) (by kernel_rfl) (by kernel_rfl) (slices_IndexFuncapi_Value_api_Value_s2_fz s_ s212 _)).trans ?_
  refine (seq_push (by kernel_rfl)).trans ?_
  refine (cond_eq (b := (decide (s212 < (s_.length : Int)))) (st' := ⟨[(0, rl tsI4 s_), (1, .one (.fn 37 [])), (7, ri (s_.length : Int)), (8, ri s212)], [], [], 19⟩) (by kernel_rfl) (by kernel_rfl) (by kernel_rfl)).trans (bif_g ?_ ?_)
  · refine (skip_eq (by kernel_rfl)).trans ?_
    refine (seqC_normal (st' := ⟨[(0, rl tsI4 s_), (1, .one (.fn 37 [])), (7, ri (s_.length : Int)), (8, ri s212)], [], [], 19⟩) (by kernel_rfl)).trans ?_
    refine (seq_push (by kernel_rfl)).trans ?_
    refine (block_push (id := 1) (by kernel_rfl)).trans ?_
    refine (pre (n := 2) (c' := (bodyOf (bodyOf (bodyOf C18.r.l.r)).r.r.l).r.r) (by kernel_rfl) (by kernel_rfl) (slices_IndexFuncapi_Value_api_Value_s2_r4 s_ s212 _)).trans (bind_g fun y216 => ?_)
    refine (cond_eq (b := y216) (st' := ⟨[(0, rl tsI4 s_), (1, .one (.fn 37 [])), (5, ri s212), (7, ri (s_.length : Int)), (8, ri s212)], [], [], 19⟩) (by kernel_rfl) (by kernel_rfl) (by kernel_rfl)).trans (bif_g ?_ ?_)
    · refine (pre (n := 1) (c' := (bodyOf (bodyOf (bodyOf C18.r.l.r)).r.r.l).r.r.t.r) (by kernel_rfl) (by kernel_rfl) (slices_IndexFuncapi_Value_api_Value_s2_fzx1 s_ s212 _)).trans ?_
      refine (ret_eq (by kernel_rfl)).trans ?_
      refine block_ret.trans ?_
      refine seqC_ret.trans ?_
      kernel_rfl
    · refine (skip_eq (by kernel_rfl)).trans ?_
      refine block_normal.trans ?_
      refine (seqC_normal (st' := ⟨[(0, rl tsI4 s_), (1, .one (.fn 37 [])), (7, ri (s_.length : Int)), (8, ri s212)], [], [], 19⟩) (by kernel_rfl)).trans ?_
      refine (slices_IndexFuncapi_Value_api_Value_s2_r6 s_ s212 _).trans ?_
      kernel_rfl
  · refine (exit_eq (j := 0) (by kernel_rfl)).trans ?_
    refine seqC_exit.trans ?_
    kernel_rfl
theorem slices_IndexFuncapi_Value_api_Value_s2_l2 {α : Type} (s_ : (List I4)) (k : Kont α) : R18 (bodyOf C18.r.l.r) ⟨[(0, rl tsI4 s_), (1, .one (.fn 37 [])), (7, ri (s_.length : Int)), (8, ri (0 : Int))], [], [], 19⟩ k = Option.bind (iterN (slices_IndexFuncapi_Value_api_Value_s2_l2_p s_) LL (0 : Int)) (either (fun y217 : Int => k (.exit 0) ⟨[(0, rl tsI4 s_), (1, .one (.fn 37 [])), (7, ri (s_.length : Int)), (8, ri y217)], [], [], 19⟩) (fun y218 : Int => k .ret ⟨[(4, ri y218)], [], [], 19⟩)) :=
  Eq.trans (by kernel_rfl) (loop_iter2 (S := fun s212 : Int => ⟨[(0, rl tsI4 s_), (1, .one (.fn 37 [])), (7, ri (s_.length : Int)), (8, ri s212)], [], [], 19⟩) (Y1 := fun y217 : Int => ((.exit 0), ⟨[(0, rl tsI4 s_), (1, .one (.fn 37 [])), (7, ri (s_.length : Int)), (8, ri y217)], [], [], 19⟩)) (Y2 := fun y218 : Int => (.ret, ⟨[(4, ri y218)], [], [], 19⟩)) (fun s k => slices_IndexFuncapi_Value_api_Value_s2_l2_b s_ s k) (fun z => rfl) (fun z => rfl) LL (0 : Int))
theorem slices_IndexFuncapi_Value_api_Value_s2_fzx2 {α : Type} (k : St → Option α) : P18 1 C18.r.r ⟨[], [], [], 19⟩ k = k ⟨[(4, ri (-1 : Int))], [], [], 19⟩ := by kernel_rfl
/-- slices.IndexFunc[[]quilt/api.Value,quilt/api.Value] -/
def slices_IndexFuncapi_Value_api_Value_s2_q {β : Type} (s_ : (List I4)) (K : Int → Option β) : Option β := (Option.bind (iterN (slices_IndexFuncapi_Value_api_Value_s2_l2_p s_) LL (0 : Int)) (either (fun y217 : Int => (K (-1 : Int))) (fun y218 : Int => (K y218))))
def slices_IndexFuncapi_Value_api_Value_s2 (s_ : (List I4)) : Option Int := slices_IndexFuncapi_Value_api_Value_s2_q s_ some
theorem slices_IndexFuncapi_Value_api_Value_s2_n {β : Type} (s_ : (List I4)) (K : Int → Option β) : slices_IndexFuncapi_Value_api_Value_s2_q s_ K = (slices_IndexFuncapi_Value_api_Value_s2 s_).bind K := (bind_b (either_b (fun y217 => some_b) (fun y218 => some_b)))
theorem slices_IndexFuncapi_Value_api_Value_s2_is (s_ : (List I4)) : stepS E cp18 noE 64 [rl tsI4 s_, .one (.fn 37 [])] = Option.bind (slices_IndexFuncapi_Value_api_Value_s2 s_) (fun y : Int => some (ri y : R)) := by
  refine Eq.trans ?_ (slices_IndexFuncapi_Value_api_Value_s2_n s_ (fun y : Int => some (ri y : R)))
  refine (stepG_is (nt := 19) (regs := [(0, rl tsI4 s_), (1, .one (.fn 37 []))]) (by kernel_rfl) (by kernel_rfl)).trans ?_
  unfold slices_IndexFuncapi_Value_api_Value_s2_q
  refine (pre (n := 1) (c' := C18.r) (by kernel_rfl) (by kernel_rfl) (slices_IndexFuncapi_Value_api_Value_s2_f1 s_ _)).trans ?_
  refine (seq_push (by kernel_rfl)).trans ?_
  refine (pre (n := 1) (c' := C18.r.l.r) (by kernel_rfl) (by kernel_rfl) (slices_IndexFuncapi_Value_api_Value_s2_f2 s_ _)).trans ?_
  refine (block_push (id := 0) (by kernel_rfl)).trans ?_
  refine (slices_IndexFuncapi_Value_api_Value_s2_l2 s_ _).trans (bind_g (either_g (fun y217 => ?_) (fun y218 => ?_)))
  · refine block_same.trans ?_
    refine (seqC_normal (st' := ⟨[], [], [], 19⟩) (by kernel_rfl)).trans ?_
    refine (pre (n := 1) (c' := C18.r.r.r) (by kernel_rfl) (by kernel_rfl) (slices_IndexFuncapi_Value_api_Value_s2_fzx2 _)).trans ?_
    refine (ret_eq (by kernel_rfl)).trans ?_
    kernel_rfl
  · refine block_ret.trans ?_
    refine seqC_ret.trans ?_
    kernel_rfl
theorem slices_IndexFuncapi_Value_api_Value_s2_c (x : denL [(.one (.g (.sl tsI4))), (.one (.fn 37 .nil))]) : stepS E cp18 noE 64 (encL [(.one (.g (.sl tsI4))), (.one (.fn 37 .nil))] x) = ((fun x => slices_IndexFuncapi_Value_api_Value_s2 x.1) x).bind fun y => some (Po.enc (.one (.one (.g (.int .i64)))) ((fun y : Int => y) y)) := Eq.mp (by kernel_rfl) (slices_IndexFuncapi_Value_api_Value_s2_is x.1)
noncomputable def cp19 : CallP := withC cp18 64 [(.one (.g (.sl tsI4))), (.one (.fn 37 .nil))] (.one (.one (.g (.int .i64)))) (fun y : Int => y) (fun x => slices_IndexFuncapi_Value_api_Value_s2 x.1)
theorem cp19_ok : PureOK E cp19 := withC_ok cp18_ok (stepS_ok eok cp18_ok noE_ok) fun x => con_of (enc := fun y => Po.enc (.one (.one (.g (.int .i64)))) ((fun y : Int => y) y)) (slices_IndexFuncapi_Value_api_Value_s2_c x)
noncomputable abbrev C19 : Code := codeOf E.P 35
noncomputable abbrev P19 {α : Type} (n : Nat) (c : Code) (st : St) (k : St → Option α) : Option α := preK E 35 cp19 noE n c st k
noncomputable abbrev R19 {α : Type} (c : Code) (st : St) (k : Kont α) : Option α := runCode E 35 cp19 noE c st k
noncomputable abbrev Q19 {α : Type} (c : Code) (k : Kont α) : Kont α := seqC E 35 cp19 noE c k
theorem slices_ContainsFuncapi_Value_api_Value_s2_r1 {α : Type} (s_ : (List I4)) (k : St → Option α) : P19 2 C19 ⟨[(0, rl tsI4 s_), (1, .one (.fn 37 []))], [], [], 9⟩ k = Option.bind (slices_IndexFuncapi_Value_api_Value_s2 s_) fun y219 : Int => k ⟨[(4, rb (decide (y219 ≥ (0 : Int))))], [], [], 9⟩ := by kernel_rfl
/-- slices.ContainsFunc[[]quilt/api.Value,quilt/api.Value] -/
def slices_ContainsFuncapi_Value_api_Value_s2_q {β : Type} (s_ : (List I4)) (K : Bool → Option β) : Option β := (Option.bind (slices_IndexFuncapi_Value_api_Value_s2 s_) (fun y219 : Int => (K (decide (y219 ≥ (0 : Int))))))
def slices_ContainsFuncapi_Value_api_Value_s2 (s_ : (List I4)) : Option Bool := slices_ContainsFuncapi_Value_api_Value_s2_q s_ some
theorem slices_ContainsFuncapi_Value_api_Value_s2_n {β : Type} (s_ : (List I4)) (K : Bool → Option β) : slices_ContainsFuncapi_Value_api_Value_s2_q s_ K = (slices_ContainsFuncapi_Value_api_Value_s2 s_).bind K := (bind_b fun y219 => some_b)
theorem slices_ContainsFuncapi_Value_api_Value_s2_is (s_ : (List I4)) : stepS E cp19 noE 35 [rl tsI4 s_, .one (.fn 37 [])] = Option.bind (slices_ContainsFuncapi_Value_api_Value_s2 s_) (fun y : Bool => some (rb y : R)) := by
  refine Eq.trans ?_ (slices_ContainsFuncapi_Value_api_Value_s2_n s_ (fun y : Bool => some (rb y : R)))
  refine (stepG_is (nt := 9) (regs := [(0, rl tsI4 s_), (1, .one (.fn 37 []))]) (by kernel_rfl) (by kernel_rfl)).trans ?_
  unfold slices_ContainsFuncapi_Value_api_Value_s2_q
  refine (pre (n := 2) (c' := C19.r.r) (by kernel_rfl) (by kernel_rfl) (slices_ContainsFuncapi_Value_api_Value_s2_r1 s_ _)).trans (bind_g fun y219 => ?_)
  refine (ret_eq (by kernel_rfl)).trans ?_
  kernel_rfl
theorem slices_ContainsFuncapi_Value_api_Value_s2_c (x : denL [(.one (.g (.sl tsI4))), (.one (.fn 37 .nil))]) : stepS E cp19 noE 35 (encL [(.one (.g (.sl tsI4))), (.one (.fn 37 .nil))] x) = ((fun x => slices_ContainsFuncapi_Value_api_Value_s2 x.1) x).bind fun y => some (Po.enc (.one (.one (.g .bool))) ((fun y : Bool => y) y)) := Eq.mp (by kernel_rfl) (slices_ContainsFuncapi_Value_api_Value_s2_is x.1)
noncomputable def cp20 : CallP := withC cp19 35 [(.one (.g (.sl tsI4))), (.one (.fn 37 .nil))] (.one (.one (.g .bool))) (fun y : Bool => y) (fun x => slices_ContainsFuncapi_Value_api_Value_s2 x.1)
theorem cp20_ok : PureOK E cp20 := withC_ok cp19_ok (stepS_ok eok cp19_ok noE_ok) fun x => con_of (enc := fun y => Po.enc (.one (.one (.g .bool))) ((fun y : Bool => y) y)) (slices_ContainsFuncapi_Value_api_Value_s2_c x)
noncomputable abbrev C20 : Code := codeOf E.P 49
noncomputable abbrev P20 {α : Type} (n : Nat) (c : Code) (st : St) (k : St → Option α) : Option α := preK E 49 cp20 noE n c st k
noncomputable abbrev R20 {α : Type} (c : Code) (st : St) (k : Kont α) : Option α := runCode E 49 cp20 noE c st k
noncomputable abbrev Q20 {α : Type} (c : Code) (k : Kont α) : Kont α := seqC E 49 cp20 noE c k
theorem graph_first_fz {α : Type} (a0 : Node) (a_ : I3) (a2 : I3) (k : St → Option α) : P20 2 C20 ⟨[(0, .agg (tsNode.leaves a0)), (1, .agg (tsI3.leaves a_)), (2, .agg (tsI3.leaves a2))], [], [], 8⟩ k = k ⟨[(6, .one (.ref 0 0))], [(tsI3.leaves a_)], [], 8⟩ := by kernel_rfl
/-- quilt/graph.first -/
def graph_first_q {β : Type} (a0 : Node) (a_ : I3) (a2 : I3) (K : I3 → β) : β := (K a_)
def graph_first (a0 : Node) (a_ : I3) (a2 : I3) : I3 := graph_first_q a0 a_ a2 (fun y => y)
theorem graph_first_n {β : Type} (a0 : Node) (a_ : I3) (a2 : I3) (K : I3 → β) : graph_first_q a0 a_ a2 K = K (graph_first a0 a_ a2) := rfl
theorem graph_first_is (a0 : Node) (a_ : I3) (a2 : I3) : stepS E cp20 noE 49 [.agg (tsNode.leaves a0), .agg (tsI3.leaves a_), .agg (tsI3.leaves a2)] = (fun y : I3 => some (.agg (tsI3.leaves y) : R)) (graph_first a0 a_ a2) := by
  refine Eq.trans ?_ (graph_first_n a0 a_ a2 (fun y : I3 => some (.agg (tsI3.leaves y) : R)))
  refine (stepG_is (nt := 8) (regs := [(0, .agg (tsNode.leaves a0)), (1, .agg (tsI3.leaves a_)), (2, .agg (tsI3.leaves a2))]) (by kernel_rfl) (by kernel_rfl)).trans ?_
  unfold graph_first_q
  refine (pre (n := 2) (c' := C20.r.r) (by kernel_rfl) (by kernel_rfl) (graph_first_fz a0 a_ a2 _)).trans ?_
  refine (ret_eq (by kernel_rfl)).trans ?_
  kernel_rfl
theorem graph_first_c (x : denL [(.agg tsNode), (.agg tsI3), (.agg tsI3)]) : stepS E cp20 noE 49 (encL [(.agg tsNode), (.agg tsI3), (.agg tsI3)] x) = ((fun x => some (graph_first x.1 x.2.1 x.2.2.1)) x).bind fun y => some (Po.enc (.one (.agg tsI3)) ((fun y : I3 => y) y)) := Eq.mp (by kernel_rfl) (graph_first_is x.1 x.2.1 x.2.2.1)
noncomputable def cp21 : CallP := withC cp20 49 [(.agg tsNode), (.agg tsI3), (.agg tsI3)] (.one (.agg tsI3)) (fun y : I3 => y) (fun x => some (graph_first x.1 x.2.1 x.2.2.1))
theorem cp21_ok : PureOK E cp21 := withC_ok cp20_ok (stepS_ok eok cp20_ok noE_ok) fun x => con_of (enc := fun y => Po.enc (.one (.agg tsI3)) ((fun y : I3 => y) y)) (graph_first_c x)
noncomputable abbrev C21 : Code := codeOf E.P 47
noncomputable abbrev P21 {α : Type} (n : Nat) (c : Code) (st : St) (k : St → Option α) : Option α := preK E 47 cp21 noE n c st k
noncomputable abbrev R21 {α : Type} (c : Code) (st : St) (k : Kont α) : Option α := runCode E 47 cp21 noE c st k
noncomputable abbrev Q21 {α : Type} (c : Code) (k : Kont α) : Kont α := seqC E 47 cp21 noE c k
theorem shape_Out_f1 {α : Type} (size : Int) (k_ : Int) (stride : Int) (pad : Int) (k : St → Option α) : P21 1 C21 ⟨[(0, ri size), (1, ri k_), (2, ri stride), (3, ri pad)], [], [], 46⟩ k = k ⟨[(0, ri size), (1, ri k_), (2, ri stride), (3, ri pad)], [], [], 46⟩ := by kernel_rfl
def shape_Out_r1_q {β : Type} (size : Int) (k_ : Int) (stride : Int) (pad : Int) (K : Bool → Option β) : Option β := (Option.bind (shape_within_1 [size] (((shape_within (1 : Int) (64 : Int)).1).1) (((shape_within (1 : Int) (64 : Int)).2.1).1)) (fun y228 : Bool => (bif (!y228) then (K true) else (Option.bind (shape_within_1 [k_, stride] (((shape_within (1 : Int) (16 : Int)).1).1) (((shape_within (1 : Int) (16 : Int)).2.1).1)) (fun y229 : Bool => (bif (!y229) then (K true) else (Option.bind (shape_within_1 [pad] (((shape_within (0 : Int) (16 : Int)).1).1) (((shape_within (0 : Int) (16 : Int)).2.1).1)) (fun y230 : Bool => (bif (!y230) then (K true) else (K (decide (k_ > (IntKind.wrap .i64 (size + (IntKind.wrap .i64 ((2 : Int) * pad))))))))))))))))
def shape_Out_r1_p (size : Int) (k_ : Int) (stride : Int) (pad : Int) : Option (Bool) := shape_Out_r1_q size k_ stride pad some
theorem shape_Out_r1_n {β : Type} (size : Int) (k_ : Int) (stride : Int) (pad : Int) (K : Bool → Option β) : shape_Out_r1_q size k_ stride pad K = (shape_Out_r1_p size k_ stride pad).bind K := (bind_b fun y228 => (bif_b some_b (bind_b fun y229 => (bif_b some_b (bind_b fun y230 => (bif_b some_b some_b))))))
theorem shape_Out_r1 {α : Type} (size : Int) (k_ : Int) (stride : Int) (pad : Int) (k : St → Option α) : P21 1 C21.r.l ⟨[(0, ri size), (1, ri k_), (2, ri stride), (3, ri pad)], [], [], 46⟩ k = Option.bind (shape_Out_r1_p size k_ stride pad) (fun y231 : Bool => k ⟨[(0, ri size), (1, ri k_), (2, ri stride), (3, ri pad), (36, rb y231)], [], [], 46⟩) := Eq.trans (by kernel_rfl) (shape_Out_r1_n size k_ stride pad _)
theorem shape_Out_fz {α : Type} (size : Int) (k_ : Int) (stride : Int) (pad : Int) (k : St → Option α) : P21 1 C21.r.l.r.t ⟨[(0, ri size), (1, ri k_), (2, ri stride), (3, ri pad)], [], [], 46⟩ k = k ⟨[(8, ri (0 : Int))], [], [], 46⟩ := by kernel_rfl
def shape_Out_r3_q {β : Type} (size : Int) (k_ : Int) (stride : Int) (pad : Int) (K : Int → Option β) : Option β := (bif (stride == (0:Int)) then none else (K (IntKind.wrap .i64 ((1 : Int) + (IntKind.wrap .i64 (Int.tdiv (IntKind.wrap .i64 ((IntKind.wrap .i64 (size + (IntKind.wrap .i64 ((2 : Int) * pad)))) - k_)) stride))))))
def shape_Out_r3_p (size : Int) (k_ : Int) (stride : Int) (pad : Int) : Option (Int) := shape_Out_r3_q size k_ stride pad some
theorem shape_Out_r3_n {β : Type} (size : Int) (k_ : Int) (stride : Int) (pad : Int) (K : Int → Option β) : shape_Out_r3_q size k_ stride pad K = (shape_Out_r3_p size k_ stride pad).bind K := (bif_b none_b some_b)
theorem shape_Out_r3 {α : Type} (size : Int) (k_ : Int) (stride : Int) (pad : Int) (k : St → Option α) : P21 1 C21.r.r ⟨[(0, ri size), (1, ri k_), (2, ri stride), (3, ri pad)], [], [], 46⟩ k = Option.bind (shape_Out_r3_p size k_ stride pad) (fun y232 : Int => k ⟨[(8, ri y232)], [], [], 46⟩) := Eq.trans (by kernel_rfl) (shape_Out_r3_n size k_ stride pad _)
/-- quilt/shape.Out -/
def shape_Out_q {β : Type} (size : Int) (k_ : Int) (stride : Int) (pad : Int) (K : Int → Option β) : Option β := (Option.bind (shape_Out_r1_p size k_ stride pad) (fun y231 : Bool => (bif y231 then (K (0 : Int)) else (Option.bind (shape_Out_r3_p size k_ stride pad) (fun y232 : Int => (K y232))))))
def shape_Out (size : Int) (k_ : Int) (stride : Int) (pad : Int) : Option Int := shape_Out_q size k_ stride pad some
theorem shape_Out_n {β : Type} (size : Int) (k_ : Int) (stride : Int) (pad : Int) (K : Int → Option β) : shape_Out_q size k_ stride pad K = (shape_Out size k_ stride pad).bind K := (bind_b fun y231 => (bif_b some_b (bind_b fun y232 => some_b)))
theorem shape_Out_is (size : Int) (k_ : Int) (stride : Int) (pad : Int) : stepS E cp21 noE 47 [ri size, ri k_, ri stride, ri pad] = Option.bind (shape_Out size k_ stride pad) (fun y : Int => some (ri y : R)) := by
  refine Eq.trans ?_ (shape_Out_n size k_ stride pad (fun y : Int => some (ri y : R)))
  refine (stepG_is (nt := 46) (regs := [(0, ri size), (1, ri k_), (2, ri stride), (3, ri pad)]) (by kernel_rfl) (by kernel_rfl)).trans ?_
  unfold shape_Out_q
  refine (pre (n := 1) (c' := C21.r) (by kernel_rfl) (by kernel_rfl) (shape_Out_f1 size k_ stride pad _)).trans ?_
  refine (seq_push (by kernel_rfl)).trans ?_
  refine (pre (n := 1) (c' := C21.r.l.r) (by kernel_rfl) (by kernel_rfl) (shape_Out_r1 size k_ stride pad _)).trans (bind_g fun y231 => ?_)
  refine (cond_eq (b := y231) (st' := ⟨[(0, ri size), (1, ri k_), (2, ri stride), (3, ri pad)], [], [], 46⟩) (by kernel_rfl) (by kernel_rfl) (by kernel_rfl)).trans (bif_g ?_ ?_)
  · refine (pre (n := 1) (c' := C21.r.l.r.t.r) (by kernel_rfl) (by kernel_rfl) (shape_Out_fz size k_ stride pad _)).trans ?_
    refine (ret_eq (by kernel_rfl)).trans ?_
    refine seqC_ret.trans ?_
    kernel_rfl
  · refine (skip_eq (by kernel_rfl)).trans ?_
    refine (seqC_normal (st' := ⟨[(0, ri size), (1, ri k_), (2, ri stride), (3, ri pad)], [], [], 46⟩) (by kernel_rfl)).trans ?_
    refine (pre (n := 1) (c' := C21.r.r.r) (by kernel_rfl) (by kernel_rfl) (shape_Out_r3 size k_ stride pad _)).trans (bind_g fun y232 => ?_)
    refine (ret_eq (by kernel_rfl)).trans ?_
    kernel_rfl
theorem shape_Out_c (x : denL [(.one (.g (.int .i64))), (.one (.g (.int .i64))), (.one (.g (.int .i64))), (.one (.g (.int .i64)))]) : stepS E cp21 noE 47 (encL [(.one (.g (.int .i64))), (.one (.g (.int .i64))), (.one (.g (.int .i64))), (.one (.g (.int .i64)))] x) = ((fun x => shape_Out x.1 x.2.1 x.2.2.1 x.2.2.2.1) x).bind fun y => some (Po.enc (.one (.one (.g (.int .i64)))) ((fun y : Int => y) y)) := Eq.mp (by kernel_rfl) (shape_Out_is x.1 x.2.1 x.2.2.1 x.2.2.2.1)
noncomputable def cp22 : CallP := withC cp21 47 [(.one (.g (.int .i64))), (.one (.g (.int .i64))), (.one (.g (.int .i64))), (.one (.g (.int .i64)))] (.one (.one (.g (.int .i64)))) (fun y : Int => y) (fun x => shape_Out x.1 x.2.1 x.2.2.1 x.2.2.2.1)
theorem cp22_ok : PureOK E cp22 := withC_ok cp21_ok (stepS_ok eok cp21_ok noE_ok) fun x => con_of (enc := fun y => Po.enc (.one (.one (.g (.int .i64)))) ((fun y : Int => y) y)) (shape_Out_c x)
noncomputable abbrev C22 : Code := codeOf E.P 52
noncomputable abbrev P22 {α : Type} (n : Nat) (c : Code) (st : St) (k : St → Option α) : Option α := preK E 52 cp22 noE n c st k
noncomputable abbrev R22 {α : Type} (c : Code) (st : St) (k : Kont α) : Option α := runCode E 52 cp22 noE c st k
noncomputable abbrev Q22 {α : Type} (c : Code) (k : Kont α) : Kont α := seqC E 52 cp22 noE c k
def graph_slid_r1_q {β : Type} (n_ : Node) (s_ : I3) (K : (Int × Int) → Option β) : Option β := (Option.bind (shape_Out s_.1 n_.2.2.1 n_.2.2.2.1 n_.2.2.2.2.1) (fun y233 : Int => (Option.bind (shape_Out s_.2.1 n_.2.2.1 n_.2.2.2.1 n_.2.2.2.2.1) (fun y234 : Int => (K (y233, y234))))))
def graph_slid_r1_p (n_ : Node) (s_ : I3) : Option ((Int × Int)) := graph_slid_r1_q n_ s_ some
theorem graph_slid_r1_n {β : Type} (n_ : Node) (s_ : I3) (K : (Int × Int) → Option β) : graph_slid_r1_q n_ s_ K = (graph_slid_r1_p n_ s_).bind K := (bind_b fun y233 => (bind_b fun y234 => some_b))
theorem graph_slid_r1 {α : Type} (n_ : Node) (s_ : I3) (c_ : Int) (k : St → Option α) : P22 2 C22 ⟨[(0, .agg (tsNode.leaves n_)), (1, .agg (tsI3.leaves s_)), (2, ri c_)], [], [], 27⟩ k = Option.bind (graph_slid_r1_p n_ s_) (fun y235 : (Int × Int) => k ⟨[(6, .one (.ref 0 0))], [[di y235.1, di y235.2, di c_]], [], 27⟩) := Eq.trans (by kernel_rfl) (graph_slid_r1_n n_ s_ _)
/-- quilt/graph.slid -/
def graph_slid_q {β : Type} (n_ : Node) (s_ : I3) (c_ : Int) (K : I3 → Option β) : Option β := (Option.bind (graph_slid_r1_p n_ s_) (fun y235 : (Int × Int) => (K (y235.1, y235.2, c_))))
def graph_slid (n_ : Node) (s_ : I3) (c_ : Int) : Option I3 := graph_slid_q n_ s_ c_ some
theorem graph_slid_n {β : Type} (n_ : Node) (s_ : I3) (c_ : Int) (K : I3 → Option β) : graph_slid_q n_ s_ c_ K = (graph_slid n_ s_ c_).bind K := (bind_b fun y235 => some_b)
theorem graph_slid_is (n_ : Node) (s_ : I3) (c_ : Int) : stepS E cp22 noE 52 [.agg (tsNode.leaves n_), .agg (tsI3.leaves s_), ri c_] = Option.bind (graph_slid n_ s_ c_) (fun y : I3 => some (.agg (tsI3.leaves y) : R)) := by
  refine Eq.trans ?_ (graph_slid_n n_ s_ c_ (fun y : I3 => some (.agg (tsI3.leaves y) : R)))
  refine (stepG_is (nt := 27) (regs := [(0, .agg (tsNode.leaves n_)), (1, .agg (tsI3.leaves s_)), (2, ri c_)]) (by kernel_rfl) (by kernel_rfl)).trans ?_
  unfold graph_slid_q
  refine (pre (n := 2) (c' := C22.r.r) (by kernel_rfl) (by kernel_rfl) (graph_slid_r1 n_ s_ c_ _)).trans (bind_g fun y235 => ?_)
  refine (ret_eq (by kernel_rfl)).trans ?_
  kernel_rfl
theorem graph_slid_c (x : denL [(.agg tsNode), (.agg tsI3), (.one (.g (.int .i64)))]) : stepS E cp22 noE 52 (encL [(.agg tsNode), (.agg tsI3), (.one (.g (.int .i64)))] x) = ((fun x => graph_slid x.1 x.2.1 x.2.2.1) x).bind fun y => some (Po.enc (.one (.agg tsI3)) ((fun y : I3 => y) y)) := Eq.mp (by kernel_rfl) (graph_slid_is x.1 x.2.1 x.2.2.1)
noncomputable def cp23 : CallP := withC cp22 52 [(.agg tsNode), (.agg tsI3), (.one (.g (.int .i64)))] (.one (.agg tsI3)) (fun y : I3 => y) (fun x => graph_slid x.1 x.2.1 x.2.2.1)
theorem cp23_ok : PureOK E cp23 := withC_ok cp22_ok (stepS_ok eok cp22_ok noE_ok) fun x => con_of (enc := fun y => Po.enc (.one (.agg tsI3)) ((fun y : I3 => y) y)) (graph_slid_c x)
noncomputable abbrev C23 : Code := codeOf E.P 51
noncomputable abbrev P23 {α : Type} (n : Nat) (c : Code) (st : St) (k : St → Option α) : Option α := preK E 51 cp23 noE n c st k
noncomputable abbrev R23 {α : Type} (c : Code) (st : St) (k : Kont α) : Option α := runCode E 51 cp23 noE c st k
noncomputable abbrev Q23 {α : Type} (c : Code) (k : Kont α) : Kont α := seqC E 51 cp23 noE c k
theorem graph_of_1_r1 {α : Type} (n_ : Node) (a_ : I3) (a2 : I3) (k : St → Option α) : P23 2 C23 ⟨[(0, .agg (tsNode.leaves n_)), (1, .agg (tsI3.leaves a_)), (2, .agg (tsI3.leaves a2))], [], [], 12⟩ k = Option.bind (graph_slid n_ a_ n_.2.2.2.2.2.1) fun y236 : I3 => k ⟨[(6, .one (.ref 0 0))], [(tsI3.leaves y236)], [], 12⟩ := by kernel_rfl
/-- quilt/graph.of$1 -/
def graph_of_1_q {β : Type} (n_ : Node) (a_ : I3) (a2 : I3) (K : I3 → Option β) : Option β := (Option.bind (graph_slid n_ a_ n_.2.2.2.2.2.1) (fun y236 : I3 => (K y236)))
def graph_of_1 (n_ : Node) (a_ : I3) (a2 : I3) : Option I3 := graph_of_1_q n_ a_ a2 some
theorem graph_of_1_n {β : Type} (n_ : Node) (a_ : I3) (a2 : I3) (K : I3 → Option β) : graph_of_1_q n_ a_ a2 K = (graph_of_1 n_ a_ a2).bind K := (bind_b fun y236 => some_b)
theorem graph_of_1_is (n_ : Node) (a_ : I3) (a2 : I3) : stepS E cp23 noE 51 [.agg (tsNode.leaves n_), .agg (tsI3.leaves a_), .agg (tsI3.leaves a2)] = Option.bind (graph_of_1 n_ a_ a2) (fun y : I3 => some (.agg (tsI3.leaves y) : R)) := by
  refine Eq.trans ?_ (graph_of_1_n n_ a_ a2 (fun y : I3 => some (.agg (tsI3.leaves y) : R)))
  refine (stepG_is (nt := 12) (regs := [(0, .agg (tsNode.leaves n_)), (1, .agg (tsI3.leaves a_)), (2, .agg (tsI3.leaves a2))]) (by kernel_rfl) (by kernel_rfl)).trans ?_
  unfold graph_of_1_q
  refine (pre (n := 2) (c' := C23.r.r) (by kernel_rfl) (by kernel_rfl) (graph_of_1_r1 n_ a_ a2 _)).trans (bind_g fun y236 => ?_)
  refine (ret_eq (by kernel_rfl)).trans ?_
  kernel_rfl
theorem graph_of_1_c (x : denL [(.agg tsNode), (.agg tsI3), (.agg tsI3)]) : stepS E cp23 noE 51 (encL [(.agg tsNode), (.agg tsI3), (.agg tsI3)] x) = ((fun x => graph_of_1 x.1 x.2.1 x.2.2.1) x).bind fun y => some (Po.enc (.one (.agg tsI3)) ((fun y : I3 => y) y)) := Eq.mp (by kernel_rfl) (graph_of_1_is x.1 x.2.1 x.2.2.1)
noncomputable def cp24 : CallP := withC cp23 51 [(.agg tsNode), (.agg tsI3), (.agg tsI3)] (.one (.agg tsI3)) (fun y : I3 => y) (fun x => graph_of_1 x.1 x.2.1 x.2.2.1)
theorem cp24_ok : PureOK E cp24 := withC_ok cp23_ok (stepS_ok eok cp23_ok noE_ok) fun x => con_of (enc := fun y => Po.enc (.one (.agg tsI3)) ((fun y : I3 => y) y)) (graph_of_1_c x)
noncomputable abbrev C24 : Code := codeOf E.P 54
noncomputable abbrev P24 {α : Type} (n : Nat) (c : Code) (st : St) (k : St → Option α) : Option α := preK E 54 cp24 noE n c st k
noncomputable abbrev R24 {α : Type} (c : Code) (st : St) (k : Kont α) : Option α := runCode E 54 cp24 noE c st k
noncomputable abbrev Q24 {α : Type} (c : Code) (k : Kont α) : Kont α := seqC E 54 cp24 noE c k
theorem graph_pooled_r1 {α : Type} (n_ : Node) (a_ : I3) (a2 : I3) (k : St → Option α) : P24 2 C24 ⟨[(0, .agg (tsNode.leaves n_)), (1, .agg (tsI3.leaves a_)), (2, .agg (tsI3.leaves a2))], [], [], 12⟩ k = Option.bind (graph_slid n_ a_ a_.2.2) fun y239 : I3 => k ⟨[(6, .one (.ref 0 0))], [(tsI3.leaves y239)], [], 12⟩ := by kernel_rfl
/-- quilt/graph.pooled -/
def graph_pooled_q {β : Type} (n_ : Node) (a_ : I3) (a2 : I3) (K : I3 → Option β) : Option β := (Option.bind (graph_slid n_ a_ a_.2.2) (fun y239 : I3 => (K y239)))
def graph_pooled (n_ : Node) (a_ : I3) (a2 : I3) : Option I3 := graph_pooled_q n_ a_ a2 some
theorem graph_pooled_n {β : Type} (n_ : Node) (a_ : I3) (a2 : I3) (K : I3 → Option β) : graph_pooled_q n_ a_ a2 K = (graph_pooled n_ a_ a2).bind K := (bind_b fun y239 => some_b)
theorem graph_pooled_is (n_ : Node) (a_ : I3) (a2 : I3) : stepS E cp24 noE 54 [.agg (tsNode.leaves n_), .agg (tsI3.leaves a_), .agg (tsI3.leaves a2)] = Option.bind (graph_pooled n_ a_ a2) (fun y : I3 => some (.agg (tsI3.leaves y) : R)) := by
  refine Eq.trans ?_ (graph_pooled_n n_ a_ a2 (fun y : I3 => some (.agg (tsI3.leaves y) : R)))
  refine (stepG_is (nt := 12) (regs := [(0, .agg (tsNode.leaves n_)), (1, .agg (tsI3.leaves a_)), (2, .agg (tsI3.leaves a2))]) (by kernel_rfl) (by kernel_rfl)).trans ?_
  unfold graph_pooled_q
  refine (pre (n := 2) (c' := C24.r.r) (by kernel_rfl) (by kernel_rfl) (graph_pooled_r1 n_ a_ a2 _)).trans (bind_g fun y239 => ?_)
  refine (ret_eq (by kernel_rfl)).trans ?_
  kernel_rfl
theorem graph_pooled_c (x : denL [(.agg tsNode), (.agg tsI3), (.agg tsI3)]) : stepS E cp24 noE 54 (encL [(.agg tsNode), (.agg tsI3), (.agg tsI3)] x) = ((fun x => graph_pooled x.1 x.2.1 x.2.2.1) x).bind fun y => some (Po.enc (.one (.agg tsI3)) ((fun y : I3 => y) y)) := Eq.mp (by kernel_rfl) (graph_pooled_is x.1 x.2.1 x.2.2.1)
noncomputable def cp25 : CallP := withC cp24 54 [(.agg tsNode), (.agg tsI3), (.agg tsI3)] (.one (.agg tsI3)) (fun y : I3 => y) (fun x => graph_pooled x.1 x.2.1 x.2.2.1)
theorem cp25_ok : PureOK E cp25 := withC_ok cp24_ok (stepS_ok eok cp24_ok noE_ok) fun x => con_of (enc := fun y => Po.enc (.one (.agg tsI3)) ((fun y : I3 => y) y)) (graph_pooled_c x)
noncomputable abbrev C25 : Code := codeOf E.P 56
noncomputable abbrev P25 {α : Type} (n : Nat) (c : Code) (st : St) (k : St → Option α) : Option α := preK E 56 cp25 noE n c st k
noncomputable abbrev R25 {α : Type} (c : Code) (st : St) (k : Kont α) : Option α := runCode E 56 cp25 noE c st k
noncomputable abbrev Q25 {α : Type} (c : Code) (k : Kont α) : Kont α := seqC E 56 cp25 noE c k
theorem graph_of_4_fz {α : Type} (n_ : Node) (a1 : I3) (a2 : I3) (k : St → Option α) : P25 2 C25 ⟨[(0, .agg (tsNode.leaves n_)), (1, .agg (tsI3.leaves a1)), (2, .agg (tsI3.leaves a2))], [], [], 10⟩ k = k ⟨[(6, .one (.ref 0 0))], [[di (1 : Int), di (1 : Int), di n_.2.2.2.2.2.1]], [], 10⟩ := by kernel_rfl
/-- quilt/graph.of$4 -/
def graph_of_4_q {β : Type} (n_ : Node) (a1 : I3) (a2 : I3) (K : I3 → β) : β := (K ((1 : Int), (1 : Int), n_.2.2.2.2.2.1))
def graph_of_4 (n_ : Node) (a1 : I3) (a2 : I3) : I3 := graph_of_4_q n_ a1 a2 (fun y => y)
theorem graph_of_4_n {β : Type} (n_ : Node) (a1 : I3) (a2 : I3) (K : I3 → β) : graph_of_4_q n_ a1 a2 K = K (graph_of_4 n_ a1 a2) := rfl
theorem graph_of_4_is (n_ : Node) (a1 : I3) (a2 : I3) : stepS E cp25 noE 56 [.agg (tsNode.leaves n_), .agg (tsI3.leaves a1), .agg (tsI3.leaves a2)] = (fun y : I3 => some (.agg (tsI3.leaves y) : R)) (graph_of_4 n_ a1 a2) := by
  refine Eq.trans ?_ (graph_of_4_n n_ a1 a2 (fun y : I3 => some (.agg (tsI3.leaves y) : R)))
  refine (stepG_is (nt := 10) (regs := [(0, .agg (tsNode.leaves n_)), (1, .agg (tsI3.leaves a1)), (2, .agg (tsI3.leaves a2))]) (by kernel_rfl) (by kernel_rfl)).trans ?_
  unfold graph_of_4_q
  refine (pre (n := 2) (c' := C25.r.r) (by kernel_rfl) (by kernel_rfl) (graph_of_4_fz n_ a1 a2 _)).trans ?_
  refine (ret_eq (by kernel_rfl)).trans ?_
  kernel_rfl
theorem graph_of_4_c (x : denL [(.agg tsNode), (.agg tsI3), (.agg tsI3)]) : stepS E cp25 noE 56 (encL [(.agg tsNode), (.agg tsI3), (.agg tsI3)] x) = ((fun x => some (graph_of_4 x.1 x.2.1 x.2.2.1)) x).bind fun y => some (Po.enc (.one (.agg tsI3)) ((fun y : I3 => y) y)) := Eq.mp (by kernel_rfl) (graph_of_4_is x.1 x.2.1 x.2.2.1)
noncomputable def cp26 : CallP := withC cp25 56 [(.agg tsNode), (.agg tsI3), (.agg tsI3)] (.one (.agg tsI3)) (fun y : I3 => y) (fun x => some (graph_of_4 x.1 x.2.1 x.2.2.1))
theorem cp26_ok : PureOK E cp26 := withC_ok cp25_ok (stepS_ok eok cp25_ok noE_ok) fun x => con_of (enc := fun y => Po.enc (.one (.agg tsI3)) ((fun y : I3 => y) y)) (graph_of_4_c x)
noncomputable abbrev C26 : Code := codeOf E.P 59
noncomputable abbrev P26 {α : Type} (n : Nat) (c : Code) (st : St) (k : St → Option α) : Option α := preK E 59 cp26 noE n c st k
noncomputable abbrev R26 {α : Type} (c : Code) (st : St) (k : Kont α) : Option α := runCode E 59 cp26 noE c st k
noncomputable abbrev Q26 {α : Type} (c : Code) (k : Kont α) : Kont α := seqC E 59 cp26 noE c k
theorem graph_same_f1 {α : Type} (a0 : Node) (a_ : I3) (b_ : I3) (k : St → Option α) : P26 1 C26 ⟨[(0, .agg (tsNode.leaves a0)), (1, .agg (tsI3.leaves a_)), (2, .agg (tsI3.leaves b_))], [], [], 12⟩ k = k ⟨[(4, .one (.cell (tsI3.leaves a_))), (5, .one (.cell (tsI3.leaves b_))), (6, .one (.ref 0 0))], [[di (0 : Int), di (0 : Int), di (0 : Int)]], [], 12⟩ := by kernel_rfl
theorem graph_same_f1000002 {α : Type} (a_ : I3) (b_ : I3) (k : St → Option α) : P26 1 C26.r.l ⟨[(4, .one (.cell (tsI3.leaves a_))), (5, .one (.cell (tsI3.leaves b_))), (6, .one (.ref 0 0))], [[di (0 : Int), di (0 : Int), di (0 : Int)]], [], 12⟩ k = k ⟨[(4, .one (.cell (tsI3.leaves a_))), (6, .one (.ref 0 0)), (9, rb (!((a_.1 == b_.1) && ((a_.2.1 == b_.2.1) && ((a_.2.2 == b_.2.2) && true)))))], [[di (0 : Int), di (0 : Int), di (0 : Int)]], [], 12⟩ := by kernel_rfl
theorem graph_same_fz {α : Type} (a_ : I3) (k : St → Option α) : P26 1 C26.r.l.r.t ⟨[(4, .one (.cell (tsI3.leaves a_))), (6, .one (.ref 0 0))], [[di (0 : Int), di (0 : Int), di (0 : Int)]], [], 12⟩ k = k ⟨[(6, .one (.ref 0 0))], [[di (0 : Int), di (0 : Int), di (0 : Int)]], [], 12⟩ := by kernel_rfl
theorem graph_same_fzx1 {α : Type} (a_ : I3) (k : St → Option α) : P26 1 C26.r.r ⟨[(4, .one (.cell (tsI3.leaves a_))), (6, .one (.ref 0 0))], [[di (0 : Int), di (0 : Int), di (0 : Int)]], [], 12⟩ k = k ⟨[(6, .one (.ref 0 0))], [(tsI3.leaves a_)], [], 12⟩ := by kernel_rfl
/-- quilt/graph.same -/
def graph_same_q {β : Type} (a0 : Node) (a_ : I3) (b_ : I3) (K : I3 → β) : β := (bif (!((a_.1 == b_.1) && ((a_.2.1 == b_.2.1) && ((a_.2.2 == b_.2.2) && true)))) then (K ((0 : Int), (0 : Int), (0 : Int))) else (K a_))
def graph_same (a0 : Node) (a_ : I3) (b_ : I3) : I3 := graph_same_q a0 a_ b_ (fun y => y)
theorem graph_same_n {β : Type} (a0 : Node) (a_ : I3) (b_ : I3) (K : I3 → β) : graph_same_q a0 a_ b_ K = K (graph_same a0 a_ b_) := (bif_k K rfl rfl)
theorem graph_same_is (a0 : Node) (a_ : I3) (b_ : I3) : stepS E cp26 noE 59 [.agg (tsNode.leaves a0), .agg (tsI3.leaves a_), .agg (tsI3.leaves b_)] = (fun y : I3 => some (.agg (tsI3.leaves y) : R)) (graph_same a0 a_ b_) := by
  refine Eq.trans ?_ (graph_same_n a0 a_ b_ (fun y : I3 => some (.agg (tsI3.leaves y) : R)))
  refine (stepG_is (nt := 12) (regs := [(0, .agg (tsNode.leaves a0)), (1, .agg (tsI3.leaves a_)), (2, .agg (tsI3.leaves b_))]) (by kernel_rfl) (by kernel_rfl)).trans ?_
  unfold graph_same_q
  refine (pre (n := 1) (c' := C26.r) (by kernel_rfl) (by kernel_rfl) (graph_same_f1 a0 a_ b_ _)).trans ?_
  refine (seq_push (by kernel_rfl)).trans ?_
  refine (pre (n := 1) (c' := C26.r.l.r) (by kernel_rfl) (by kernel_rfl) (graph_same_f1000002 a_ b_ _)).trans ?_
  refine (cond_eq (b := (!((a_.1 == b_.1) && ((a_.2.1 == b_.2.1) && ((a_.2.2 == b_.2.2) && true))))) (st' := ⟨[(4, .one (.cell (tsI3.leaves a_))), (6, .one (.ref 0 0))], [[di (0 : Int), di (0 : Int), di (0 : Int)]], [], 12⟩) (by kernel_rfl) (by kernel_rfl) (by kernel_rfl)).trans (bif_g ?_ ?_)
  · refine (pre (n := 1) (c' := C26.r.l.r.t.r) (by kernel_rfl) (by kernel_rfl) (graph_same_fz a_ _)).trans ?_
    refine (ret_eq (by kernel_rfl)).trans ?_
    refine seqC_ret.trans ?_
    kernel_rfl
  · refine (skip_eq (by kernel_rfl)).trans ?_
    refine (seqC_normal (st' := ⟨[(4, .one (.cell (tsI3.leaves a_))), (6, .one (.ref 0 0))], [[di (0 : Int), di (0 : Int), di (0 : Int)]], [], 12⟩) (by kernel_rfl)).trans ?_
    refine (pre (n := 1) (c' := C26.r.r.r) (by kernel_rfl) (by kernel_rfl) (graph_same_fzx1 a_ _)).trans ?_
    refine (ret_eq (by kernel_rfl)).trans ?_
    kernel_rfl
theorem graph_same_c (x : denL [(.agg tsNode), (.agg tsI3), (.agg tsI3)]) : stepS E cp26 noE 59 (encL [(.agg tsNode), (.agg tsI3), (.agg tsI3)] x) = ((fun x => some (graph_same x.1 x.2.1 x.2.2.1)) x).bind fun y => some (Po.enc (.one (.agg tsI3)) ((fun y : I3 => y) y)) := Eq.mp (by kernel_rfl) (graph_same_is x.1 x.2.1 x.2.2.1)
noncomputable def cp27 : CallP := withC cp26 59 [(.agg tsNode), (.agg tsI3), (.agg tsI3)] (.one (.agg tsI3)) (fun y : I3 => y) (fun x => some (graph_same x.1 x.2.1 x.2.2.1))
theorem cp27_ok : PureOK E cp27 := withC_ok cp26_ok (stepS_ok eok cp26_ok noE_ok) fun x => con_of (enc := fun y => Po.enc (.one (.agg tsI3)) ((fun y : I3 => y) y)) (graph_same_c x)
noncomputable abbrev C27 : Code := codeOf E.P 60
noncomputable abbrev P27 {α : Type} (n : Nat) (c : Code) (st : St) (k : St → Option α) : Option α := preK E 60 cp27 noE n c st k
noncomputable abbrev R27 {α : Type} (c : Code) (st : St) (k : Kont α) : Option α := runCode E 60 cp27 noE c st k
noncomputable abbrev Q27 {α : Type} (c : Code) (k : Kont α) : Kont α := seqC E 60 cp27 noE c k
theorem graph_of_6_fz {α : Type} (a0 : Node) (a_ : I3) (a2 : I3) (k : St → Option α) : P27 2 C27 ⟨[(0, .agg (tsNode.leaves a0)), (1, .agg (tsI3.leaves a_)), (2, .agg (tsI3.leaves a2))], [], [], 16⟩ k = k ⟨[(6, .one (.ref 0 0))], [[di (IntKind.wrap .i64 (a_.1 + (2 : Int))), di (IntKind.wrap .i64 (a_.2.1 + (2 : Int))), di a_.2.2]], [], 16⟩ := by kernel_rfl
/-- quilt/graph.of$6 -/
def graph_of_6_q {β : Type} (a0 : Node) (a_ : I3) (a2 : I3) (K : I3 → β) : β := (K ((IntKind.wrap .i64 (a_.1 + (2 : Int))), (IntKind.wrap .i64 (a_.2.1 + (2 : Int))), a_.2.2))
def graph_of_6 (a0 : Node) (a_ : I3) (a2 : I3) : I3 := graph_of_6_q a0 a_ a2 (fun y => y)
theorem graph_of_6_n {β : Type} (a0 : Node) (a_ : I3) (a2 : I3) (K : I3 → β) : graph_of_6_q a0 a_ a2 K = K (graph_of_6 a0 a_ a2) := rfl
theorem graph_of_6_is (a0 : Node) (a_ : I3) (a2 : I3) : stepS E cp27 noE 60 [.agg (tsNode.leaves a0), .agg (tsI3.leaves a_), .agg (tsI3.leaves a2)] = (fun y : I3 => some (.agg (tsI3.leaves y) : R)) (graph_of_6 a0 a_ a2) := by
  refine Eq.trans ?_ (graph_of_6_n a0 a_ a2 (fun y : I3 => some (.agg (tsI3.leaves y) : R)))
  refine (stepG_is (nt := 16) (regs := [(0, .agg (tsNode.leaves a0)), (1, .agg (tsI3.leaves a_)), (2, .agg (tsI3.leaves a2))]) (by kernel_rfl) (by kernel_rfl)).trans ?_
  unfold graph_of_6_q
  refine (pre (n := 2) (c' := C27.r.r) (by kernel_rfl) (by kernel_rfl) (graph_of_6_fz a0 a_ a2 _)).trans ?_
  refine (ret_eq (by kernel_rfl)).trans ?_
  kernel_rfl
theorem graph_of_6_c (x : denL [(.agg tsNode), (.agg tsI3), (.agg tsI3)]) : stepS E cp27 noE 60 (encL [(.agg tsNode), (.agg tsI3), (.agg tsI3)] x) = ((fun x => some (graph_of_6 x.1 x.2.1 x.2.2.1)) x).bind fun y => some (Po.enc (.one (.agg tsI3)) ((fun y : I3 => y) y)) := Eq.mp (by kernel_rfl) (graph_of_6_is x.1 x.2.1 x.2.2.1)
noncomputable def cp28 : CallP := withC cp27 60 [(.agg tsNode), (.agg tsI3), (.agg tsI3)] (.one (.agg tsI3)) (fun y : I3 => y) (fun x => some (graph_of_6 x.1 x.2.1 x.2.2.1))
theorem cp28_ok : PureOK E cp28 := withC_ok cp27_ok (stepS_ok eok cp27_ok noE_ok) fun x => con_of (enc := fun y => Po.enc (.one (.agg tsI3)) ((fun y : I3 => y) y)) (graph_of_6_c x)
noncomputable abbrev C28 : Code := codeOf E.P 61
noncomputable abbrev P28 {α : Type} (n : Nat) (c : Code) (st : St) (k : St → Option α) : Option α := preK E 61 cp28 noE n c st k
noncomputable abbrev R28 {α : Type} (c : Code) (st : St) (k : Kont α) : Option α := runCode E 61 cp28 noE c st k
noncomputable abbrev Q28 {α : Type} (c : Code) (k : Kont α) : Kont α := seqC E 61 cp28 noE c k
theorem graph_beside_f1 {α : Type} (a0 : Node) (a_ : I3) (b_ : I3) (k : St → Option α) : P28 1 C28 ⟨[(0, .agg (tsNode.leaves a0)), (1, .agg (tsI3.leaves a_)), (2, .agg (tsI3.leaves b_))], [], [], 30⟩ k = k ⟨[(4, .one (.cell (tsI3.leaves a_))), (5, .one (.cell (tsI3.leaves b_))), (6, .one (.ref 0 0))], [[di (0 : Int), di (0 : Int), di (0 : Int)]], [], 30⟩ := by kernel_rfl
def graph_beside_r1_q {β : Type} (a_ : I3) (b_ : I3) (K : Bool → β) : β := (bif (a_.1 != b_.1) then (K true) else (K (a_.2.1 != b_.2.1)))
def graph_beside_r1_p (a_ : I3) (b_ : I3) : Bool := graph_beside_r1_q a_ b_ (fun y => y)
theorem graph_beside_r1_n {β : Type} (a_ : I3) (b_ : I3) (K : Bool → β) : graph_beside_r1_q a_ b_ K = K (graph_beside_r1_p a_ b_) := (bif_k K rfl rfl)
theorem graph_beside_r1 {α : Type} (a_ : I3) (b_ : I3) (k : St → Option α) : P28 1 C28.r.l ⟨[(4, .one (.cell (tsI3.leaves a_))), (5, .one (.cell (tsI3.leaves b_))), (6, .one (.ref 0 0))], [[di (0 : Int), di (0 : Int), di (0 : Int)]], [], 30⟩ k = k ⟨[(4, .one (.cell (tsI3.leaves a_))), (5, .one (.cell (tsI3.leaves b_))), (6, .one (.ref 0 0)), (18, rb (graph_beside_r1_p a_ b_))], [[di (0 : Int), di (0 : Int), di (0 : Int)]], [], 30⟩ := Eq.trans (by kernel_rfl) (graph_beside_r1_n a_ b_ (fun y246 : Bool => k ⟨[(4, .one (.cell (tsI3.leaves a_))), (5, .one (.cell (tsI3.leaves b_))), (6, .one (.ref 0 0)), (18, rb y246)], [[di (0 : Int), di (0 : Int), di (0 : Int)]], [], 30⟩))
theorem graph_beside_fz {α : Type} (a_ : I3) (b_ : I3) (k : St → Option α) : P28 1 C28.r.l.r.t ⟨[(4, .one (.cell (tsI3.leaves a_))), (5, .one (.cell (tsI3.leaves b_))), (6, .one (.ref 0 0))], [[di (0 : Int), di (0 : Int), di (0 : Int)]], [], 30⟩ k = k ⟨[(6, .one (.ref 0 0))], [[di (0 : Int), di (0 : Int), di (0 : Int)]], [], 30⟩ := by kernel_rfl
theorem graph_beside_fzx1 {α : Type} (a_ : I3) (b_ : I3) (k : St → Option α) : P28 1 C28.r.r ⟨[(4, .one (.cell (tsI3.leaves a_))), (5, .one (.cell (tsI3.leaves b_))), (6, .one (.ref 0 0))], [[di (0 : Int), di (0 : Int), di (0 : Int)]], [], 30⟩ k = k ⟨[(6, .one (.ref 0 0))], [[di a_.1, di a_.2.1, di (IntKind.wrap .i64 (a_.2.2 + b_.2.2))]], [], 30⟩ := by kernel_rfl
/-- quilt/graph.beside -/
def graph_beside_q {β : Type} (a0 : Node) (a_ : I3) (b_ : I3) (K : I3 → β) : β := (bif (graph_beside_r1_p a_ b_) then (K ((0 : Int), (0 : Int), (0 : Int))) else (K (a_.1, a_.2.1, (IntKind.wrap .i64 (a_.2.2 + b_.2.2)))))
def graph_beside (a0 : Node) (a_ : I3) (b_ : I3) : I3 := graph_beside_q a0 a_ b_ (fun y => y)
theorem graph_beside_n {β : Type} (a0 : Node) (a_ : I3) (b_ : I3) (K : I3 → β) : graph_beside_q a0 a_ b_ K = K (graph_beside a0 a_ b_) := (bif_k K rfl rfl)
theorem graph_beside_is (a0 : Node) (a_ : I3) (b_ : I3) : stepS E cp28 noE 61 [.agg (tsNode.leaves a0), .agg (tsI3.leaves a_), .agg (tsI3.leaves b_)] = (fun y : I3 => some (.agg (tsI3.leaves y) : R)) (graph_beside a0 a_ b_) := by
  refine Eq.trans ?_ (graph_beside_n a0 a_ b_ (fun y : I3 => some (.agg (tsI3.leaves y) : R)))
  refine (stepG_is (nt := 30) (regs := [(0, .agg (tsNode.leaves a0)), (1, .agg (tsI3.leaves a_)), (2, .agg (tsI3.leaves b_))]) (by kernel_rfl) (by kernel_rfl)).trans ?_
  unfold graph_beside_q
  refine (pre (n := 1) (c' := C28.r) (by kernel_rfl) (by kernel_rfl) (graph_beside_f1 a0 a_ b_ _)).trans ?_
  refine (seq_push (by kernel_rfl)).trans ?_
  refine (pre (n := 1) (c' := C28.r.l.r) (by kernel_rfl) (by kernel_rfl) (graph_beside_r1 a_ b_ _)).trans ?_
  refine (cond_eq (b := (graph_beside_r1_p a_ b_)) (st' := ⟨[(4, .one (.cell (tsI3.leaves a_))), (5, .one (.cell (tsI3.leaves b_))), (6, .one (.ref 0 0))], [[di (0 : Int), di (0 : Int), di (0 : Int)]], [], 30⟩) (by kernel_rfl) (by kernel_rfl) (by kernel_rfl)).trans (bif_g ?_ ?_)
  · refine (pre (n := 1) (c' := C28.r.l.r.t.r) (by kernel_rfl) (by kernel_rfl) (graph_beside_fz a_ b_ _)).trans ?_
    refine (ret_eq (by kernel_rfl)).trans ?_
    refine seqC_ret.trans ?_
    kernel_rfl
  · refine (skip_eq (by kernel_rfl)).trans ?_
    refine (seqC_normal (st' := ⟨[(4, .one (.cell (tsI3.leaves a_))), (5, .one (.cell (tsI3.leaves b_))), (6, .one (.ref 0 0))], [[di (0 : Int), di (0 : Int), di (0 : Int)]], [], 30⟩) (by kernel_rfl)).trans ?_
    refine (pre (n := 1) (c' := C28.r.r.r) (by kernel_rfl) (by kernel_rfl) (graph_beside_fzx1 a_ b_ _)).trans ?_
    refine (ret_eq (by kernel_rfl)).trans ?_
    kernel_rfl
theorem graph_beside_c (x : denL [(.agg tsNode), (.agg tsI3), (.agg tsI3)]) : stepS E cp28 noE 61 (encL [(.agg tsNode), (.agg tsI3), (.agg tsI3)] x) = ((fun x => some (graph_beside x.1 x.2.1 x.2.2.1)) x).bind fun y => some (Po.enc (.one (.agg tsI3)) ((fun y : I3 => y) y)) := Eq.mp (by kernel_rfl) (graph_beside_is x.1 x.2.1 x.2.2.1)
noncomputable def cp29 : CallP := withC cp28 61 [(.agg tsNode), (.agg tsI3), (.agg tsI3)] (.one (.agg tsI3)) (fun y : I3 => y) (fun x => some (graph_beside x.1 x.2.1 x.2.2.1))
theorem cp29_ok : PureOK E cp29 := withC_ok cp28_ok (stepS_ok eok cp28_ok noE_ok) fun x => con_of (enc := fun y => Po.enc (.one (.agg tsI3)) ((fun y : I3 => y) y)) (graph_beside_c x)
noncomputable abbrev C29 : Code := codeOf E.P 20
noncomputable abbrev P29 {α : Type} (n : Nat) (c : Code) (st : St) (k : St → Option α) : Option α := preK E 20 cp29 noE n c st k
noncomputable abbrev R29 {α : Type} (c : Code) (st : St) (k : Kont α) : Option α := runCode E 20 cp29 noE c st k
noncomputable abbrev Q29 {α : Type} (c : Code) (k : Kont α) : Kont α := seqC E 20 cp29 noE c k
theorem shape_Row_f1 {α : Type} (s_ : I3) (k : St → Option α) : P29 1 C29 ⟨[(0, .agg (tsI3.leaves s_))], [], [], 11⟩ k = k ⟨[(1, .one (.cell (tsI3.leaves s_)))], [], [], 11⟩ := by kernel_rfl
theorem shape_Row_r1 {α : Type} (s_ : I3) (k : St → Option α) : P29 1 C29.r.l ⟨[(1, .one (.cell (tsI3.leaves s_)))], [], [], 11⟩ k = Option.bind (shape_may s_) fun y249 : Bool => k ⟨[(1, .one (.cell (tsI3.leaves s_))), (5, rb (!y249))], [], [], 11⟩ := by kernel_rfl
theorem shape_Row_fz {α : Type} (s_ : I3) (k : St → Option α) : P29 1 C29.r.l.r.t ⟨[(1, .one (.cell (tsI3.leaves s_)))], [], [], 11⟩ k = k ⟨[(2, ri (0 : Int))], [], [], 11⟩ := by kernel_rfl
theorem shape_Row_fzx1 {α : Type} (s_ : I3) (k : St → Option α) : P29 1 C29.r.r ⟨[(1, .one (.cell (tsI3.leaves s_)))], [], [], 11⟩ k = k ⟨[(2, ri (IntKind.wrap .i64 (s_.2.1 * s_.2.2)))], [], [], 11⟩ := by kernel_rfl
/-- quilt/shape.Row -/
def shape_Row_q {β : Type} (s_ : I3) (K : Int → Option β) : Option β := (Option.bind (shape_may s_) (fun y249 : Bool => (bif (!y249) then (K (0 : Int)) else (K (IntKind.wrap .i64 (s_.2.1 * s_.2.2))))))
def shape_Row (s_ : I3) : Option Int := shape_Row_q s_ some
theorem shape_Row_n {β : Type} (s_ : I3) (K : Int → Option β) : shape_Row_q s_ K = (shape_Row s_).bind K := (bind_b fun y249 => (bif_b some_b some_b))
theorem shape_Row_is (s_ : I3) : stepS E cp29 noE 20 [.agg (tsI3.leaves s_)] = Option.bind (shape_Row s_) (fun y : Int => some (ri y : R)) := by
  refine Eq.trans ?_ (shape_Row_n s_ (fun y : Int => some (ri y : R)))
  refine (stepG_is (nt := 11) (regs := [(0, .agg (tsI3.leaves s_))]) (by kernel_rfl) (by kernel_rfl)).trans ?_
  unfold shape_Row_q
  refine (pre (n := 1) (c' := C29.r) (by kernel_rfl) (by kernel_rfl) (shape_Row_f1 s_ _)).trans ?_
  refine (seq_push (by kernel_rfl)).trans ?_
  refine (pre (n := 1) (c' := C29.r.l.r) (by kernel_rfl) (by kernel_rfl) (shape_Row_r1 s_ _)).trans (bind_g fun y249 => ?_)
  refine (cond_eq (b := (!y249)) (st' := ⟨[(1, .one (.cell (tsI3.leaves s_)))], [], [], 11⟩) (by kernel_rfl) (by kernel_rfl) (by kernel_rfl)).trans (bif_g ?_ ?_)
  · refine (pre (n := 1) (c' := C29.r.l.r.t.r) (by kernel_rfl) (by kernel_rfl) (shape_Row_fz s_ _)).trans ?_
    refine (ret_eq (by kernel_rfl)).trans ?_
    refine seqC_ret.trans ?_
    kernel_rfl
  · refine (skip_eq (by kernel_rfl)).trans ?_
    refine (seqC_normal (st' := ⟨[(1, .one (.cell (tsI3.leaves s_)))], [], [], 11⟩) (by kernel_rfl)).trans ?_
    refine (pre (n := 1) (c' := C29.r.r.r) (by kernel_rfl) (by kernel_rfl) (shape_Row_fzx1 s_ _)).trans ?_
    refine (ret_eq (by kernel_rfl)).trans ?_
    kernel_rfl
theorem shape_Row_c (x : denL [(.agg tsI3)]) : stepS E cp29 noE 20 (encL [(.agg tsI3)] x) = ((fun x => shape_Row x.1) x).bind fun y => some (Po.enc (.one (.one (.g (.int .i64)))) ((fun y : Int => y) y)) := Eq.mp (by kernel_rfl) (shape_Row_is x.1)
noncomputable def cp30 : CallP := withC cp29 20 [(.agg tsI3)] (.one (.one (.g (.int .i64)))) (fun y : Int => y) (fun x => shape_Row x.1)
theorem cp30_ok : PureOK E cp30 := withC_ok cp29_ok (stepS_ok eok cp29_ok noE_ok) fun x => con_of (enc := fun y => Po.enc (.one (.one (.g (.int .i64)))) ((fun y : Int => y) y)) (shape_Row_c x)
noncomputable abbrev C30 : Code := codeOf E.P 58
noncomputable abbrev P30 {α : Type} (n : Nat) (c : Code) (st : St) (k : St → Option α) : Option α := preK E 58 cp30 noE n c st k
noncomputable abbrev R30 {α : Type} (c : Code) (st : St) (k : Kont α) : Option α := runCode E 58 cp30 noE c st k
noncomputable abbrev Q30 {α : Type} (c : Code) (k : Kont α) : Kont α := seqC E 58 cp30 noE c k
theorem shape_Size_r1 {α : Type} (s_ : I3) (k : St → Option α) : P30 2 C30 ⟨[(0, .agg (tsI3.leaves s_))], [], [], 8⟩ k = Option.bind (shape_Row s_) fun y250 : Int => k ⟨[(2, ri (IntKind.wrap .i64 (y250 * s_.1)))], [], [], 8⟩ := by kernel_rfl
/-- quilt/shape.Size -/
def shape_Size_q {β : Type} (s_ : I3) (K : Int → Option β) : Option β := (Option.bind (shape_Row s_) (fun y250 : Int => (K (IntKind.wrap .i64 (y250 * s_.1)))))
def shape_Size (s_ : I3) : Option Int := shape_Size_q s_ some
theorem shape_Size_n {β : Type} (s_ : I3) (K : Int → Option β) : shape_Size_q s_ K = (shape_Size s_).bind K := (bind_b fun y250 => some_b)
theorem shape_Size_is (s_ : I3) : stepS E cp30 noE 58 [.agg (tsI3.leaves s_)] = Option.bind (shape_Size s_) (fun y : Int => some (ri y : R)) := by
  refine Eq.trans ?_ (shape_Size_n s_ (fun y : Int => some (ri y : R)))
  refine (stepG_is (nt := 8) (regs := [(0, .agg (tsI3.leaves s_))]) (by kernel_rfl) (by kernel_rfl)).trans ?_
  unfold shape_Size_q
  refine (pre (n := 2) (c' := C30.r.r) (by kernel_rfl) (by kernel_rfl) (shape_Size_r1 s_ _)).trans (bind_g fun y250 => ?_)
  refine (ret_eq (by kernel_rfl)).trans ?_
  kernel_rfl
theorem shape_Size_c (x : denL [(.agg tsI3)]) : stepS E cp30 noE 58 (encL [(.agg tsI3)] x) = ((fun x => shape_Size x.1) x).bind fun y => some (Po.enc (.one (.one (.g (.int .i64)))) ((fun y : Int => y) y)) := Eq.mp (by kernel_rfl) (shape_Size_is x.1)
noncomputable def cp31 : CallP := withC cp30 58 [(.agg tsI3)] (.one (.one (.g (.int .i64)))) (fun y : Int => y) (fun x => shape_Size x.1)
theorem cp31_ok : PureOK E cp31 := withC_ok cp30_ok (stepS_ok eok cp30_ok noE_ok) fun x => con_of (enc := fun y => Po.enc (.one (.one (.g (.int .i64)))) ((fun y : Int => y) y)) (shape_Size_c x)
noncomputable abbrev C31 : Code := codeOf E.P 62
noncomputable abbrev P31 {α : Type} (n : Nat) (c : Code) (st : St) (k : St → Option α) : Option α := preK E 62 cp31 noE n c st k
noncomputable abbrev R31 {α : Type} (c : Code) (st : St) (k : Kont α) : Option α := runCode E 62 cp31 noE c st k
noncomputable abbrev Q31 {α : Type} (c : Code) (k : Kont α) : Kont α := seqC E 62 cp31 noE c k
theorem graph_anew_f1 {α : Type} (n_ : Node) (a_ : I3) (a2 : I3) (k : St → Option α) : P31 1 C31 ⟨[(0, .agg (tsNode.leaves n_)), (1, .agg (tsI3.leaves a_)), (2, .agg (tsI3.leaves a2))], [], [], 16⟩ k = k ⟨[(3, .one (.cell (tsNode.leaves n_))), (4, .one (.cell (tsI3.leaves a_))), (6, .one (.ref 0 0))], [[di (0 : Int), di (0 : Int), di (0 : Int)]], [], 16⟩ := by kernel_rfl
def graph_anew_r1_q {β : Type} (n_ : Node) (a_ : I3) (K : Bool → Option β) : Option β := (Option.bind (shape_Size (n_.2.2.2.2.2.2.2.2.2.1, n_.2.2.2.2.2.2.2.2.2.2.1, n_.2.2.2.2.2.2.2.2.2.2.2.1)) (fun y254 : Int => (Option.bind (shape_Size a_) (fun y255 : Int => (K (y254 != y255))))))
def graph_anew_r1_p (n_ : Node) (a_ : I3) : Option (Bool) := graph_anew_r1_q n_ a_ some
theorem graph_anew_r1_n {β : Type} (n_ : Node) (a_ : I3) (K : Bool → Option β) : graph_anew_r1_q n_ a_ K = (graph_anew_r1_p n_ a_).bind K := (bind_b fun y254 => (bind_b fun y255 => some_b))
theorem graph_anew_r1 {α : Type} (n_ : Node) (a_ : I3) (k : St → Option α) : P31 1 C31.r.l ⟨[(3, .one (.cell (tsNode.leaves n_))), (4, .one (.cell (tsI3.leaves a_))), (6, .one (.ref 0 0))], [[di (0 : Int), di (0 : Int), di (0 : Int)]], [], 16⟩ k = Option.bind (graph_anew_r1_p n_ a_) (fun y256 : Bool => k ⟨[(3, .one (.cell (tsNode.leaves n_))), (6, .one (.ref 0 0)), (12, rb y256)], [[di (0 : Int), di (0 : Int), di (0 : Int)]], [], 16⟩) := Eq.trans (by kernel_rfl) (graph_anew_r1_n n_ a_ _)
theorem graph_anew_fz {α : Type} (n_ : Node) (k : St → Option α) : P31 1 C31.r.l.r.t ⟨[(3, .one (.cell (tsNode.leaves n_))), (6, .one (.ref 0 0))], [[di (0 : Int), di (0 : Int), di (0 : Int)]], [], 16⟩ k = k ⟨[(6, .one (.ref 0 0))], [[di (0 : Int), di (0 : Int), di (0 : Int)]], [], 16⟩ := by kernel_rfl
theorem graph_anew_fzx1 {α : Type} (n_ : Node) (k : St → Option α) : P31 1 C31.r.r ⟨[(3, .one (.cell (tsNode.leaves n_))), (6, .one (.ref 0 0))], [[di (0 : Int), di (0 : Int), di (0 : Int)]], [], 16⟩ k = k ⟨[(6, .one (.ref 0 0))], [[di n_.2.2.2.2.2.2.2.2.2.1, di n_.2.2.2.2.2.2.2.2.2.2.1, di n_.2.2.2.2.2.2.2.2.2.2.2.1]], [], 16⟩ := by kernel_rfl
/-- quilt/graph.anew -/
def graph_anew_q {β : Type} (n_ : Node) (a_ : I3) (a2 : I3) (K : I3 → Option β) : Option β := (Option.bind (graph_anew_r1_p n_ a_) (fun y256 : Bool => (bif y256 then (K ((0 : Int), (0 : Int), (0 : Int))) else (K (n_.2.2.2.2.2.2.2.2.2.1, n_.2.2.2.2.2.2.2.2.2.2.1, n_.2.2.2.2.2.2.2.2.2.2.2.1)))))
def graph_anew (n_ : Node) (a_ : I3) (a2 : I3) : Option I3 := graph_anew_q n_ a_ a2 some
theorem graph_anew_n {β : Type} (n_ : Node) (a_ : I3) (a2 : I3) (K : I3 → Option β) : graph_anew_q n_ a_ a2 K = (graph_anew n_ a_ a2).bind K := (bind_b fun y256 => (bif_b some_b some_b))
theorem graph_anew_is (n_ : Node) (a_ : I3) (a2 : I3) : stepS E cp31 noE 62 [.agg (tsNode.leaves n_), .agg (tsI3.leaves a_), .agg (tsI3.leaves a2)] = Option.bind (graph_anew n_ a_ a2) (fun y : I3 => some (.agg (tsI3.leaves y) : R)) := by
  refine Eq.trans ?_ (graph_anew_n n_ a_ a2 (fun y : I3 => some (.agg (tsI3.leaves y) : R)))
  refine (stepG_is (nt := 16) (regs := [(0, .agg (tsNode.leaves n_)), (1, .agg (tsI3.leaves a_)), (2, .agg (tsI3.leaves a2))]) (by kernel_rfl) (by kernel_rfl)).trans ?_
  unfold graph_anew_q
  refine (pre (n := 1) (c' := C31.r) (by kernel_rfl) (by kernel_rfl) (graph_anew_f1 n_ a_ a2 _)).trans ?_
  refine (seq_push (by kernel_rfl)).trans ?_
  refine (pre (n := 1) (c' := C31.r.l.r) (by kernel_rfl) (by kernel_rfl) (graph_anew_r1 n_ a_ _)).trans (bind_g fun y256 => ?_)
  refine (cond_eq (b := y256) (st' := ⟨[(3, .one (.cell (tsNode.leaves n_))), (6, .one (.ref 0 0))], [[di (0 : Int), di (0 : Int), di (0 : Int)]], [], 16⟩) (by kernel_rfl) (by kernel_rfl) (by kernel_rfl)).trans (bif_g ?_ ?_)
  · refine (pre (n := 1) (c' := C31.r.l.r.t.r) (by kernel_rfl) (by kernel_rfl) (graph_anew_fz n_ _)).trans ?_
    refine (ret_eq (by kernel_rfl)).trans ?_
    refine seqC_ret.trans ?_
    kernel_rfl
  · refine (skip_eq (by kernel_rfl)).trans ?_
    refine (seqC_normal (st' := ⟨[(3, .one (.cell (tsNode.leaves n_))), (6, .one (.ref 0 0))], [[di (0 : Int), di (0 : Int), di (0 : Int)]], [], 16⟩) (by kernel_rfl)).trans ?_
    refine (pre (n := 1) (c' := C31.r.r.r) (by kernel_rfl) (by kernel_rfl) (graph_anew_fzx1 n_ _)).trans ?_
    refine (ret_eq (by kernel_rfl)).trans ?_
    kernel_rfl
theorem graph_anew_c (x : denL [(.agg tsNode), (.agg tsI3), (.agg tsI3)]) : stepS E cp31 noE 62 (encL [(.agg tsNode), (.agg tsI3), (.agg tsI3)] x) = ((fun x => graph_anew x.1 x.2.1 x.2.2.1) x).bind fun y => some (Po.enc (.one (.agg tsI3)) ((fun y : I3 => y) y)) := Eq.mp (by kernel_rfl) (graph_anew_is x.1 x.2.1 x.2.2.1)
noncomputable def cp32 : CallP := withC cp31 62 [(.agg tsNode), (.agg tsI3), (.agg tsI3)] (.one (.agg tsI3)) (fun y : I3 => y) (fun x => graph_anew x.1 x.2.1 x.2.2.1)
theorem cp32_ok : PureOK E cp32 := withC_ok cp31_ok (stepS_ok eok cp31_ok noE_ok) fun x => con_of (enc := fun y => Po.enc (.one (.agg tsI3)) ((fun y : I3 => y) y)) (graph_anew_c x)
noncomputable abbrev C32 : Code := codeOf E.P 50
noncomputable abbrev P32 {α : Type} (n : Nat) (c : Code) (st : St) (k : St → Option α) : Option α := preK E 50 cp32 noE n c st k
noncomputable abbrev R32 {α : Type} (c : Code) (st : St) (k : Kont α) : Option α := runCode E 50 cp32 noE c st k
noncomputable abbrev Q32 {α : Type} (c : Code) (k : Kont α) : Kont α := seqC E 50 cp32 noE c k
theorem graph_bare_fz {α : Type} (a0_ : Node) (a1_ : I3) (k : St → Option α) : P32 2 C32 ⟨[(0, .agg (tsNode.leaves a0_)), (1, .agg (tsI3.leaves a1_))], [], [], 6⟩ k = k ⟨[(4, ri (0 : Int)), (5, ri (0 : Int))], [], [], 6⟩ := by kernel_rfl
/-- quilt/graph.bare -/
def graph_bare_q {β : Type} (a0_ : Node) (a1_ : I3) (K : (Int × Int) → β) : β := (K ((0 : Int), (0 : Int)))
def graph_bare (a0_ : Node) (a1_ : I3) : (Int × Int) := graph_bare_q a0_ a1_ (fun y => y)
theorem graph_bare_n {β : Type} (a0_ : Node) (a1_ : I3) (K : (Int × Int) → β) : graph_bare_q a0_ a1_ K = K (graph_bare a0_ a1_) := rfl
theorem graph_bare_is (a0_ : Node) (a1_ : I3) : stepS E cp32 noE 50 [.agg (tsNode.leaves a0_), .agg (tsI3.leaves a1_)] = (fun y : (Int × Int) => some (.tup [ri y.1, ri y.2] : R)) (graph_bare a0_ a1_) := by
  refine Eq.trans ?_ (graph_bare_n a0_ a1_ (fun y : (Int × Int) => some (.tup [ri y.1, ri y.2] : R)))
  refine (stepG_is (nt := 6) (regs := [(0, .agg (tsNode.leaves a0_)), (1, .agg (tsI3.leaves a1_))]) (by kernel_rfl) (by kernel_rfl)).trans ?_
  unfold graph_bare_q
  refine (pre (n := 2) (c' := C32.r.r) (by kernel_rfl) (by kernel_rfl) (graph_bare_fz a0_ a1_ _)).trans ?_
  refine (ret_eq (by kernel_rfl)).trans ?_
  kernel_rfl
theorem graph_bare_c (x : denL [(.agg tsNode), (.agg tsI3)]) : stepS E cp32 noE 50 (encL [(.agg tsNode), (.agg tsI3)] x) = ((fun x => some (graph_bare x.1 x.2.1)) x).bind fun y => some (Po.enc (.tup [(.one (.g (.int .i64))), (.one (.g (.int .i64)))]) ((fun y : (Int × Int) => (y.1, y.2, ())) y)) := Eq.mp (by kernel_rfl) (graph_bare_is x.1 x.2.1)
noncomputable def cp33 : CallP := withC cp32 50 [(.agg tsNode), (.agg tsI3)] (.tup [(.one (.g (.int .i64))), (.one (.g (.int .i64)))]) (fun y : (Int × Int) => (y.1, y.2, ())) (fun x => some (graph_bare x.1 x.2.1))
theorem cp33_ok : PureOK E cp33 := withC_ok cp32_ok (stepS_ok eok cp32_ok noE_ok) fun x => con_of (enc := fun y => Po.enc (.tup [(.one (.g (.int .i64))), (.one (.g (.int .i64)))]) ((fun y : (Int × Int) => (y.1, y.2, ())) y)) (graph_bare_c x)
noncomputable abbrev C33 : Code := codeOf E.P 53
noncomputable abbrev P33 {α : Type} (n : Nat) (c : Code) (st : St) (k : St → Option α) : Option α := preK E 53 cp33 noE n c st k
noncomputable abbrev R33 {α : Type} (c : Code) (st : St) (k : Kont α) : Option α := runCode E 53 cp33 noE c st k
noncomputable abbrev Q33 {α : Type} (c : Code) (k : Kont α) : Kont α := seqC E 53 cp33 noE c k
def graph_of_2_r1_q {β : Type} (n_ : Node) (s_ : I3) (K : Int → β) : β := (K (IntKind.wrap .i64 ((IntKind.wrap .i64 ((IntKind.wrap .i64 (n_.2.2.1 * n_.2.2.1)) * s_.2.2)) * n_.2.2.2.2.2.1)))
def graph_of_2_r1_p (n_ : Node) (s_ : I3) : Int := graph_of_2_r1_q n_ s_ (fun y => y)
theorem graph_of_2_r1_n {β : Type} (n_ : Node) (s_ : I3) (K : Int → β) : graph_of_2_r1_q n_ s_ K = K (graph_of_2_r1_p n_ s_) := rfl
theorem graph_of_2_r1 {α : Type} (n_ : Node) (s_ : I3) (k : St → Option α) : P33 2 C33 ⟨[(0, .agg (tsNode.leaves n_)), (1, .agg (tsI3.leaves s_))], [], [], 19⟩ k = k ⟨[(4, ri (graph_of_2_r1_p n_ s_)), (5, ri n_.2.2.2.2.2.1)], [], [], 19⟩ := Eq.trans (by kernel_rfl) (graph_of_2_r1_n n_ s_ (fun y264 : Int => k ⟨[(4, ri y264), (5, ri n_.2.2.2.2.2.1)], [], [], 19⟩))
/-- quilt/graph.of$2 -/
def graph_of_2_q {β : Type} (n_ : Node) (s_ : I3) (K : (Int × Int) → β) : β := (K ((graph_of_2_r1_p n_ s_), n_.2.2.2.2.2.1))
def graph_of_2 (n_ : Node) (s_ : I3) : (Int × Int) := graph_of_2_q n_ s_ (fun y => y)
theorem graph_of_2_n {β : Type} (n_ : Node) (s_ : I3) (K : (Int × Int) → β) : graph_of_2_q n_ s_ K = K (graph_of_2 n_ s_) := rfl
theorem graph_of_2_is (n_ : Node) (s_ : I3) : stepS E cp33 noE 53 [.agg (tsNode.leaves n_), .agg (tsI3.leaves s_)] = (fun y : (Int × Int) => some (.tup [ri y.1, ri y.2] : R)) (graph_of_2 n_ s_) := by
  refine Eq.trans ?_ (graph_of_2_n n_ s_ (fun y : (Int × Int) => some (.tup [ri y.1, ri y.2] : R)))
  refine (stepG_is (nt := 19) (regs := [(0, .agg (tsNode.leaves n_)), (1, .agg (tsI3.leaves s_))]) (by kernel_rfl) (by kernel_rfl)).trans ?_
  unfold graph_of_2_q
  refine (pre (n := 2) (c' := C33.r.r) (by kernel_rfl) (by kernel_rfl) (graph_of_2_r1 n_ s_ _)).trans ?_
  refine (ret_eq (by kernel_rfl)).trans ?_
  kernel_rfl
theorem graph_of_2_c (x : denL [(.agg tsNode), (.agg tsI3)]) : stepS E cp33 noE 53 (encL [(.agg tsNode), (.agg tsI3)] x) = ((fun x => some (graph_of_2 x.1 x.2.1)) x).bind fun y => some (Po.enc (.tup [(.one (.g (.int .i64))), (.one (.g (.int .i64)))]) ((fun y : (Int × Int) => (y.1, y.2, ())) y)) := Eq.mp (by kernel_rfl) (graph_of_2_is x.1 x.2.1)
noncomputable def cp34 : CallP := withC cp33 53 [(.agg tsNode), (.agg tsI3)] (.tup [(.one (.g (.int .i64))), (.one (.g (.int .i64)))]) (fun y : (Int × Int) => (y.1, y.2, ())) (fun x => some (graph_of_2 x.1 x.2.1))
theorem cp34_ok : PureOK E cp34 := withC_ok cp33_ok (stepS_ok eok cp33_ok noE_ok) fun x => con_of (enc := fun y => Po.enc (.tup [(.one (.g (.int .i64))), (.one (.g (.int .i64)))]) ((fun y : (Int × Int) => (y.1, y.2, ())) y)) (graph_of_2_c x)
noncomputable abbrev C34 : Code := codeOf E.P 55
noncomputable abbrev P34 {α : Type} (n : Nat) (c : Code) (st : St) (k : St → Option α) : Option α := preK E 55 cp34 noE n c st k
noncomputable abbrev R34 {α : Type} (c : Code) (st : St) (k : Kont α) : Option α := runCode E 55 cp34 noE c st k
noncomputable abbrev Q34 {α : Type} (c : Code) (k : Kont α) : Kont α := seqC E 55 cp34 noE c k
theorem graph_of_3_fz {α : Type} (n_ : Node) (s_ : I3) (k : St → Option α) : P34 2 C34 ⟨[(0, .agg (tsNode.leaves n_)), (1, .agg (tsI3.leaves s_))], [], [], 16⟩ k = k ⟨[(4, ri (IntKind.wrap .i64 ((IntKind.wrap .i64 (n_.2.2.1 * n_.2.2.1)) * s_.2.2))), (5, ri s_.2.2)], [], [], 16⟩ := by kernel_rfl
/-- quilt/graph.of$3 -/
def graph_of_3_q {β : Type} (n_ : Node) (s_ : I3) (K : (Int × Int) → β) : β := (K ((IntKind.wrap .i64 ((IntKind.wrap .i64 (n_.2.2.1 * n_.2.2.1)) * s_.2.2)), s_.2.2))
def graph_of_3 (n_ : Node) (s_ : I3) : (Int × Int) := graph_of_3_q n_ s_ (fun y => y)
theorem graph_of_3_n {β : Type} (n_ : Node) (s_ : I3) (K : (Int × Int) → β) : graph_of_3_q n_ s_ K = K (graph_of_3 n_ s_) := rfl
theorem graph_of_3_is (n_ : Node) (s_ : I3) : stepS E cp34 noE 55 [.agg (tsNode.leaves n_), .agg (tsI3.leaves s_)] = (fun y : (Int × Int) => some (.tup [ri y.1, ri y.2] : R)) (graph_of_3 n_ s_) := by
  refine Eq.trans ?_ (graph_of_3_n n_ s_ (fun y : (Int × Int) => some (.tup [ri y.1, ri y.2] : R)))
  refine (stepG_is (nt := 16) (regs := [(0, .agg (tsNode.leaves n_)), (1, .agg (tsI3.leaves s_))]) (by kernel_rfl) (by kernel_rfl)).trans ?_
  unfold graph_of_3_q
  refine (pre (n := 2) (c' := C34.r.r) (by kernel_rfl) (by kernel_rfl) (graph_of_3_fz n_ s_ _)).trans ?_
  refine (ret_eq (by kernel_rfl)).trans ?_
  kernel_rfl
theorem graph_of_3_c (x : denL [(.agg tsNode), (.agg tsI3)]) : stepS E cp34 noE 55 (encL [(.agg tsNode), (.agg tsI3)] x) = ((fun x => some (graph_of_3 x.1 x.2.1)) x).bind fun y => some (Po.enc (.tup [(.one (.g (.int .i64))), (.one (.g (.int .i64)))]) ((fun y : (Int × Int) => (y.1, y.2, ())) y)) := Eq.mp (by kernel_rfl) (graph_of_3_is x.1 x.2.1)
noncomputable def cp35 : CallP := withC cp34 55 [(.agg tsNode), (.agg tsI3)] (.tup [(.one (.g (.int .i64))), (.one (.g (.int .i64)))]) (fun y : (Int × Int) => (y.1, y.2, ())) (fun x => some (graph_of_3 x.1 x.2.1))
theorem cp35_ok : PureOK E cp35 := withC_ok cp34_ok (stepS_ok eok cp34_ok noE_ok) fun x => con_of (enc := fun y => Po.enc (.tup [(.one (.g (.int .i64))), (.one (.g (.int .i64)))]) ((fun y : (Int × Int) => (y.1, y.2, ())) y)) (graph_of_3_c x)
noncomputable abbrev C35 : Code := codeOf E.P 57
noncomputable abbrev P35 {α : Type} (n : Nat) (c : Code) (st : St) (k : St → Option α) : Option α := preK E 57 cp35 noE n c st k
noncomputable abbrev R35 {α : Type} (c : Code) (st : St) (k : Kont α) : Option α := runCode E 57 cp35 noE c st k
noncomputable abbrev Q35 {α : Type} (c : Code) (k : Kont α) : Kont α := seqC E 57 cp35 noE c k
theorem graph_of_5_r1 {α : Type} (n_ : Node) (s_ : I3) (k : St → Option α) : P35 2 C35 ⟨[(0, .agg (tsNode.leaves n_)), (1, .agg (tsI3.leaves s_))], [], [], 13⟩ k = Option.bind (shape_Size s_) fun y267 : Int => k ⟨[(4, ri (IntKind.wrap .i64 (y267 * n_.2.2.2.2.2.1))), (5, ri n_.2.2.2.2.2.1)], [], [], 13⟩ := by kernel_rfl
/-- quilt/graph.of$5 -/
def graph_of_5_q {β : Type} (n_ : Node) (s_ : I3) (K : (Int × Int) → Option β) : Option β := (Option.bind (shape_Size s_) (fun y267 : Int => (K ((IntKind.wrap .i64 (y267 * n_.2.2.2.2.2.1)), n_.2.2.2.2.2.1))))
def graph_of_5 (n_ : Node) (s_ : I3) : Option (Int × Int) := graph_of_5_q n_ s_ some
theorem graph_of_5_n {β : Type} (n_ : Node) (s_ : I3) (K : (Int × Int) → Option β) : graph_of_5_q n_ s_ K = (graph_of_5 n_ s_).bind K := (bind_b fun y267 => some_b)
theorem graph_of_5_is (n_ : Node) (s_ : I3) : stepS E cp35 noE 57 [.agg (tsNode.leaves n_), .agg (tsI3.leaves s_)] = Option.bind (graph_of_5 n_ s_) (fun y : (Int × Int) => some (.tup [ri y.1, ri y.2] : R)) := by
  refine Eq.trans ?_ (graph_of_5_n n_ s_ (fun y : (Int × Int) => some (.tup [ri y.1, ri y.2] : R)))
  refine (stepG_is (nt := 13) (regs := [(0, .agg (tsNode.leaves n_)), (1, .agg (tsI3.leaves s_))]) (by kernel_rfl) (by kernel_rfl)).trans ?_
  unfold graph_of_5_q
  refine (pre (n := 2) (c' := C35.r.r) (by kernel_rfl) (by kernel_rfl) (graph_of_5_r1 n_ s_ _)).trans (bind_g fun y267 => ?_)
  refine (ret_eq (by kernel_rfl)).trans ?_
  kernel_rfl
theorem graph_of_5_c (x : denL [(.agg tsNode), (.agg tsI3)]) : stepS E cp35 noE 57 (encL [(.agg tsNode), (.agg tsI3)] x) = ((fun x => graph_of_5 x.1 x.2.1) x).bind fun y => some (Po.enc (.tup [(.one (.g (.int .i64))), (.one (.g (.int .i64)))]) ((fun y : (Int × Int) => (y.1, y.2, ())) y)) := Eq.mp (by kernel_rfl) (graph_of_5_is x.1 x.2.1)
noncomputable def cp36 : CallP := withC cp35 57 [(.agg tsNode), (.agg tsI3)] (.tup [(.one (.g (.int .i64))), (.one (.g (.int .i64)))]) (fun y : (Int × Int) => (y.1, y.2, ())) (fun x => graph_of_5 x.1 x.2.1)
theorem cp36_ok : PureOK E cp36 := withC_ok cp35_ok (stepS_ok eok cp35_ok noE_ok) fun x => con_of (enc := fun y => Po.enc (.tup [(.one (.g (.int .i64))), (.one (.g (.int .i64)))]) ((fun y : (Int × Int) => (y.1, y.2, ())) y)) (graph_of_5_c x)
noncomputable abbrev C36 : Code := codeOf E.P 63
noncomputable abbrev P36 {α : Type} (n : Nat) (c : Code) (st : St) (k : St → Option α) : Option α := preK E 63 cp36 noE n c st k
noncomputable abbrev R36 {α : Type} (c : Code) (st : St) (k : Kont α) : Option α := runCode E 63 cp36 noE c st k
noncomputable abbrev Q36 {α : Type} (c : Code) (k : Kont α) : Kont α := seqC E 63 cp36 noE c k
theorem graph_of_7_fz {α : Type} (a0_ : Node) (a1_ : I3) (k : St → Option α) : P36 2 C36 ⟨[(0, .agg (tsNode.leaves a0_)), (1, .agg (tsI3.leaves a1_))], [], [], 6⟩ k = k ⟨[(4, ri (256 : Int)), (5, ri (0 : Int))], [], [], 6⟩ := by kernel_rfl
/-- quilt/graph.of$7 -/
def graph_of_7_q {β : Type} (a0_ : Node) (a1_ : I3) (K : (Int × Int) → β) : β := (K ((256 : Int), (0 : Int)))
def graph_of_7 (a0_ : Node) (a1_ : I3) : (Int × Int) := graph_of_7_q a0_ a1_ (fun y => y)
theorem graph_of_7_n {β : Type} (a0_ : Node) (a1_ : I3) (K : (Int × Int) → β) : graph_of_7_q a0_ a1_ K = K (graph_of_7 a0_ a1_) := rfl
theorem graph_of_7_is (a0_ : Node) (a1_ : I3) : stepS E cp36 noE 63 [.agg (tsNode.leaves a0_), .agg (tsI3.leaves a1_)] = (fun y : (Int × Int) => some (.tup [ri y.1, ri y.2] : R)) (graph_of_7 a0_ a1_) := by
  refine Eq.trans ?_ (graph_of_7_n a0_ a1_ (fun y : (Int × Int) => some (.tup [ri y.1, ri y.2] : R)))
  refine (stepG_is (nt := 6) (regs := [(0, .agg (tsNode.leaves a0_)), (1, .agg (tsI3.leaves a1_))]) (by kernel_rfl) (by kernel_rfl)).trans ?_
  unfold graph_of_7_q
  refine (pre (n := 2) (c' := C36.r.r) (by kernel_rfl) (by kernel_rfl) (graph_of_7_fz a0_ a1_ _)).trans ?_
  refine (ret_eq (by kernel_rfl)).trans ?_
  kernel_rfl
theorem graph_of_7_c (x : denL [(.agg tsNode), (.agg tsI3)]) : stepS E cp36 noE 63 (encL [(.agg tsNode), (.agg tsI3)] x) = ((fun x => some (graph_of_7 x.1 x.2.1)) x).bind fun y => some (Po.enc (.tup [(.one (.g (.int .i64))), (.one (.g (.int .i64)))]) ((fun y : (Int × Int) => (y.1, y.2, ())) y)) := Eq.mp (by kernel_rfl) (graph_of_7_is x.1 x.2.1)
noncomputable def cp37 : CallP := withC cp36 63 [(.agg tsNode), (.agg tsI3)] (.tup [(.one (.g (.int .i64))), (.one (.g (.int .i64)))]) (fun y : (Int × Int) => (y.1, y.2, ())) (fun x => some (graph_of_7 x.1 x.2.1))
theorem cp37_ok : PureOK E cp37 := withC_ok cp36_ok (stepS_ok eok cp36_ok noE_ok) fun x => con_of (enc := fun y => Po.enc (.tup [(.one (.g (.int .i64))), (.one (.g (.int .i64)))]) ((fun y : (Int × Int) => (y.1, y.2, ())) y)) (graph_of_7_c x)
noncomputable abbrev C37 : Code := codeOf E.P 40
noncomputable abbrev P37 {α : Type} (n : Nat) (c : Code) (st : St) (k : St → Option α) : Option α := preK E 40 cp37 noE n c st k
noncomputable abbrev R37 {α : Type} (c : Code) (st : St) (k : Kont α) : Option α := runCode E 40 cp37 noE c st k
noncomputable abbrev Q37 {α : Type} (c : Code) (k : Kont α) : Kont α := seqC E 40 cp37 noE c k
theorem graph_Value_3_fz {α : Type} (x_ : Int) (k : St → Option α) : P37 2 C37 ⟨[(0, rk .i32 x_)], [], [], 7⟩ k = k ⟨[(2, rb (!(graph_within (IntKind.wrap .i64 x_) (-16777216 : Int) (16777216 : Int))))], [], [], 7⟩ := by kernel_rfl
/-- quilt/graph.Value$3 -/
def graph_Value_3_q {β : Type} (x_ : Int) (K : Bool → β) : β := (K (!(graph_within (IntKind.wrap .i64 x_) (-16777216 : Int) (16777216 : Int))))
def graph_Value_3 (x_ : Int) : Bool := graph_Value_3_q x_ (fun y => y)
theorem graph_Value_3_n {β : Type} (x_ : Int) (K : Bool → β) : graph_Value_3_q x_ K = K (graph_Value_3 x_) := rfl
theorem graph_Value_3_is (x_ : Int) : stepS E cp37 noE 40 [rk .i32 x_] = (fun y : Bool => some (rb y : R)) (graph_Value_3 x_) := by
  refine Eq.trans ?_ (graph_Value_3_n x_ (fun y : Bool => some (rb y : R)))
  refine (stepG_is (nt := 7) (regs := [(0, rk .i32 x_)]) (by kernel_rfl) (by kernel_rfl)).trans ?_
  unfold graph_Value_3_q
  refine (pre (n := 2) (c' := C37.r.r) (by kernel_rfl) (by kernel_rfl) (graph_Value_3_fz x_ _)).trans ?_
  refine (ret_eq (by kernel_rfl)).trans ?_
  kernel_rfl
theorem graph_Value_3_c (x : denL [(.one (.g (.int .i32)))]) : stepS E cp37 noE 40 (encL [(.one (.g (.int .i32)))] x) = ((fun x => some (graph_Value_3 x.1)) x).bind fun y => some (Po.enc (.one (.one (.g .bool))) ((fun y : Bool => y) y)) := Eq.mp (by kernel_rfl) (graph_Value_3_is x.1)
noncomputable def cp38 : CallP := withC cp37 40 [(.one (.g (.int .i32)))] (.one (.one (.g .bool))) (fun y : Bool => y) (fun x => some (graph_Value_3 x.1))
theorem cp38_ok : PureOK E cp38 := withC_ok cp37_ok (stepS_ok eok cp37_ok noE_ok) fun x => con_of (enc := fun y => Po.enc (.one (.one (.g .bool))) ((fun y : Bool => y) y)) (graph_Value_3_c x)
noncomputable abbrev C38 : Code := codeOf E.P 65
noncomputable abbrev P38 {α : Type} (n : Nat) (c : Code) (st : St) (k : St → Option α) : Option α := preK E 65 cp38 noE n c st k
noncomputable abbrev R38 {α : Type} (c : Code) (st : St) (k : Kont α) : Option α := runCode E 65 cp38 noE c st k
noncomputable abbrev Q38 {α : Type} (c : Code) (k : Kont α) : Kont α := seqC E 65 cp38 noE c k
theorem slices_IndexFuncint32_int32_f1 {α : Type} (s_ : (List Int)) (k : St → Option α) : P38 1 C38 ⟨[(0, rl (.one (.int .i32)) s_), (1, .one (.fn 40 []))], [], [], 19⟩ k = k ⟨[(0, rl (.one (.int .i32)) s_), (1, .one (.fn 40 []))], [], [], 19⟩ := by kernel_rfl
theorem slices_IndexFuncint32_int32_f2 {α : Type} (s_ : (List Int)) (k : St → Option α) : P38 1 C38.r.l ⟨[(0, rl (.one (.int .i32)) s_), (1, .one (.fn 40 []))], [], [], 19⟩ k = k ⟨[(0, rl (.one (.int .i32)) s_), (1, .one (.fn 40 [])), (7, ri (s_.length : Int)), (8, ri (0 : Int))], [], [], 19⟩ := by kernel_rfl
theorem slices_IndexFuncint32_int32_fz {α : Type} (s_ : (List Int)) (s283 : Int) (k : St → Option α) : P38 1 (bodyOf (bodyOf C38.r.l.r)) ⟨[(0, rl (.one (.int .i32)) s_), (1, .one (.fn 40 [])), (7, ri (s_.length : Int)), (8, ri s283)], [], [], 19⟩ k = k ⟨[(0, rl (.one (.int .i32)) s_), (1, .one (.fn 40 [])), (7, ri (s_.length : Int)), (8, ri s283), (9, rb (decide (s283 < (s_.length : Int))))], [], [], 19⟩ := by kernel_rfl
def slices_IndexFuncint32_int32_r4_q {β : Type} (s_ : (List Int)) (s283 : Int) (K : Unit → Option β) : Option β := (bif (decide ((0 : Int) ≤ s283)) then (bif (decide (s283 < (s_.length : Int))) then (K ()) else none) else none)
def slices_IndexFuncint32_int32_r4_p (s_ : (List Int)) (s283 : Int) : Option (Unit) := slices_IndexFuncint32_int32_r4_q s_ s283 some
theorem slices_IndexFuncint32_int32_r4_n {β : Type} (s_ : (List Int)) (s283 : Int) (K : Unit → Option β) : slices_IndexFuncint32_int32_r4_q s_ s283 K = (slices_IndexFuncint32_int32_r4_p s_ s283).bind K := (bif_b (bif_b some_b none_b) none_b)
theorem slices_IndexFuncint32_int32_r4 {α : Type} (s_ : (List Int)) (s283 : Int) (k : St → Option α) : P38 2 (bodyOf (bodyOf (bodyOf C38.r.l.r)).r.r.l) ⟨[(0, rl (.one (.int .i32)) s_), (1, .one (.fn 40 [])), (7, ri (s_.length : Int)), (8, ri s283)], [], [], 19⟩ k = Option.bind (slices_IndexFuncint32_int32_r4_p s_ s283) (fun y285 : Unit => k ⟨[(0, rl (.one (.int .i32)) s_), (1, .one (.fn 40 [])), (5, ri s283), (7, ri (s_.length : Int)), (8, ri s283), (16, rb (graph_Value_3 (gt s_ s283 (0 : Int))))], [], [], 19⟩) := Eq.trans (by kernel_rfl) (slices_IndexFuncint32_int32_r4_n s_ s283 _)
theorem slices_IndexFuncint32_int32_fzx1 {α : Type} (s_ : (List Int)) (s283 : Int) (k : St → Option α) : P38 1 (bodyOf (bodyOf (bodyOf C38.r.l.r)).r.r.l).r.r.t ⟨[(0, rl (.one (.int .i32)) s_), (1, .one (.fn 40 [])), (5, ri s283), (7, ri (s_.length : Int)), (8, ri s283)], [], [], 19⟩ k = k ⟨[(4, ri s283)], [], [], 19⟩ := by kernel_rfl
theorem slices_IndexFuncint32_int32_r6 {α : Type} (s_ : (List Int)) (s283 : Int) (k : Kont α) : R38 (bodyOf (bodyOf C38.r.l.r)).r.r.r ⟨[(0, rl (.one (.int .i32)) s_), (1, .one (.fn 40 [])), (7, ri (s_.length : Int)), (8, ri s283)], [], [], 19⟩ k = k .normal ⟨[(0, rl (.one (.int .i32)) s_), (1, .one (.fn 40 [])), (7, ri (s_.length : Int)), (8, ri (IntKind.wrap .i64 (s283 + (1 : Int))))], [], [], 19⟩ := by kernel_rfl
def slices_IndexFuncint32_int32_l2_q {β : Type} (s_ : (List Int)) (s283 : Int) (K0 : Int → Option β) (K1 : Int → Option β) (K2 : Int → Option β) : Option β := (bif (decide (s283 < (s_.length : Int))) then (Option.bind (slices_IndexFuncint32_int32_r4_p s_ s283) (fun y285 : Unit => (bif (graph_Value_3 (gt s_ s283 (0 : Int))) then (K2 s283) else (K0 (IntKind.wrap .i64 (s283 + (1 : Int))))))) else (K1 s283))
def slices_IndexFuncint32_int32_l2_p (s_ : (List Int)) (s283 : Int) : Option (Int ⊕ (Int ⊕ Int)) := slices_IndexFuncint32_int32_l2_q s_ s283 (fun y => some (Sum.inl y)) (fun y => some (Sum.inr (Sum.inl y))) (fun y => some (Sum.inr (Sum.inr y)))
theorem slices_IndexFuncint32_int32_l2_n {β : Type} (s_ : (List Int)) (s283 : Int) (K0 : Int → Option β) (K1 : Int → Option β) (K2 : Int → Option β) : slices_IndexFuncint32_int32_l2_q s_ s283 K0 K1 K2 = (slices_IndexFuncint32_int32_l2_p s_ s283).bind (either K0 (either K1 K2)) := (bif_b (bind_b fun y285 => (bif_b e3_2 e3_0)) e3_1)
theorem slices_IndexFuncint32_int32_l2_b {α : Type} (s_ : (List Int)) (s283 : Int) (k : Kont α) : R38 (bodyOf (bodyOf C38.r.l.r)) ⟨[(0, rl (.one (.int .i32)) s_), (1, .one (.fn 40 [])), (7, ri (s_.length : Int)), (8, ri s283)], [], [], 19⟩ (loopKont 0 k) = Option.bind (slices_IndexFuncint32_int32_l2_p s_ s283) (either (fun y : Int => k .normal ⟨[(0, rl (.one (.int .i32)) s_), (1, .one (.fn 40 [])), (7, ri (s_.length : Int)), (8, ri y)], [], [], 19⟩) (either (fun y286 : Int => k (.exit 0) ⟨[(0, rl (.one (.int .i32)) s_), (1, .one (.fn 40 [])), (7, ri (s_.length : Int)), (8, ri y286)], [], [], 19⟩) (fun y287 : Int => k .ret ⟨[(4, ri y287)], [], [], 19⟩))) := by
  refine Eq.trans ?_ (slices_IndexFuncint32_int32_l2_n s_ s283 _ _ _)
  unfold slices_IndexFuncint32_int32_l2_q
  refine (pre (n := 1) (c' := (bodyOf (bodyOf C38.r.l.r)).r) (by kernel_rfl) (by kernel_rfl) (slices_IndexFuncint32_int32_fz s_ s283 _)).trans ?_
  refine (seq_push (by kernel_rfl)).trans ?_
  refine (cond_eq (b := (decide (s283 < (s_.length : Int)))) (st' := ⟨[(0, rl (.one (.int .i32)) s_), (1, .one (.fn 40 [])), (7, ri (s_.length : Int)), (8, ri s283)], [], [], 19⟩) (by kernel_rfl) (by kernel_rfl) (by kernel_rfl)).trans (bif_g ?_ ?_)
  · refine (skip_eq (by kernel_rfl)).trans ?_
    refine (seqC_normal (st' := ⟨[(0, rl (.one (.int .i32)) s_), (1, .one (.fn 40 [])), (7, ri (s_.length : Int)), (8, ri s283)], [], [], 19⟩) (by kernel_rfl)).trans ?_
    refine (seq_push (by kernel_rfl)).trans ?_
    refine (block_push (id := 1) (by kernel_rfl)).trans ?_
    refine (pre (n := 2) (c' := (bodyOf (bodyOf (bodyOf C38.r.l.r)).r.r.l).r.r) (by kernel_rfl) (by kernel_rfl) (slices_IndexFuncint32_int32_r4 s_ s283 _)).trans (bind_g fun y285 => ?_)
    refine (cond_eq (b := (graph_Value_3 (gt s_ s283 (0 : Int)))) (st' := ⟨[(0, rl (.one (.int .i32)) s_), (1, .one (.fn 40 [])), (5, ri s283), (7, ri (s_.length : Int)), (8, ri s283)], [], [], 19⟩) (by kernel_rfl) (by kernel_rfl) (by kernel_rfl)).trans (bif_g ?_ ?_)
    · refine (pre (n := 1) (c' := (bodyOf (bodyOf (bodyOf C38.r.l.r)).r.r.l).r.r.t.r) (by kernel_rfl) (by kernel_rfl) (slices_IndexFuncint32_int32_fzx1 s_ s283 _)).trans ?_
      refine (ret_eq (by kernel_rfl)).trans ?_
      refine block_ret.trans ?_
      refine seqC_ret.trans ?_
      kernel_rfl
    · refine (skip_eq (by kernel_rfl)).trans ?_
      refine block_normal.trans ?_
      refine (seqC_normal (st' := ⟨[(0, rl (.one (.int .i32)) s_), (1, .one (.fn 40 [])), (7, ri (s_.length : Int)), (8, ri s283)], [], [], 19⟩) (by kernel_rfl)).trans ?_
      refine (slices_IndexFuncint32_int32_r6 s_ s283 _).trans ?_
      kernel_rfl
  · refine (exit_eq (j := 0) (by kernel_rfl)).trans ?_
    refine seqC_exit.trans ?_
    kernel_rfl
theorem slices_IndexFuncint32_int32_l2 {α : Type} (s_ : (List Int)) (k : Kont α) : R38 (bodyOf C38.r.l.r) ⟨[(0, rl (.one (.int .i32)) s_), (1, .one (.fn 40 [])), (7, ri (s_.length : Int)), (8, ri (0 : Int))], [], [], 19⟩ k = Option.bind (iterN (slices_IndexFuncint32_int32_l2_p s_) LL (0 : Int)) (either (fun y286 : Int => k (.exit 0) ⟨[(0, rl (.one (.int .i32)) s_), (1, .one (.fn 40 [])), (7, ri (s_.length : Int)), (8, ri y286)], [], [], 19⟩) (fun y287 : Int => k .ret ⟨[(4, ri y287)], [], [], 19⟩)) :=
  Eq.trans (by kernel_rfl) (loop_iter2 (S := fun s283 : Int => ⟨[(0, rl (.one (.int .i32)) s_), (1, .one (.fn 40 [])), (7, ri (s_.length : Int)), (8, ri s283)], [], [], 19⟩) (Y1 := fun y286 : Int => ((.exit 0), ⟨[(0, rl (.one (.int .i32)) s_), (1, .one (.fn 40 [])), (7, ri (s_.length : Int)), (8, ri y286)], [], [], 19⟩)) (Y2 := fun y287 : Int => (.ret, ⟨[(4, ri y287)], [], [], 19⟩)) (fun s k => slices_IndexFuncint32_int32_l2_b s_ s k) (fun z => rfl) (fun z => rfl) LL (0 : Int))
theorem slices_IndexFuncint32_int32_fzx2 {α : Type} (k : St → Option α) : P38 1 C38.r.r ⟨[], [], [], 19⟩ k = k ⟨[(4, ri (-1 : Int))], [], [], 19⟩ := by kernel_rfl
/-- slices.IndexFunc[[]int32,int32] -/
def slices_IndexFuncint32_int32_q {β : Type} (s_ : (List Int)) (K : Int → Option β) : Option β := (Option.bind (iterN (slices_IndexFuncint32_int32_l2_p s_) LL (0 : Int)) (either (fun y286 : Int => (K (-1 : Int))) (fun y287 : Int => (K y287))))
def slices_IndexFuncint32_int32 (s_ : (List Int)) : Option Int := slices_IndexFuncint32_int32_q s_ some
theorem slices_IndexFuncint32_int32_n {β : Type} (s_ : (List Int)) (K : Int → Option β) : slices_IndexFuncint32_int32_q s_ K = (slices_IndexFuncint32_int32 s_).bind K := (bind_b (either_b (fun y286 => some_b) (fun y287 => some_b)))
theorem slices_IndexFuncint32_int32_is (s_ : (List Int)) : stepS E cp38 noE 65 [rl (.one (.int .i32)) s_, .one (.fn 40 [])] = Option.bind (slices_IndexFuncint32_int32 s_) (fun y : Int => some (ri y : R)) := by
  refine Eq.trans ?_ (slices_IndexFuncint32_int32_n s_ (fun y : Int => some (ri y : R)))
  refine (stepG_is (nt := 19) (regs := [(0, rl (.one (.int .i32)) s_), (1, .one (.fn 40 []))]) (by kernel_rfl) (by kernel_rfl)).trans ?_
  unfold slices_IndexFuncint32_int32_q
  refine (pre (n := 1) (c' := C38.r) (by kernel_rfl) (by kernel_rfl) (slices_IndexFuncint32_int32_f1 s_ _)).trans ?_
  refine (seq_push (by kernel_rfl)).trans ?_
  refine (pre (n := 1) (c' := C38.r.l.r) (by kernel_rfl) (by kernel_rfl) (slices_IndexFuncint32_int32_f2 s_ _)).trans ?_
  refine (block_push (id := 0) (by kernel_rfl)).trans ?_
  refine (slices_IndexFuncint32_int32_l2 s_ _).trans (bind_g (either_g (fun y286 => ?_) (fun y287 => ?_)))
  · refine block_same.trans ?_
    refine (seqC_normal (st' := ⟨[], [], [], 19⟩) (by kernel_rfl)).trans ?_
    refine (pre (n := 1) (c' := C38.r.r.r) (by kernel_rfl) (by kernel_rfl) (slices_IndexFuncint32_int32_fzx2 _)).trans ?_
    refine (ret_eq (by kernel_rfl)).trans ?_
    kernel_rfl
  · refine block_ret.trans ?_
    refine seqC_ret.trans ?_
    kernel_rfl
theorem slices_IndexFuncint32_int32_c (x : denL [(.one (.g (.sl (.one (.int .i32))))), (.one (.fn 40 .nil))]) : stepS E cp38 noE 65 (encL [(.one (.g (.sl (.one (.int .i32))))), (.one (.fn 40 .nil))] x) = ((fun x => slices_IndexFuncint32_int32 x.1) x).bind fun y => some (Po.enc (.one (.one (.g (.int .i64)))) ((fun y : Int => y) y)) := Eq.mp (by kernel_rfl) (slices_IndexFuncint32_int32_is x.1)
noncomputable def cp39 : CallP := withC cp38 65 [(.one (.g (.sl (.one (.int .i32))))), (.one (.fn 40 .nil))] (.one (.one (.g (.int .i64)))) (fun y : Int => y) (fun x => slices_IndexFuncint32_int32 x.1)
theorem cp39_ok : PureOK E cp39 := withC_ok cp38_ok (stepS_ok eok cp38_ok noE_ok) fun x => con_of (enc := fun y => Po.enc (.one (.one (.g (.int .i64)))) ((fun y : Int => y) y)) (slices_IndexFuncint32_int32_c x)
end Go.V.P
