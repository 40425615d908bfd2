/- Walks by hand: the semaphores of layer 10 (channels of tokens). -/
import Derived.Test.YtaehdmelnmajnaaV5
import Derived.Test.YtaehdmelnmajnaaProg
import Derived.WalkKit
import Derived.Conc.LoneSelectN
import Derived.Conc.LoneSelect
namespace Go.V.P
open Go Go.RowKit Go.V Go.Proofs
set_option linter.unusedVariables false
set_option linter.unusedSimpArgs false
theorem bytes45 : ∃ i, Try.prog.info? 45 = some i ∧ i.bytes = 0 := by
  have h : (Try.prog.info? 45).map (·.bytes) = some 0 := by kernel_rfl
  obtain ⟨i, hi, hb⟩ := Option.map_eq_some_iff.1 h
  exact ⟨i, hi, hb⟩
theorem mk15 (w : World) : (Instr.makeChan 39 (.int .i64 15)).run Try.prog w = .ok (.chan (some w.heap.size)) (w.alloc (.chan 15 #[] false 0 0 false)) := by
  obtain ⟨i, hi, hb⟩ := bytes45
  simpa using Go.Conc.run_makeChan (P := Try.prog) (w := w) Try.underlying39 hi .i64 15 (by omega) (by rw [hb]; omega)
def chs (b n : Nat) : Array Value := #[if 0 < n then .chan (some (b + 1)) else .chan none, if 1 < n then .chan (some (b + 2)) else .chan none, if 2 < n then .chan (some (b + 3)) else .chan none, if 3 < n then .chan (some (b + 4)) else .chan none, if 4 < n then .chan (some (b + 5)) else .chan none, if 5 < n then .chan (some (b + 6)) else .chan none, if 6 < n then .chan (some (b + 7)) else .chan none, if 7 < n then .chan (some (b + 8)) else .chan none]
theorem chs_set (b : Nat) {i : Nat} (h : i < 8) : (chs b i).setIfInBounds i (.chan (some (b + 1 + i))) = chs b (i + 1) := by
  rcases (by omega : i = 0 ∨ i = 1 ∨ i = 2 ∨ i = 3 ∨ i = 4 ∨ i = 5 ∨ i = 6 ∨ i = 7) with rfl | rfl | rfl | rfl | rfl | rfl | rfl | rfl <;> rfl
theorem chs_get (b : Nat) {i : Nat} (h : i < 8) : (chs b i)[i]? = some (.chan none) := by
  rcases (by omega : i = 0 ∨ i = 1 ∨ i = 2 ∨ i = 3 ∨ i = 4 ∨ i = 5 ∨ i = 6 ∨ i = 7) with rfl | rfl | rfl | rfl | rfl | rfl | rfl | rfl <;> rfl
theorem chs_all (b : Nat) : chs b 8 = semCells b := rfl
theorem chs_none (b : Nat) : chs b 0 = #[.chan none, .chan none, .chan none, .chan none, .chan none, .chan none, .chan none, .chan none] := rfl
theorem heap_setCell_same (w : World) {b i : Nat} {arr : Array Value} {ty : TypeId} {k : Nat × Nat} (v : Value) (h : w.heap[b]? = some (.cells arr ty k)) : (w.setCell ⟨b, i, none⟩ v).heap[b]? = some (.cells (arr.setIfInBounds i v) ty k) := by
  simp only [World.setCell, Array.getElem?_modify, if_true, h]
  rfl
set_option maxRecDepth 1000000 in
set_option maxHeartbeats 2000000 in
theorem new_walk (w : World) : Calls Try.prog 9 #[] w fun e w' => e = .returned (.pointer (some ⟨w.heap.size, 0, none⟩)) ∧ Below w.heap.size w w' ∧ w'.heap.size = w.heap.size + 9 ∧ SemAt w' w.heap.size [0, 0, 0, 0, 0, 0, 0, 0] := by
  have hmc := mk15
  go_enter Try.func9, Try.ntmps9
  go_wp2
  go_loopw [5] (fun v wr => ∃ i : Nat, v = .int .i64 (i : Int) ∧ i ≤ 8 ∧ wr.heap.size = w.heap.size + 1 + i ∧ wr.heap[w.heap.size]? = some (.cells (chs w.heap.size i) 42 (0, 0)) ∧ (∀ j : Nat, j < i → wr.heap[w.heap.size + 1 + j]? = some (.chan 15 #[] false 0 0 false)) ∧ Below w.heap.size w wr) (fun v _ => match v with | .int _ x => (8 - x).toNat | _ => 0)
  case atStart =>
    refine ⟨0, rfl, by omega, by simp, ?_, fun j hj => absurd hj (Nat.not_lt_zero _), (Below.refl _ _).alloc (Nat.le_refl _) _⟩
    rw [chs_none]
    exact heap_alloc_new w _
  case round =>
    obtain ⟨i, rfl, hi, hsz, hcell, hch, hbw⟩ := hrel
    by_cases h8 : (i : Int) < 8
    · have hc0 : wr.cell? ⟨w.heap.size, i, none⟩ = some (.chan none) := by
        simp only [World.cell?, hcell]
        exact chs_get _ (by omega)
      have hlt : w.heap.size < wr.heap.size := by omega
      have hc1 : (wr.alloc (.chan 15 #[] false 0 0 false)).cell? ⟨w.heap.size, i, none⟩ = some (.chan none) := by
        rw [World.cell?_alloc_lt _ _ _ hlt]; exact hc0
      have hf1 : (wr.alloc (.chan 15 #[] false 0 0 false)).frozen? ⟨w.heap.size, i, none⟩ = false := by
        simp only [World.frozen?, Below.heap_alloc _ _ _ hlt, hcell]
        simp
      go_wp2
      go_region
      go_wp2
      go_roundw
      case rel =>
        refine ⟨i + 1, ?_, by omega, ?_, ?_, ?_, ?_⟩
        · simp
        · simp [World.setCell, hsz]; omega
        · show ((wr.alloc (Obj.chan 15 #[] false 0 0 false)).setCell { block := w.heap.size, off := i } (Value.chan (some (w.heap.size + 1 + i)))).heap[w.heap.size]? = _
          rw [heap_setCell_same _ _ ((Below.heap_alloc _ _ _ hlt).trans hcell), chs_set _ (by omega)]
        · intro j hj
          show ((wr.alloc (Obj.chan 15 #[] false 0 0 false)).setCell { block := w.heap.size, off := i } (Value.chan (some (w.heap.size + 1 + i)))).heap[w.heap.size + 1 + j]? = _
          rw [Below.heap_setCell _ _ _ _ (by simp only; omega)]
          by_cases hji : j < i
          · rw [Below.heap_alloc _ _ _ (by omega)]; exact hch j hji
          · have : w.heap.size + 1 + j = wr.heap.size := by omega
            rw [this]
            exact heap_alloc_new wr _
        · exact ((hbw.alloc (by omega) _).setCell (Nat.le_refl _) _).drew
      case measure => simp only; omega
    · have : i = 8 := by omega
      subst this
      go_wp2
      go_ret
      refine ⟨rfl, hbw, by omega, rfl, ⟨42, by rw [hcell, chs_all]⟩, fun j hj => ⟨#[], 0, 0, ?_, by simp, hch j hj⟩⟩
      rcases (by omega : j = 0 ∨ j = 1 ∨ j = 2 ∨ j = 3 ∨ j = 4 ∨ j = 5 ∨ j = 6 ∨ j = 7) with rfl | rfl | rfl | rfl | rfl | rfl | rfl | rfl <;> rfl

theorem there_walk (i : Int) (w : World) : Calls Try.prog 20 #[.int .i64 i] w fun e w' => e = .returned (.bool (decide (0 ≤ i ∧ i < 8))) ∧ w' = w := by
  go_enter Try.func20, Try.ntmps20
  by_cases h0 : i ≥ 0
  · by_cases h8 : i < 8
    · go_wp2
      go_ret
      exact ⟨by simp; omega, rfl⟩
    · go_wp2
      go_ret
      exact ⟨by simp; omega, rfl⟩
  · go_wp2
    go_ret
    exact ⟨by simp; omega, rfl⟩
theorem sem_get (b : Nat) {j : Nat} (h : j < 8) : (semCells b)[j]? = some (.chan (some (b + 1 + j))) := by
  rcases (by omega : j = 0 ∨ j = 1 ∨ j = 2 ∨ j = 3 ∨ j = 4 ∨ j = 5 ∨ j = 6 ∨ j = 7) with rfl | rfl | rfl | rfl | rfl | rfl | rfl | rfl <;> rfl
set_option maxRecDepth 1000000 in
set_option maxHeartbeats 2000000 in
theorem count_out (b : Nat) (i : Int) (w : World) (hi : ¬ (0 ≤ i ∧ i < 8)) : Calls Try.prog 12 #[.pointer (some ⟨b, 0, none⟩), .int .i64 i] w fun e w' => e = .returned (.int .i64 0) ∧ w' = w := by
  have hd : decide (0 ≤ i ∧ i < 8) = false := decide_eq_false hi
  go_enter Try.func12, Try.ntmps12
  go_wp2_with (go_at_call 20; refine (there_walk i _).mono ?_; rintro e w' ⟨rfl, rfl⟩; rw [hd])
  go_ret
  exact ⟨rfl, rfl⟩
set_option maxRecDepth 1000000 in
set_option maxHeartbeats 2000000 in
theorem count_in (b j : Nat) (cs : List Int) (w : World) (h : SemAt w b cs) (hj : j < 8) : Calls Try.prog 12 #[.pointer (some ⟨b, 0, none⟩), .int .i64 (j : Int)] w fun e w' => e = .returned (.int .i64 (cs.getD j 0)) ∧ w' = w := by
  have hd : decide ((0 : Int) ≤ (j : Int) ∧ (j : Int) < 8) = true := decide_eq_true (by omega)
  obtain ⟨h1, ⟨ty, h2⟩, h3⟩ := h
  obtain ⟨buf, s, r, e1, e2, e3⟩ := h3 j hj
  have hc : w.cell? ⟨b, j, none⟩ = some (.chan (some (b + 1 + j))) := by
    simp only [World.cell?, h2]
    exact sem_get b hj
  have hlen := Go.Conc.run_len_chan (P := Try.prog) (t := 39) (ty := 3) Try.underlying39 e3
  have hj8 : (j : Int) < 8 := by omega
  go_enter Try.func12, Try.ntmps12
  go_wp2_with (go_at_call 20; refine (there_walk j _).mono ?_; rintro e w' ⟨rfl, rfl⟩; rw [hd])
  go_ret
  refine ⟨?_, rfl⟩
  have e4 : (cs[j]'(by omega)) = cs.getD j 0 := by rw [List.getD_eq_getElem?_getD, List.getElem?_eq_getElem (by omega)]; rfl
  show Ending.returned (.int .i64 (cs[j]'(by omega))) = _
  rw [e4]
theorem count_all (w : World) (b : Nat) (cs : List Int) (x : Int) (hs : SemAt w b cs) : Calls Try.prog 12 #[.pointer (some ⟨b, 0, none⟩), .int .i64 x] w fun e w' => e = .returned (.int .i64 (countV cs x)) ∧ w' = w := by
  by_cases hin : 0 ≤ x ∧ x < 8
  · obtain ⟨j, rfl⟩ : ∃ j : Nat, x = (j : Int) := ⟨x.toNat, by omega⟩
    have e : countV cs (j : Int) = cs.getD j 0 := by
      unfold countV
      rw [show semIn (j : Int) = true from decide_eq_true hin, show ((j : Int).toNat) = j by omega]
      rfl
    rw [e]
    exact count_in b j cs w hs (by omega)
  · have e : countV cs x = 0 := by
      unfold countV
      rw [show semIn x = false from decide_eq_false hin]
      rfl
    rw [e]
    exact count_out b x w hin
/-! ### A communication in the midst -/
open Go.Conc
def Left (P : Program) (f : FuncId) (R : Ending → World → Prop) (cs : List Frame) (g' : Goroutine) (w' : World) : Prop := ∃ e fr, g' = G fr cs ∧ R e w' ∧ fr.fn = f ∧ fr.leaving P w' e
def Nxt (P : Program) (f : FuncId) (fn : Func) (R : Ending → World → Prop) (cs : List Frame) (k : List Item) : Exit → Act → World → Prop
  | .normal, a, w => LoneTo P (Left P f R cs) (G ((base f).at a k) cs) w
  | .ret, a, w => bodyPost P fn R .ret a w
  | _, _, _ => False
theorem Left.of_ret {P : Program} {f : FuncId} {fn : Func} {R : Ending → World → Prop} {cs : List Frame} {a : Act} {w : World} (hf : P.funcs[f]? = some fn) (h : bodyPost P fn R .ret a w) (todo : List Item) : Left P f R cs (G { (base f).at a todo with mode := .returning } cs) w := by
  obtain ⟨hd, v, hr, hR⟩ := h
  exact ⟨.returned v, _, rfl, hR, rfl, rfl, hd, rfl, fn, hf, hr⟩
theorem lone_wp {P : Program} {f : FuncId} {fn : Func} {R : Ending → World → Prop} {cs : List Frame} {k : List Item} {c : Code} {a : Act} {w : World} (hf : P.funcs[f]? = some fn) (h : c.wp P (Nxt P f fn R cs k) a w) : LoneTo P (Left P f R cs) (G ((base f).at a (.code c :: k)) cs) w := by
  obtain ⟨e, a', w', hq, harr⟩ := h (base f) k cs
  cases e with
  | normal =>
    obtain ⟨g2, w2, hs, hq2⟩ := hq
    exact ⟨g2, w2, Steps.trans harr hs, hq2⟩
  | ret =>
    obtain ⟨todo, hs⟩ := harr
    exact ⟨_, _, hs, Left.of_ret hf hq todo⟩
  | panic chain => exact hq.elim
  | exit id => exact hq.elim
  | goto l => exact hq.elim
  | outgrown => exact hq.elim
theorem lone_seq {P : Program} {f : FuncId} {fn : Func} {R : Ending → World → Prop} {cs : List Frame} {k : List Item} {c d : Code} {a : Act} {w : World} (hf : P.funcs[f]? = some fn) (h : c.wp P (Nxt P f fn R cs (.code d :: k)) a w) : LoneTo P (Left P f R cs) (G ((base f).at a (.code (.seq c d) :: k)) cs) w :=
  .step (Go.step_seq (P := P) (b := base f) (a := a) (k := k) (cs := cs) (w := w)) (lone_wp hf h)
theorem lone_ops {P : Program} {f : FuncId} {fn : Func} {R : Ending → World → Prop} {cs : List Frame} {k : List Item} {ops : Array Oper} {l : List Nat} {a : Act} {w : World} (hf : P.funcs[f]? = some fn) (h : wpOps P ops (Nxt P f fn R cs k) l a w) : LoneTo P (Left P f R cs) (G ((base f).at a (.inRegion ops l :: k)) cs) w := by
  obtain ⟨e, a', w', hq, harr⟩ := wp_ops l a w h (base f) k cs
  cases e with
  | normal =>
    obtain ⟨g2, w2, hs, hq2⟩ := hq
    exact ⟨g2, w2, Steps.trans harr hs, hq2⟩
  | ret =>
    obtain ⟨todo, hs⟩ := harr
    exact ⟨_, _, hs, Left.of_ret hf hq todo⟩
  | panic chain => exact hq.elim
  | exit id => exact hq.elim
  | goto l => exact hq.elim
  | outgrown => exact hq.elim
theorem calls_of_left {P : Program} {f : FuncId} {fn : Func} {c : Code} {args : Array Value} {w : World} {R : Ending → World → Prop} (hf : P.funcs[f]? = some fn) (hb : fn.body = some c)
    (h : ∀ cs, LoneTo P (Left P f R cs) (G ((base f).at { tmps := args ++ Array.replicate (fn.ntmps - args.size) undef, defers := [] } [.code c]) cs) w) (hno : ∀ w', ¬ R .outgrown w') : Calls P f args w R :=
  calls_of_loneTo (fun cs => by
    have henter : Frame.enter P f args .normal = (base f).at { tmps := args ++ Array.replicate (fn.ntmps - args.size) undef, defers := [] } [.code c] := by
      simp [Frame.enter, Frame.at, hf, hb, base]
    rw [henter]
    exact h cs) hno

set_option maxRecDepth 1000000 in
set_option maxHeartbeats 2000000 in
theorem wait_out (b : Nat) (i : Int) (w : World) (hi : ¬ (0 ≤ i ∧ i < 8)) : Calls Try.prog 11 #[.pointer (some ⟨b, 0, none⟩), .int .i64 i] w fun e w' => e = .returned (.int .i64 1) ∧ w' = w := by
  have hd : decide (0 ≤ i ∧ i < 8) = false := decide_eq_false hi
  refine calls_of_left Try.func11 rfl (fun cs => ?_) (by rintro _ ⟨h, _⟩; cases h)
  simp only [Try.ntmps11, List.size_toArray, List.length_cons, List.length_nil, Nat.reduceAdd, Nat.reduceSub, Array.replicate_succ, Array.replicate_zero, List.push_toArray, List.append_toArray, List.nil_append, List.cons_append]
  refine lone_seq Try.func11 ?_
  go_wp2
  refine lone_seq Try.func11 ?_
  go_wp2_with (go_at_call 20; refine (there_walk i _).mono ?_; rintro e w' ⟨rfl, rfl⟩; rw [hd])
  simp only [Nxt]
  go_ret
  exact ⟨rfl, rfl⟩
set_option maxRecDepth 1000000 in
set_option maxHeartbeats 2000000 in
theorem wait_in (b j : Nat) (cs : List Int) (w : World) (h : SemAt w b cs) (hj : j < 8) : Calls Try.prog 11 #[.pointer (some ⟨b, 0, none⟩), .int .i64 (j : Int)] w fun e w' => (e = .returned (.int .i64 20) ∧ cs.getD j 0 = 0 ∧ w' = w) ∨ (e = .returned (.int .i64 0) ∧ ∃ buf s r, (buf.size : Int) + 1 = cs.getD j 0 ∧ w' = w.setChan (b + 1 + j) 15 buf false s r false) := by
  have hd : decide ((0 : Int) ≤ (j : Int) ∧ (j : Int) < 8) = true := decide_eq_true (by omega)
  obtain ⟨h1, ⟨ty, h2⟩, h3⟩ := h
  obtain ⟨buf, s, r, e1, e2, e3⟩ := h3 j hj
  have hc : w.cell? ⟨b, j, none⟩ = some (.chan (some (b + 1 + j))) := by
    simp only [World.cell?, h2]
    exact sem_get b hj
  have hj8 : (j : Int) < 8 := by omega
  refine calls_of_left Try.func11 rfl (fun fs => ?_) (by rintro _ (⟨h, _⟩ | ⟨h, _⟩) <;> cases h)
  simp only [Try.ntmps11, List.size_toArray, List.length_cons, List.length_nil, Nat.reduceAdd, Nat.reduceSub, Array.replicate_succ, Array.replicate_zero, List.push_toArray, List.append_toArray, List.nil_append, List.cons_append]
  refine lone_seq Try.func11 ?_
  go_wp2
  refine lone_seq Try.func11 ?_
  go_wp2_with (go_at_call 20; refine (there_walk j _).mono ?_; rintro e w' ⟨rfl, rfl⟩; rw [hd])
  refine lone_seq Try.func11 ?_
  go_wp2
  refine LoneTo.step (Go.step_seq (b := base 11)) (LoneTo.step (Go.step_region (b := base 11)) ?_)
  simp only [List.size_toArray, List.length_cons, List.length_nil, Nat.reduceAdd, Nat.zero_add, List.range, List.range.loop]
  have hbd : (Instr.build 45 #[]).run Try.prog w' = .ok (.agg #[]) w' := run_build w' 45 #[] #[] (by kernel_rfl)
  by_cases h0 : buf.size = 0
  · have hb0 : buf = #[] := Array.size_eq_zero_iff.1 h0
    subst hb0
    refine LoneTo.step (step_lone_select_default (c := b + 1 + j) (cap := 15) (s := s) (r := r) (tm := false) (stepG_comm (cases := #[rcase (b + 1 + j) (.agg #[])]) (blocking := false) (shape := .select) (w' := w') rfl rfl (by decide) (by simp [go_sem, execOp, rcase, Act.eval])) e3) ?_
    rw [Frame.finish_at]
    walk_nrm
    refine LoneTo.goes (n := 20) ?_
    s_op
    s_op
    s_c stepG_region_end
    s_c stepG_block
    s_cond false
    s_c stepG_seq
    s_reg
    s_op
    s_c stepG_region_end
    s_c stepG_ret'
    s_stop
    exact LoneTo.done ⟨.returned (.int .i64 20), _, rfl, .inl ⟨rfl, by rw [← e1]; rfl, rfl⟩, rfl, rfl, rfl, rfl, _, Try.func11, by simp [results, Try.f11, Frame.at]⟩
  · refine LoneTo.step (step_lone_select_recv_buf (c := b + 1 + j) (cap := 15) (buf := buf) (s := s) (r := r) (tm := false) (stepG_comm (cases := #[rcase (b + 1 + j) (.agg #[])]) (blocking := false) (shape := .select) (w' := w') rfl rfl (by decide) (by simp [go_sem, execOp, rcase, Act.eval])) e3 (by omega)) ?_
    rw [Frame.finish_at]
    walk_nrm
    refine LoneTo.goes (n := 20) ?_
    s_op
    s_op
    s_c stepG_region_end
    s_c stepG_block
    s_cond true
    s_c stepG_seq
    s_reg
    s_op
    s_c stepG_region_end
    s_c stepG_ret'
    s_stop
    exact LoneTo.done ⟨.returned (.int .i64 0), _, rfl, .inr ⟨rfl, _, _, _, by rw [Array.size_extract]; omega, rfl⟩, rfl, rfl, rfl, rfl, _, Try.func11, by simp [results, Try.f11, Frame.at]⟩
set_option maxRecDepth 1000000 in
set_option maxHeartbeats 2000000 in
theorem signal_out (b : Nat) (i : Int) (w : World) (hi : ¬ (0 ≤ i ∧ i < 8)) : Calls Try.prog 10 #[.pointer (some ⟨b, 0, none⟩), .int .i64 i] w fun e w' => e = .returned (.int .i64 1) ∧ w' = w := by
  have hd : decide (0 ≤ i ∧ i < 8) = false := decide_eq_false hi
  refine calls_of_left Try.func10 rfl (fun cs => ?_) (by rintro _ ⟨h, _⟩; cases h)
  simp only [Try.ntmps10, List.size_toArray, List.length_cons, List.length_nil, Nat.reduceAdd, Nat.reduceSub, Array.replicate_succ, Array.replicate_zero, List.push_toArray, List.append_toArray, List.nil_append, List.cons_append]
  refine lone_seq Try.func10 ?_
  go_wp2
  refine lone_seq Try.func10 ?_
  go_wp2_with (go_at_call 20; refine (there_walk i _).mono ?_; rintro e w' ⟨rfl, rfl⟩; rw [hd])
  simp only [Nxt]
  go_ret
  exact ⟨rfl, rfl⟩
set_option maxRecDepth 1000000 in
set_option maxHeartbeats 2000000 in
theorem signal_in (b j : Nat) (cs : List Int) (w : World) (h : SemAt w b cs) (hj : j < 8) : Calls Try.prog 10 #[.pointer (some ⟨b, 0, none⟩), .int .i64 (j : Int)] w fun e w' => (e = .returned (.int .i64 22) ∧ cs.getD j 0 = 15 ∧ w' = w) ∨ (e = .returned (.int .i64 0) ∧ ∃ buf s r, ((buf.size : Int) = cs.getD j 0 + 1 ∧ buf.size ≤ 15) ∧ w' = w.setChan (b + 1 + j) 15 buf false s r false) := by
  have hd : decide ((0 : Int) ≤ (j : Int) ∧ (j : Int) < 8) = true := decide_eq_true (by omega)
  obtain ⟨h1, ⟨ty, h2⟩, h3⟩ := h
  obtain ⟨buf, s, r, e1, e2, e3⟩ := h3 j hj
  have hc : w.cell? ⟨b, j, none⟩ = some (.chan (some (b + 1 + j))) := by
    simp only [World.cell?, h2]
    exact sem_get b hj
  have hj8 : (j : Int) < 8 := by omega
  refine calls_of_left Try.func10 rfl (fun fs => ?_) (by rintro _ (⟨h, _⟩ | ⟨h, _⟩) <;> cases h)
  simp only [Try.ntmps10, List.size_toArray, List.length_cons, List.length_nil, Nat.reduceAdd, Nat.reduceSub, Array.replicate_succ, Array.replicate_zero, List.push_toArray, List.append_toArray, List.nil_append, List.cons_append]
  refine lone_seq Try.func10 ?_
  go_wp2
  refine lone_seq Try.func10 ?_
  go_wp2_with (go_at_call 20; refine (there_walk j _).mono ?_; rintro e w' ⟨rfl, rfl⟩; rw [hd])
  refine lone_seq Try.func10 ?_
  go_wp2
  have hbd : ∀ w : World, (Instr.build 45 #[]).run Try.prog w = .ok (.agg #[]) w := fun w => run_build w 45 #[] #[] (by kernel_rfl)
  refine LoneTo.step (Go.step_seq (b := base 10)) (LoneTo.step (Go.step_region (b := base 10)) ?_)
  simp only [List.size_toArray, List.length_cons, List.length_nil, Nat.reduceAdd, Nat.zero_add, List.range, List.range.loop]
  by_cases h0 : 15 ≤ buf.size
  · refine LoneTo.step (step_lone_select_send_full (c := b + 1 + j) (cap := 15) (buf := buf) (s := s) (r := r) (tm := false) (stepG_comm (cases := #[scase (b + 1 + j) (.agg #[]) (.agg #[])]) (blocking := false) (shape := .select) (w' := w') rfl rfl (by decide) (by simp [go_sem, execOp, scase, Act.eval])) e3 (by omega)) ?_
    rw [Frame.finish_at]
    walk_nrm
    refine LoneTo.goes (n := 20) ?_
    s_op
    s_op
    s_c stepG_region_end
    s_c stepG_block
    s_cond false
    s_c stepG_seq
    s_reg
    s_op
    s_c stepG_region_end
    s_c stepG_ret'
    s_stop
    exact LoneTo.done ⟨.returned (.int .i64 22), _, rfl, .inl ⟨rfl, by omega, rfl⟩, rfl, rfl, rfl, rfl, _, Try.func10, by simp [results, Try.f10, Frame.at]⟩
  · refine LoneTo.step (step_lone_select_send_room (c := b + 1 + j) (cap := 15) (buf := buf) (s := s) (r := r) (tm := false) (stepG_comm (cases := #[scase (b + 1 + j) (.agg #[]) (.agg #[])]) (blocking := false) (shape := .select) (w' := w') rfl rfl (by decide) (by simp [go_sem, execOp, scase, Act.eval])) e3 (by omega)) ?_
    rw [Frame.finish_at]
    walk_nrm
    refine LoneTo.goes (n := 20) ?_
    s_op
    s_op
    s_c stepG_region_end
    s_c stepG_block
    s_cond true
    s_c stepG_seq
    s_reg
    s_op
    s_c stepG_region_end
    s_c stepG_ret'
    s_stop
    exact LoneTo.done ⟨.returned (.int .i64 0), _, rfl, .inr ⟨rfl, _, _, _, ⟨by rw [Array.size_push]; omega, by rw [Array.size_push]; omega⟩, rfl⟩, rfl, rfl, rfl, rfl, _, Try.func10, by simp [results, Try.f10, Frame.at]⟩
theorem cell_one_new (w : World) (x : Value) (e : TypeId) : ∀ (j : Nat) (u : Value), [x][j]? = some u → (w.alloc (.cells #[x] e)).cell? ((⟨w.heap.size, 0, none⟩ : Addr).add j) = some u := fun j u h => by
  cases j with
  | zero =>
    simp at h
    subst h
    show (match (w.alloc (.cells #[x] e)).heap[w.heap.size]? with | some (.cells c _ _) => c[0 + 0]? | _ => none) = _
    rw [heap_alloc_new]
    rfl
  | succ j => simp at h
set_option maxRecDepth 1000000 in
set_option maxHeartbeats 2000000 in
theorem all_walk (b : Nat) (cs : List Int) (w : World) (h : SemAt w b cs) : Calls Try.prog 14 #[.pointer (some ⟨b, 0, none⟩)] w fun e w' => ∃ v, e = .returned v ∧ Below w.heap.size w w' ∧ w'.ownsRow w.heap.size 3 1 v 8 (cs.map (Value.int .i64)) := by
  obtain ⟨h1, ⟨ty, h2⟩, h3⟩ := h
  have hc : ∀ j, j < 8 → w.cell? ⟨b, j, none⟩ = some (.chan (some (b + 1 + j))) := fun j hj => by
    simp only [World.cell?, h2]
    exact sem_get b hj
  have c0 := hc 0 (by omega)
  have c1 := hc 1 (by omega)
  have c2 := hc 2 (by omega)
  have c3 := hc 3 (by omega)
  have c4 := hc 4 (by omega)
  have c5 := hc 5 (by omega)
  have c6 := hc 6 (by omega)
  have c7 := hc 7 (by omega)
  clear hc
  obtain ⟨i0, ii, hz0, hz1, hz2⟩ : ∃ i0, Try.prog.info? 3 = some i0 ∧ i0.zero = some (.int .i64 0) ∧ i0.size = 1 ∧ i0.bytes = 8 := by
    have h : (Try.prog.info? 3).map (fun i => (i.zero, i.size, i.bytes)) = some (some (.int .i64 0), 1, 8) := by kernel_rfl
    obtain ⟨i, hi, hb⟩ := Option.map_eq_some_iff.1 h
    simp only [Prod.mk.injEq] at hb
    exact ⟨i, hi, hb.1, hb.2.1, hb.2.2⟩
  go_enter Try.func14, Try.ntmps14
  go_wp2
  clear c0 c1 c2 c3 c4 c5 c6 c7
  go_loopw [3, 10] (fun v x wr => ∃ i : Nat, x = .int .i64 (i : Int) ∧ i ≤ 8 ∧ wr.ownsRow w.heap.size 3 1 v i ((cs.take i).map (Value.int .i64)) ∧ Below w.heap.size w wr) (fun _ x _ => match x with | .int _ x => (8 - x).toNat | _ => 0)
  case atStart => exact ⟨0, rfl, by omega, World.ownsRow_nil _ _ _ _, Below.refl _ _⟩
  case round =>
    obtain ⟨i, rfl, hi, hown, hbw⟩ := hrel
    by_cases h8 : (i : Int) < 8
    · obtain ⟨buf, s, r, e1, e2, e3⟩ := h3 i (by omega)
      have e3' : wr.heap[b + 1 + i]? = some (.chan 15 buf false s r false) := (hbw.block _ (heap_lt_of e3)).trans e3
      have hlen := Go.Conc.run_len_chan (P := Try.prog) (t := 39) (ty := 3) Try.underlying39 e3'
      have hidx : ∀ w : World, (Instr.index 40 (.agg (semCells b)) (.int .i64 (i : Int))).run Try.prog w = .ok (.chan (some (b + 1 + i))) w := fun w => by
        rcases (by omega : i = 0 ∨ i = 1 ∨ i = 2 ∨ i = 3 ∨ i = 4 ∨ i = 5 ∨ i = 6 ∨ i = 7) with rfl | rfl | rfl | rfl | rfl | rfl | rfl | rfl <;> simp [Instr.index, asIntOf, run_underlying Try.underlying40, semCells, go_sem]
      have hidx2 : ∀ w : World, (Instr.index 40 (.agg #[.chan (some (b + 1)), .chan (some (b + 1 + 1)), .chan (some (b + 1 + 2)), .chan (some (b + 1 + 3)), .chan (some (b + 1 + 4)), .chan (some (b + 1 + 5)), .chan (some (b + 1 + 6)), .chan (some (b + 1 + 7))]) (.int .i64 (i : Int))).run Try.prog w = .ok (.chan (some (b + 1 + i))) w := hidx
      have hbs : w.heap.size ≤ wr.heap.size := hbw.size
      go_wp2_with (at_builtin; refine wpList_append_own _ rfl _ _ 33 rfl w.heap.size 3 i0 (.int .i64 0) 1 8 Try.underlying33 ii hz0 hz1 hz2 rfl (by decide) _ _ _ rfl (hown.alloc _) ⟨wr.heap.size, 0, none⟩ 1 1 [.int .i64 (cs[i]?.getD 0)] rfl rfl (cell_one_new _ _ _) (fun x hx => by simp at hx; subst hx; rfl) (by unfold maxLen; omega) (by omega) (by simp; omega) ?_; intro v' w3 hown' hgrow3 hnil3)
      go_roundw
      case rel =>
        refine ⟨i + 1, by simp, by omega, ?_, ?_⟩
        · have e5 : (cs.take (i + 1)).map (Value.int .i64) = (cs.take i).map (Value.int .i64) ++ [.int .i64 (cs[i]?.getD 0)] := by
            rw [List.take_add_one, List.getElem?_eq_getElem (by omega), List.map_append]
            rfl
          rw [e5]
          exact hown'
        · exact (hbw.alloc (by omega) _).grown hgrow3 (by simp; omega) (fun k hk => by
            rcases hown.2 with ⟨rfl, _⟩ | ⟨g, cap, cur, rfl, hg, _⟩
            · have hk2 : (Value.slice none 0 0).ownBlock = some k := hk
              cases hk2
            · have hk2 : (Value.slice (some ⟨g, 0, none⟩) i cap).ownBlock = some k := hk
              cases hk2
              exact hg)
      case measure => simp only; omega
    · have : i = 8 := by omega
      subst this
      go_wp2
      go_ret
      exact ⟨_, rfl, hbw, by rw [List.take_of_length_le (by omega)] at hown; exact hown⟩
end Go.V.P
