/- Walks by hand: commands as bytes (layer 8's reference), as far as errors go. -/
import Derived.Test.YtaeckbkjlmnigaaHPut0
import Derived.Test.YtaeckbkjlmnigaaHBuild
import Derived.Deep.RegionHeld3
namespace Go.V.P
open Go Go.RowKit Go.V Go.Proofs
set_option linter.unusedVariables false
set_option linter.unusedSimpArgs false
theorem bytes_snoc {base : Nat} {B : Option Nat} {w : World} {v : Value} {n : Nat} (x : Value) (hx : x.oneCell' = true) (h : Mine base B w v n) (hb : base ≤ w.heap.size) (hB : ∀ b, B = some b → b < w.heap.size) (hn : n + 1 ≤ 2147483648) :
    ∃ v' w', (Builtin.append_ #[73, 73] 73 #[v, .slice (some ⟨w.heap.size, 0, none⟩) 1 1]).run Try.prog (w.alloc (.cells #[x] 5)) = .ok v' w' ∧ Mine base B w' v' (n + 1) ∧ Stays base B w w' := by
  have h0 : (Try.prog.info? 5).map (fun i => (i.size, i.bytes, i.zero)) = some (1, 1, some (.int .u8 0)) := by kernel_rfl
  obtain ⟨i, hi, hb0⟩ := Option.map_eq_some_iff.1 h0
  simp only [Prod.mk.injEq] at hb0
  obtain ⟨b1, b2, b3⟩ := hb0
  exact mine_snoc Try.underlying73 hi b1 (by omega) b3 rfl hx h hb hB hn
theorem wpList_bytes {ops : Array Oper} {rest : List Oper} {o : Oper} {a : Act} {Q : Exit → Act → World → Prop} {w : World} (hgd : o.guard = none) (s x : Operand)
    (ho : o.op = .call { callee := .builtin .append, args := #[s, x], argTypes := #[73, 73] }) (hty : o.type = 73) {base : Nat} {B : Option Nat} {v : Value} {n : Nat} (u : Value) (hu : u.oneCell' = true)
    (hs : a.eval s = v) {N : Nat} (hx : a.eval x = .slice (some ⟨N, 0, none⟩) 1 1) (hN : N = w.heap.size) (hM : Mine base B w v n) (hb : base ≤ w.heap.size) (hB : ∀ b, B = some b → b < w.heap.size) (hn : n + 1 ≤ 2147483648)
    (h : ∀ v' w', Mine base B w' v' (n + 1) → Stays base B w w' → wpList Try.prog ops Q rest (a.put o.dst v') w') : wpList Try.prog ops Q (o :: rest) a (w.alloc (.cells #[u] 5)) := by
  subst hN
  obtain ⟨v', w', hr, h2, h3⟩ := bytes_snoc u hu hM hb hB hn
  refine wpList_plain hgd fun K hK => ?_
  unfold Oper.wp execOp
  simp only [ho, hty, resolve, invoke, builtin, Sem.run_bind, Sem.run_pure, Result.andThen_ok, List.map_toArray, List.map_cons, List.map_nil, hs, hx, hr]
  exact hK _ _ (h v' w' h2 h3)
set_option maxRecDepth 1000000 in
set_option maxHeartbeats 2000000 in
theorem number_in (base : Nat) (B : Option Nat) (w : World) (v : Value) (n k : Nat) (x : Int) (hk : k ≤ 8) (h : Mine base B w v n) (hb : base ≤ w.heap.size) (hB : ∀ b, B = some b → b < w.heap.size) (hn : n + 8 ≤ 1000000) :
    Calls Try.prog 44 #[v, .int .i64 x, .int .i64 (k : Int)] w fun e w' => ∃ v', e = .returned v' ∧ Mine base B w' v' (n + k) ∧ Stays base B w w' := by
  go_enter Try.func44, Try.ntmps44
  go_wp2
  go_loopw [0, 7] (fun v0 i wr => ∃ j m : Nat, i = .int .i64 ((j : Int) - 1) ∧ j + m = k ∧ Mine base B wr v0 (n + m) ∧ Stays base B w wr) (fun _ i _ => match i with | .int _ y => (y + 1).toNat | _ => 0)
  case atStart => exact ⟨k, 0, rfl, by omega, h, Stays.refl _ _ _⟩
  case round =>
    obtain ⟨j, m, rfl, hjm, hM, hS⟩ := hrel
    have hbw : base ≤ wr.heap.size := Nat.le_trans hb hS.1.size
    have hBw : ∀ b, B = some b → b < wr.heap.size := fun b e => Nat.lt_of_lt_of_le (hB b e) hS.1.size
    by_cases h0 : j = 0
    · subst h0
      go_wp2
      go_ret
      refine ⟨_, rfl, ?_, hS⟩
      have e : m = k := by omega
      rw [← e]
      exact hM
    · have hge : (j : Int) - 1 ≥ 0 := by omega
      go_wp2_with (at_builtin; refine wpList_bytes rfl _ _ rfl rfl _ rfl rfl rfl rfl hM hbw hBw (by omega) ?_; intro v' w3 hM' hS')
      go_roundw
      case rel => exact ⟨j - 1, m + 1, by congr 1; omega, by omega, hM', hS.trans hS'⟩
      case measure => simp only; omega
theorem number_at (base : Nat) (B : Option Nat) (w : World) (v : Value) (n : Nat) (x y : Int) (hy : 0 ≤ y ∧ y ≤ 8) (h : Mine base B w v n) (hb : base ≤ w.heap.size) (hB : ∀ b, B = some b → b < w.heap.size) (hn : n + 8 ≤ 1000000) :
    Calls Try.prog 44 #[v, .int .i64 x, .int .i64 y] w fun e w' => ∃ v', e = .returned v' ∧ Mine base B w' v' (n + y.toNat) ∧ Stays base B w w' := by
  have := number_in base B w v n y.toNat x (by omega) h hb hB hn
  rwa [show ((y.toNat : Nat) : Int) = y by omega] at this
theorem Mine.toB {base : Nat} {w : World} {v : Value} {n b : Nat} (h : Mine base none w v n) (hb : w.heap.size ≤ b) : Mine base (some b) w v n := by
  obtain ⟨A, c, e, hn, hc⟩ := h
  refine ⟨A, c, e, hn, fun h0 => ?_⟩
  obtain ⟨g, arr, ty, e1, e2, e3, e4, e5⟩ := hc h0
  exact ⟨g, arr, ty, e1, e2, e3, e4, fun q => by cases q; exact absurd (heap_lt_of e2) (by omega)⟩
theorem Mine.unB {base : Nat} {B : Option Nat} {w : World} {v : Value} {n : Nat} (h : Mine base B w v n) : Mine base none w v n := by
  obtain ⟨A, c, e, hn, hc⟩ := h
  refine ⟨A, c, e, hn, fun h0 => ?_⟩
  obtain ⟨g, arr, ty, e1, e2, e3, e4, e5⟩ := hc h0
  exact ⟨g, arr, ty, e1, e2, e3, e4, by simp⟩
theorem Stays.box {base b : Nat} {w w' : World} {x : C14} (h : Stays base (some b) w w') (hx : BoxC w b x) : BoxC w' b x := (h.2 b rfl hx.lt).trans hx
theorem Mine.drew {base : Nat} {B : Option Nat} {w : World} {v : Value} {n : Nat} (h : Mine base B w v n) : Mine base B w.drew v n := h
theorem BoxC.drew {w : World} {b : Nat} {x : C14} (h : BoxC w b x) : BoxC w.drew b x := h
theorem Stays.drew {base : Nat} {B : Option Nat} (w : World) : Stays base B w w.drew := ⟨(Below.refl _ _).drew, fun _ _ _ => rfl⟩
theorem held_of {base b : Nat} {w1 w' : World} {x : C14} (h : Stays base (some b) w1 w') (hx : BoxC w' b x) (hl : b + 1 ≤ w'.heap.size) : w'.cell? ⟨b, 1, none⟩ = some (.int .i64 x.2.1) ∧ w'.cell? ⟨b, 2, none⟩ = some (.int .i64 x.2.2.1) ∧ w'.cell? ⟨b, 3, none⟩ = some (.int .i64 x.2.2.2.1) ∧ w'.cell? ⟨b, 4, none⟩ = some (.int .i64 x.2.2.2.2.1) ∧ w'.cell? ⟨b, 5, none⟩ = some (.int .i64 x.2.2.2.2.2.1) ∧ w'.cell? ⟨b, 6, none⟩ = some (.int .i64 x.2.2.2.2.2.2.1) ∧ w'.cell? ⟨b, 7, none⟩ = some (.int .i64 x.2.2.2.2.2.2.2.1) ∧ w'.cell? ⟨b, 8, none⟩ = some (.int .i64 x.2.2.2.2.2.2.2.2.1) ∧ w'.cell? ⟨b, 9, none⟩ = some (.int .i64 x.2.2.2.2.2.2.2.2.2.1) ∧ w'.cell? ⟨b, 10, none⟩ = some (.int .i64 x.2.2.2.2.2.2.2.2.2.2.1) ∧ w'.cell? ⟨b, 11, none⟩ = some (.int .i64 x.2.2.2.2.2.2.2.2.2.2.2.1) ∧ w'.cell? ⟨b, 12, none⟩ = some (.int .i64 x.2.2.2.2.2.2.2.2.2.2.2.2.1) ∧ w'.cell? ⟨b, 13, none⟩ = some (.int .i64 x.2.2.2.2.2.2.2.2.2.2.2.2.2) ∧ Stays base (some b) w1 w' ∧ BoxC w' b x ∧ b + 1 ≤ w'.heap.size :=
  ⟨hx.cell 1 rfl, hx.cell 2 rfl, hx.cell 3 rfl, hx.cell 4 rfl, hx.cell 5 rfl, hx.cell 6 rfl, hx.cell 7 rfl, hx.cell 8 rfl, hx.cell 9 rfl, hx.cell 10 rfl, hx.cell 11 rfl, hx.cell 12 rfl, hx.cell 13 rfl, h, hx, hl⟩
theorem held_next {base b : Nat} {w1 w2 w' : World} {x : C14} (h : w2.cell? ⟨b, 1, none⟩ = some (.int .i64 x.2.1) ∧ w2.cell? ⟨b, 2, none⟩ = some (.int .i64 x.2.2.1) ∧ w2.cell? ⟨b, 3, none⟩ = some (.int .i64 x.2.2.2.1) ∧ w2.cell? ⟨b, 4, none⟩ = some (.int .i64 x.2.2.2.2.1) ∧ w2.cell? ⟨b, 5, none⟩ = some (.int .i64 x.2.2.2.2.2.1) ∧ w2.cell? ⟨b, 6, none⟩ = some (.int .i64 x.2.2.2.2.2.2.1) ∧ w2.cell? ⟨b, 7, none⟩ = some (.int .i64 x.2.2.2.2.2.2.2.1) ∧ w2.cell? ⟨b, 8, none⟩ = some (.int .i64 x.2.2.2.2.2.2.2.2.1) ∧ w2.cell? ⟨b, 9, none⟩ = some (.int .i64 x.2.2.2.2.2.2.2.2.2.1) ∧ w2.cell? ⟨b, 10, none⟩ = some (.int .i64 x.2.2.2.2.2.2.2.2.2.2.1) ∧ w2.cell? ⟨b, 11, none⟩ = some (.int .i64 x.2.2.2.2.2.2.2.2.2.2.2.1) ∧ w2.cell? ⟨b, 12, none⟩ = some (.int .i64 x.2.2.2.2.2.2.2.2.2.2.2.2.1) ∧ w2.cell? ⟨b, 13, none⟩ = some (.int .i64 x.2.2.2.2.2.2.2.2.2.2.2.2.2) ∧ Stays base (some b) w1 w2 ∧ BoxC w2 b x ∧ b + 1 ≤ w2.heap.size) (k : Stays base (some b) w2 w') : w'.cell? ⟨b, 1, none⟩ = some (.int .i64 x.2.1) ∧ w'.cell? ⟨b, 2, none⟩ = some (.int .i64 x.2.2.1) ∧ w'.cell? ⟨b, 3, none⟩ = some (.int .i64 x.2.2.2.1) ∧ w'.cell? ⟨b, 4, none⟩ = some (.int .i64 x.2.2.2.2.1) ∧ w'.cell? ⟨b, 5, none⟩ = some (.int .i64 x.2.2.2.2.2.1) ∧ w'.cell? ⟨b, 6, none⟩ = some (.int .i64 x.2.2.2.2.2.2.1) ∧ w'.cell? ⟨b, 7, none⟩ = some (.int .i64 x.2.2.2.2.2.2.2.1) ∧ w'.cell? ⟨b, 8, none⟩ = some (.int .i64 x.2.2.2.2.2.2.2.2.1) ∧ w'.cell? ⟨b, 9, none⟩ = some (.int .i64 x.2.2.2.2.2.2.2.2.2.1) ∧ w'.cell? ⟨b, 10, none⟩ = some (.int .i64 x.2.2.2.2.2.2.2.2.2.2.1) ∧ w'.cell? ⟨b, 11, none⟩ = some (.int .i64 x.2.2.2.2.2.2.2.2.2.2.2.1) ∧ w'.cell? ⟨b, 12, none⟩ = some (.int .i64 x.2.2.2.2.2.2.2.2.2.2.2.2.1) ∧ w'.cell? ⟨b, 13, none⟩ = some (.int .i64 x.2.2.2.2.2.2.2.2.2.2.2.2.2) ∧ Stays base (some b) w1 w' ∧ BoxC w' b x ∧ b + 1 ≤ w'.heap.size := by
  obtain ⟨_, _, _, _, _, _, _, _, _, _, _, _, _, h1, h2, h3⟩ := h
  exact held_of (h1.trans k) (k.box h2) (Nat.le_trans h3 k.1.size)
theorem held_sz {base b : Nat} {w1 w2 : World} {x : C14} (h : w2.cell? ⟨b, 1, none⟩ = some (.int .i64 x.2.1) ∧ w2.cell? ⟨b, 2, none⟩ = some (.int .i64 x.2.2.1) ∧ w2.cell? ⟨b, 3, none⟩ = some (.int .i64 x.2.2.2.1) ∧ w2.cell? ⟨b, 4, none⟩ = some (.int .i64 x.2.2.2.2.1) ∧ w2.cell? ⟨b, 5, none⟩ = some (.int .i64 x.2.2.2.2.2.1) ∧ w2.cell? ⟨b, 6, none⟩ = some (.int .i64 x.2.2.2.2.2.2.1) ∧ w2.cell? ⟨b, 7, none⟩ = some (.int .i64 x.2.2.2.2.2.2.2.1) ∧ w2.cell? ⟨b, 8, none⟩ = some (.int .i64 x.2.2.2.2.2.2.2.2.1) ∧ w2.cell? ⟨b, 9, none⟩ = some (.int .i64 x.2.2.2.2.2.2.2.2.2.1) ∧ w2.cell? ⟨b, 10, none⟩ = some (.int .i64 x.2.2.2.2.2.2.2.2.2.2.1) ∧ w2.cell? ⟨b, 11, none⟩ = some (.int .i64 x.2.2.2.2.2.2.2.2.2.2.2.1) ∧ w2.cell? ⟨b, 12, none⟩ = some (.int .i64 x.2.2.2.2.2.2.2.2.2.2.2.2.1) ∧ w2.cell? ⟨b, 13, none⟩ = some (.int .i64 x.2.2.2.2.2.2.2.2.2.2.2.2.2) ∧ Stays base (some b) w1 w2 ∧ BoxC w2 b x ∧ b + 1 ≤ w2.heap.size) : b + 1 ≤ w2.heap.size := by
  obtain ⟨_, _, _, _, _, _, _, _, _, _, _, _, _, h1, h2, h3⟩ := h
  exact h3
theorem held_st {base b : Nat} {w1 w2 : World} {x : C14} (h : w2.cell? ⟨b, 1, none⟩ = some (.int .i64 x.2.1) ∧ w2.cell? ⟨b, 2, none⟩ = some (.int .i64 x.2.2.1) ∧ w2.cell? ⟨b, 3, none⟩ = some (.int .i64 x.2.2.2.1) ∧ w2.cell? ⟨b, 4, none⟩ = some (.int .i64 x.2.2.2.2.1) ∧ w2.cell? ⟨b, 5, none⟩ = some (.int .i64 x.2.2.2.2.2.1) ∧ w2.cell? ⟨b, 6, none⟩ = some (.int .i64 x.2.2.2.2.2.2.1) ∧ w2.cell? ⟨b, 7, none⟩ = some (.int .i64 x.2.2.2.2.2.2.2.1) ∧ w2.cell? ⟨b, 8, none⟩ = some (.int .i64 x.2.2.2.2.2.2.2.2.1) ∧ w2.cell? ⟨b, 9, none⟩ = some (.int .i64 x.2.2.2.2.2.2.2.2.2.1) ∧ w2.cell? ⟨b, 10, none⟩ = some (.int .i64 x.2.2.2.2.2.2.2.2.2.2.1) ∧ w2.cell? ⟨b, 11, none⟩ = some (.int .i64 x.2.2.2.2.2.2.2.2.2.2.2.1) ∧ w2.cell? ⟨b, 12, none⟩ = some (.int .i64 x.2.2.2.2.2.2.2.2.2.2.2.2.1) ∧ w2.cell? ⟨b, 13, none⟩ = some (.int .i64 x.2.2.2.2.2.2.2.2.2.2.2.2.2) ∧ Stays base (some b) w1 w2 ∧ BoxC w2 b x ∧ b + 1 ≤ w2.heap.size) : Stays base (some b) w1 w2 := by
  obtain ⟨_, _, _, _, _, _, _, _, _, _, _, _, _, h1, h2, h3⟩ := h
  exact h1
theorem held_bx {base b : Nat} {w1 w2 : World} {x : C14} (h : w2.cell? ⟨b, 1, none⟩ = some (.int .i64 x.2.1) ∧ w2.cell? ⟨b, 2, none⟩ = some (.int .i64 x.2.2.1) ∧ w2.cell? ⟨b, 3, none⟩ = some (.int .i64 x.2.2.2.1) ∧ w2.cell? ⟨b, 4, none⟩ = some (.int .i64 x.2.2.2.2.1) ∧ w2.cell? ⟨b, 5, none⟩ = some (.int .i64 x.2.2.2.2.2.1) ∧ w2.cell? ⟨b, 6, none⟩ = some (.int .i64 x.2.2.2.2.2.2.1) ∧ w2.cell? ⟨b, 7, none⟩ = some (.int .i64 x.2.2.2.2.2.2.2.1) ∧ w2.cell? ⟨b, 8, none⟩ = some (.int .i64 x.2.2.2.2.2.2.2.2.1) ∧ w2.cell? ⟨b, 9, none⟩ = some (.int .i64 x.2.2.2.2.2.2.2.2.2.1) ∧ w2.cell? ⟨b, 10, none⟩ = some (.int .i64 x.2.2.2.2.2.2.2.2.2.2.1) ∧ w2.cell? ⟨b, 11, none⟩ = some (.int .i64 x.2.2.2.2.2.2.2.2.2.2.2.1) ∧ w2.cell? ⟨b, 12, none⟩ = some (.int .i64 x.2.2.2.2.2.2.2.2.2.2.2.2.1) ∧ w2.cell? ⟨b, 13, none⟩ = some (.int .i64 x.2.2.2.2.2.2.2.2.2.2.2.2.2) ∧ Stays base (some b) w1 w2 ∧ BoxC w2 b x ∧ b + 1 ≤ w2.heap.size) : BoxC w2 b x := by
  obtain ⟨_, _, _, _, _, _, _, _, _, _, _, _, _, h1, h2, h3⟩ := h
  exact h2
theorem Mine.cast {base : Nat} {B : Option Nat} {w : World} {v : Value} {N N' : Nat} (h : Mine base B w v N) (e : N = N') : Mine base B w v N' := e ▸ h
theorem Mine.below {base n : Nat} {w w' : World} {v : Value} (h : Mine base none w v n) (hb : Below w.heap.size w w') : Mine base none w' v n := by
  obtain ⟨A, c, e, hn, hc⟩ := h
  refine ⟨A, c, e, hn, fun h0 => ?_⟩
  obtain ⟨g, arr, ty, e1, e2, e3⟩ := hc h0
  exact ⟨g, arr, ty, e1, (hb.block g (heap_lt_of e2)).trans e2, e3⟩
theorem put_fin {base b n N : Nat} {w w' : World} {v' : Value} (h : Mine base (some b) w' v' N) (h1 : n ≤ N) (h2 : N ≤ n + 14) (h3 : Below base w w') : ∃ v'' m, Ending.returned v' = .returned v'' ∧ Mine base none w' v'' (n + m) ∧ m ≤ 14 ∧ Below base w w' :=
  ⟨v', N - n, rfl, by rw [show n + (N - n) = N by omega]; exact h.unB, by omega, h3⟩
set_option maxRecDepth 1000000 in
set_option maxHeartbeats 4000000 in
theorem put_in (base : Nat) (w : World) (v : Value) (n : Nat) (x : C14) (h : Mine base none w v n) (hb : base ≤ w.heap.size) (hn : n + 100 ≤ 1000000) :
    Calls Try.prog 46 #[v, encC x] w fun e w' => ∃ v' m, e = .returned v' ∧ Mine base none w' v' (n + m) ∧ m ≤ 14 ∧ Below base w w' := by
  have hB := h.toB (Nat.le_refl _)
  have hS0 := Stays.alloc (base := base) (B := some w.heap.size) w (.cells (cellsC x) 42) hb
  have hX := BoxC.new w x
  have hM0 := hB.alloc (.cells (cellsC x) 42)
  have hsz : (w.alloc (.cells (cellsC x) 42)).heap.size = w.heap.size + 1 := by simp
  simp only [encC, cellsC]
  go_enter Try.func46, Try.ntmps46
  simp only [cellsC] at hS0 hX hM0 hsz
  go_wp2_with (at_builtin; refine wpList_bytes rfl _ _ rfl rfl _ rfl rfl rfl hsz.symm hM0 (by omega) (fun _ e => by cases e; omega) (by omega) ?_; intro v1 w1 hM1 hS1; have hX1 := hS1.box hX; have hS01 := hS0.trans hS1; have hsz1 : w.heap.size + 1 ≤ w1.heap.size := hsz ▸ hS1.1.size; clear hS0 hX hM0 hsz hS1 h hB; have g0 : w1.cell? ⟨w.heap.size, 0, none⟩ = some (.int .i64 x.1) := hX1.cell 0 rfl; have g1 : w1.cell? ⟨w.heap.size, 1, none⟩ = some (.int .i64 x.2.1) := hX1.cell 1 rfl; have g2 : w1.cell? ⟨w.heap.size, 2, none⟩ = some (.int .i64 x.2.2.1) := hX1.cell 2 rfl; have g3 : w1.cell? ⟨w.heap.size, 3, none⟩ = some (.int .i64 x.2.2.2.1) := hX1.cell 3 rfl; have g4 : w1.cell? ⟨w.heap.size, 4, none⟩ = some (.int .i64 x.2.2.2.2.1) := hX1.cell 4 rfl; have g5 : w1.cell? ⟨w.heap.size, 5, none⟩ = some (.int .i64 x.2.2.2.2.2.1) := hX1.cell 5 rfl; have g6 : w1.cell? ⟨w.heap.size, 6, none⟩ = some (.int .i64 x.2.2.2.2.2.2.1) := hX1.cell 6 rfl; have g7 : w1.cell? ⟨w.heap.size, 7, none⟩ = some (.int .i64 x.2.2.2.2.2.2.2.1) := hX1.cell 7 rfl; have g8 : w1.cell? ⟨w.heap.size, 8, none⟩ = some (.int .i64 x.2.2.2.2.2.2.2.2.1) := hX1.cell 8 rfl; have g9 : w1.cell? ⟨w.heap.size, 9, none⟩ = some (.int .i64 x.2.2.2.2.2.2.2.2.2.1) := hX1.cell 9 rfl; have g10 : w1.cell? ⟨w.heap.size, 10, none⟩ = some (.int .i64 x.2.2.2.2.2.2.2.2.2.2.1) := hX1.cell 10 rfl)
  · have hM2 := hM1.drew
    have hX2 := hX1.drew
    have hS2 := Stays.drew (base := base) (B := some w.heap.size) w1
    have hq0 : w.heap.size + 1 ≤ w1.drew.heap.size := hsz1
    clear g0 g1 g2 g3 g4 g5 g6 g7 g8 g9 g10
    go_region_held3 (fun w' => w'.cell? ⟨w.heap.size, 1, none⟩ = some (.int .i64 x.2.1) ∧ w'.cell? ⟨w.heap.size, 2, none⟩ = some (.int .i64 x.2.2.1) ∧ w'.cell? ⟨w.heap.size, 3, none⟩ = some (.int .i64 x.2.2.2.1) ∧ w'.cell? ⟨w.heap.size, 4, none⟩ = some (.int .i64 x.2.2.2.2.1) ∧ w'.cell? ⟨w.heap.size, 5, none⟩ = some (.int .i64 x.2.2.2.2.2.1) ∧ w'.cell? ⟨w.heap.size, 6, none⟩ = some (.int .i64 x.2.2.2.2.2.2.1) ∧ w'.cell? ⟨w.heap.size, 7, none⟩ = some (.int .i64 x.2.2.2.2.2.2.2.1) ∧ w'.cell? ⟨w.heap.size, 8, none⟩ = some (.int .i64 x.2.2.2.2.2.2.2.2.1) ∧ w'.cell? ⟨w.heap.size, 9, none⟩ = some (.int .i64 x.2.2.2.2.2.2.2.2.2.1) ∧ w'.cell? ⟨w.heap.size, 10, none⟩ = some (.int .i64 x.2.2.2.2.2.2.2.2.2.2.1) ∧ w'.cell? ⟨w.heap.size, 11, none⟩ = some (.int .i64 x.2.2.2.2.2.2.2.2.2.2.2.1) ∧ w'.cell? ⟨w.heap.size, 12, none⟩ = some (.int .i64 x.2.2.2.2.2.2.2.2.2.2.2.2.1) ∧ w'.cell? ⟨w.heap.size, 13, none⟩ = some (.int .i64 x.2.2.2.2.2.2.2.2.2.2.2.2.2) ∧ Stays base (some w.heap.size) w1 w' ∧ BoxC w' w.heap.size x ∧ w.heap.size + 1 ≤ w'.heap.size)
      (first | exact held_of hS2 hX2 hq0 | (refine held_next (by assumption) (by assumption)))
      ((go_at_call 44; refine (number_at base (some w.heap.size) _ _ _ _ _ (by decide) (by assumption) (Nat.le_trans hb (Nat.le_trans (Nat.le_succ _) (held_sz (base := base) (b := w.heap.size) (w1 := w1) (x := x) (by assumption)))) (fun _ e => by cases e; exact held_sz (base := base) (b := w.heap.size) (w1 := w1) (x := x) (by assumption)) (by omega)).mono ?_; rintro e w' ⟨v', rfl, hM', hS'⟩))
    go_wp2
    go_ret
    refine put_fin (by assumption) ?_ ?_ ?_
    · omega
    · omega
    · exact (hS01.trans (held_st (base := base) (b := w.heap.size) (w1 := w1) (x := x) (by assumption))).1
  · have hM2 := hM1.drew
    have hX2 := hX1.drew
    have hS2 := Stays.drew (base := base) (B := some w.heap.size) w1
    have hq0 : w.heap.size + 1 ≤ w1.drew.heap.size := hsz1
    clear g0 g1 g2 g3 g4 g5 g6 g7 g8 g9 g10
    go_region_held3 (fun w' => w'.cell? ⟨w.heap.size, 1, none⟩ = some (.int .i64 x.2.1) ∧ w'.cell? ⟨w.heap.size, 2, none⟩ = some (.int .i64 x.2.2.1) ∧ w'.cell? ⟨w.heap.size, 3, none⟩ = some (.int .i64 x.2.2.2.1) ∧ w'.cell? ⟨w.heap.size, 4, none⟩ = some (.int .i64 x.2.2.2.2.1) ∧ w'.cell? ⟨w.heap.size, 5, none⟩ = some (.int .i64 x.2.2.2.2.2.1) ∧ w'.cell? ⟨w.heap.size, 6, none⟩ = some (.int .i64 x.2.2.2.2.2.2.1) ∧ w'.cell? ⟨w.heap.size, 7, none⟩ = some (.int .i64 x.2.2.2.2.2.2.2.1) ∧ w'.cell? ⟨w.heap.size, 8, none⟩ = some (.int .i64 x.2.2.2.2.2.2.2.2.1) ∧ w'.cell? ⟨w.heap.size, 9, none⟩ = some (.int .i64 x.2.2.2.2.2.2.2.2.2.1) ∧ w'.cell? ⟨w.heap.size, 10, none⟩ = some (.int .i64 x.2.2.2.2.2.2.2.2.2.2.1) ∧ w'.cell? ⟨w.heap.size, 11, none⟩ = some (.int .i64 x.2.2.2.2.2.2.2.2.2.2.2.1) ∧ w'.cell? ⟨w.heap.size, 12, none⟩ = some (.int .i64 x.2.2.2.2.2.2.2.2.2.2.2.2.1) ∧ w'.cell? ⟨w.heap.size, 13, none⟩ = some (.int .i64 x.2.2.2.2.2.2.2.2.2.2.2.2.2) ∧ Stays base (some w.heap.size) w1 w' ∧ BoxC w' w.heap.size x ∧ w.heap.size + 1 ≤ w'.heap.size)
      (first | exact held_of hS2 hX2 hq0 | (refine held_next (by assumption) (by assumption)))
      ((go_at_call 44; refine (number_at base (some w.heap.size) _ _ _ _ _ (by decide) (by assumption) (Nat.le_trans hb (Nat.le_trans (Nat.le_succ _) (held_sz (base := base) (b := w.heap.size) (w1 := w1) (x := x) (by assumption)))) (fun _ e => by cases e; exact held_sz (base := base) (b := w.heap.size) (w1 := w1) (x := x) (by assumption)) (by omega)).mono ?_; rintro e w' ⟨v', rfl, hM', hS'⟩))
    go_wp2
    go_ret
    refine put_fin (by assumption) ?_ ?_ ?_
    · omega
    · omega
    · exact (hS01.trans (held_st (base := base) (b := w.heap.size) (w1 := w1) (x := x) (by assumption))).1
  · have hM2 := hM1.drew
    have hX2 := hX1.drew
    have hS2 := Stays.drew (base := base) (B := some w.heap.size) w1
    have hq0 : w.heap.size + 1 ≤ w1.drew.heap.size := hsz1
    clear g0 g1 g2 g3 g4 g5 g6 g7 g8 g9 g10
    go_region_held3 (fun w' => w'.cell? ⟨w.heap.size, 1, none⟩ = some (.int .i64 x.2.1) ∧ w'.cell? ⟨w.heap.size, 2, none⟩ = some (.int .i64 x.2.2.1) ∧ w'.cell? ⟨w.heap.size, 3, none⟩ = some (.int .i64 x.2.2.2.1) ∧ w'.cell? ⟨w.heap.size, 4, none⟩ = some (.int .i64 x.2.2.2.2.1) ∧ w'.cell? ⟨w.heap.size, 5, none⟩ = some (.int .i64 x.2.2.2.2.2.1) ∧ w'.cell? ⟨w.heap.size, 6, none⟩ = some (.int .i64 x.2.2.2.2.2.2.1) ∧ w'.cell? ⟨w.heap.size, 7, none⟩ = some (.int .i64 x.2.2.2.2.2.2.2.1) ∧ w'.cell? ⟨w.heap.size, 8, none⟩ = some (.int .i64 x.2.2.2.2.2.2.2.2.1) ∧ w'.cell? ⟨w.heap.size, 9, none⟩ = some (.int .i64 x.2.2.2.2.2.2.2.2.2.1) ∧ w'.cell? ⟨w.heap.size, 10, none⟩ = some (.int .i64 x.2.2.2.2.2.2.2.2.2.2.1) ∧ w'.cell? ⟨w.heap.size, 11, none⟩ = some (.int .i64 x.2.2.2.2.2.2.2.2.2.2.2.1) ∧ w'.cell? ⟨w.heap.size, 12, none⟩ = some (.int .i64 x.2.2.2.2.2.2.2.2.2.2.2.2.1) ∧ w'.cell? ⟨w.heap.size, 13, none⟩ = some (.int .i64 x.2.2.2.2.2.2.2.2.2.2.2.2.2) ∧ Stays base (some w.heap.size) w1 w' ∧ BoxC w' w.heap.size x ∧ w.heap.size + 1 ≤ w'.heap.size)
      (first | exact held_of hS2 hX2 hq0 | (refine held_next (by assumption) (by assumption)))
      ((go_at_call 44; refine (number_at base (some w.heap.size) _ _ _ _ _ (by decide) (by assumption) (Nat.le_trans hb (Nat.le_trans (Nat.le_succ _) (held_sz (base := base) (b := w.heap.size) (w1 := w1) (x := x) (by assumption)))) (fun _ e => by cases e; exact held_sz (base := base) (b := w.heap.size) (w1 := w1) (x := x) (by assumption)) (by omega)).mono ?_; rintro e w' ⟨v', rfl, hM', hS'⟩))
    go_wp2
    go_loopw [0, 5] (fun v0 i wr => ∃ j : Nat, i = .int .i64 (j : Int) ∧ j ≤ 2 ∧ Mine base (some w.heap.size) wr v0 (n + 6 + 4 * j) ∧ Stays base (some w.heap.size) w1 wr ∧ BoxC wr w.heap.size x) (fun _ i _ => match i with | .int _ y => (2 - y).toNat | _ => 0)
    case atStart => exact ⟨0, rfl, by omega, Mine.cast (by assumption) (by omega), held_st (base := base) (b := w.heap.size) (w1 := w1) (x := x) (by assumption), held_bx (base := base) (b := w.heap.size) (w1 := w1) (x := x) (by assumption)⟩
    case round =>
      obtain ⟨j, rfl, hj, hMr, hSr, hXr⟩ := hrel
      have hszr : w.heap.size + 1 ≤ wr.heap.size := Nat.le_trans hsz1 hSr.1.size
      rcases (by omega : j = 0 ∨ j = 1 ∨ j = 2) with rfl | rfl | rfl
      · go_wp2
        have hM2 := hMr.drew
        have hX2 := hXr.drew
        have hS2 := Stays.drew (base := base) (B := some w.heap.size) wr
        have hq0 : w.heap.size + 1 ≤ wr.drew.heap.size := hszr
        go_region_held3 (fun w' => w'.cell? ⟨w.heap.size, 1, none⟩ = some (.int .i64 x.2.1) ∧ w'.cell? ⟨w.heap.size, 2, none⟩ = some (.int .i64 x.2.2.1) ∧ w'.cell? ⟨w.heap.size, 3, none⟩ = some (.int .i64 x.2.2.2.1) ∧ w'.cell? ⟨w.heap.size, 4, none⟩ = some (.int .i64 x.2.2.2.2.1) ∧ w'.cell? ⟨w.heap.size, 5, none⟩ = some (.int .i64 x.2.2.2.2.2.1) ∧ w'.cell? ⟨w.heap.size, 6, none⟩ = some (.int .i64 x.2.2.2.2.2.2.1) ∧ w'.cell? ⟨w.heap.size, 7, none⟩ = some (.int .i64 x.2.2.2.2.2.2.2.1) ∧ w'.cell? ⟨w.heap.size, 8, none⟩ = some (.int .i64 x.2.2.2.2.2.2.2.2.1) ∧ w'.cell? ⟨w.heap.size, 9, none⟩ = some (.int .i64 x.2.2.2.2.2.2.2.2.2.1) ∧ w'.cell? ⟨w.heap.size, 10, none⟩ = some (.int .i64 x.2.2.2.2.2.2.2.2.2.2.1) ∧ w'.cell? ⟨w.heap.size, 11, none⟩ = some (.int .i64 x.2.2.2.2.2.2.2.2.2.2.2.1) ∧ w'.cell? ⟨w.heap.size, 12, none⟩ = some (.int .i64 x.2.2.2.2.2.2.2.2.2.2.2.2.1) ∧ w'.cell? ⟨w.heap.size, 13, none⟩ = some (.int .i64 x.2.2.2.2.2.2.2.2.2.2.2.2.2) ∧ Stays base (some w.heap.size) wr w' ∧ BoxC w' w.heap.size x ∧ w.heap.size + 1 ≤ w'.heap.size)
          (first | exact held_of hS2 hX2 hq0 | (refine held_next (by assumption) (by assumption)))
          ((go_at_call 44; refine (number_at base (some w.heap.size) _ _ _ _ _ (by decide) (by assumption) (Nat.le_trans hb (Nat.le_trans (Nat.le_succ _) (held_sz (base := base) (b := w.heap.size) (w1 := wr) (x := x) (by assumption)))) (fun _ e => by cases e; exact held_sz (base := base) (b := w.heap.size) (w1 := wr) (x := x) (by assumption)) (by omega)).mono ?_; rintro e w' ⟨v', rfl, hM', hS'⟩))
        go_wp2
        go_roundw
        case rel => exact ⟨1, by simp, by omega, Mine.cast (by assumption) (by omega), hSr.trans (held_st (base := base) (b := w.heap.size) (w1 := wr) (x := x) (by assumption)), held_bx (base := base) (b := w.heap.size) (w1 := wr) (x := x) (by assumption)⟩
        case measure => simp only; omega
      · go_wp2
        have hM2 := hMr.drew
        have hX2 := hXr.drew
        have hS2 := Stays.drew (base := base) (B := some w.heap.size) wr
        have hq0 : w.heap.size + 1 ≤ wr.drew.heap.size := hszr
        go_region_held3 (fun w' => w'.cell? ⟨w.heap.size, 1, none⟩ = some (.int .i64 x.2.1) ∧ w'.cell? ⟨w.heap.size, 2, none⟩ = some (.int .i64 x.2.2.1) ∧ w'.cell? ⟨w.heap.size, 3, none⟩ = some (.int .i64 x.2.2.2.1) ∧ w'.cell? ⟨w.heap.size, 4, none⟩ = some (.int .i64 x.2.2.2.2.1) ∧ w'.cell? ⟨w.heap.size, 5, none⟩ = some (.int .i64 x.2.2.2.2.2.1) ∧ w'.cell? ⟨w.heap.size, 6, none⟩ = some (.int .i64 x.2.2.2.2.2.2.1) ∧ w'.cell? ⟨w.heap.size, 7, none⟩ = some (.int .i64 x.2.2.2.2.2.2.2.1) ∧ w'.cell? ⟨w.heap.size, 8, none⟩ = some (.int .i64 x.2.2.2.2.2.2.2.2.1) ∧ w'.cell? ⟨w.heap.size, 9, none⟩ = some (.int .i64 x.2.2.2.2.2.2.2.2.2.1) ∧ w'.cell? ⟨w.heap.size, 10, none⟩ = some (.int .i64 x.2.2.2.2.2.2.2.2.2.2.1) ∧ w'.cell? ⟨w.heap.size, 11, none⟩ = some (.int .i64 x.2.2.2.2.2.2.2.2.2.2.2.1) ∧ w'.cell? ⟨w.heap.size, 12, none⟩ = some (.int .i64 x.2.2.2.2.2.2.2.2.2.2.2.2.1) ∧ w'.cell? ⟨w.heap.size, 13, none⟩ = some (.int .i64 x.2.2.2.2.2.2.2.2.2.2.2.2.2) ∧ Stays base (some w.heap.size) wr w' ∧ BoxC w' w.heap.size x ∧ w.heap.size + 1 ≤ w'.heap.size)
          (first | exact held_of hS2 hX2 hq0 | (refine held_next (by assumption) (by assumption)))
          ((go_at_call 44; refine (number_at base (some w.heap.size) _ _ _ _ _ (by decide) (by assumption) (Nat.le_trans hb (Nat.le_trans (Nat.le_succ _) (held_sz (base := base) (b := w.heap.size) (w1 := wr) (x := x) (by assumption)))) (fun _ e => by cases e; exact held_sz (base := base) (b := w.heap.size) (w1 := wr) (x := x) (by assumption)) (by omega)).mono ?_; rintro e w' ⟨v', rfl, hM', hS'⟩))
        go_wp2
        go_roundw
        case rel => exact ⟨2, by simp, by omega, Mine.cast (by assumption) (by omega), hSr.trans (held_st (base := base) (b := w.heap.size) (w1 := wr) (x := x) (by assumption)), held_bx (base := base) (b := w.heap.size) (w1 := wr) (x := x) (by assumption)⟩
        case measure => simp only; omega
      · go_wp2
        go_ret
        exact put_fin hMr (by omega) (by omega) (hS01.trans hSr).1
  · have hM2 := hM1.drew
    have hX2 := hX1.drew
    have hS2 := Stays.drew (base := base) (B := some w.heap.size) w1
    have hq0 : w.heap.size + 1 ≤ w1.drew.heap.size := hsz1
    clear g0 g1 g2 g3 g4 g5 g6 g7 g8 g9 g10
    go_region_held3 (fun w' => w'.cell? ⟨w.heap.size, 1, none⟩ = some (.int .i64 x.2.1) ∧ w'.cell? ⟨w.heap.size, 2, none⟩ = some (.int .i64 x.2.2.1) ∧ w'.cell? ⟨w.heap.size, 3, none⟩ = some (.int .i64 x.2.2.2.1) ∧ w'.cell? ⟨w.heap.size, 4, none⟩ = some (.int .i64 x.2.2.2.2.1) ∧ w'.cell? ⟨w.heap.size, 5, none⟩ = some (.int .i64 x.2.2.2.2.2.1) ∧ w'.cell? ⟨w.heap.size, 6, none⟩ = some (.int .i64 x.2.2.2.2.2.2.1) ∧ w'.cell? ⟨w.heap.size, 7, none⟩ = some (.int .i64 x.2.2.2.2.2.2.2.1) ∧ w'.cell? ⟨w.heap.size, 8, none⟩ = some (.int .i64 x.2.2.2.2.2.2.2.2.1) ∧ w'.cell? ⟨w.heap.size, 9, none⟩ = some (.int .i64 x.2.2.2.2.2.2.2.2.2.1) ∧ w'.cell? ⟨w.heap.size, 10, none⟩ = some (.int .i64 x.2.2.2.2.2.2.2.2.2.2.1) ∧ w'.cell? ⟨w.heap.size, 11, none⟩ = some (.int .i64 x.2.2.2.2.2.2.2.2.2.2.2.1) ∧ w'.cell? ⟨w.heap.size, 12, none⟩ = some (.int .i64 x.2.2.2.2.2.2.2.2.2.2.2.2.1) ∧ w'.cell? ⟨w.heap.size, 13, none⟩ = some (.int .i64 x.2.2.2.2.2.2.2.2.2.2.2.2.2) ∧ Stays base (some w.heap.size) w1 w' ∧ BoxC w' w.heap.size x ∧ w.heap.size + 1 ≤ w'.heap.size)
      (first | exact held_of hS2 hX2 hq0 | (refine held_next (by assumption) (by assumption)))
      ((go_at_call 44; refine (number_at base (some w.heap.size) _ _ _ _ _ (by decide) (by assumption) (Nat.le_trans hb (Nat.le_trans (Nat.le_succ _) (held_sz (base := base) (b := w.heap.size) (w1 := w1) (x := x) (by assumption)))) (fun _ e => by cases e; exact held_sz (base := base) (b := w.heap.size) (w1 := w1) (x := x) (by assumption)) (by omega)).mono ?_; rintro e w' ⟨v', rfl, hM', hS'⟩))
    go_wp2
    go_ret
    refine put_fin (by assumption) ?_ ?_ ?_
    · omega
    · omega
    · exact (hS01.trans (held_st (base := base) (b := w.heap.size) (w1 := w1) (x := x) (by assumption))).1
  · go_wp2_with ((go_at_call 44; refine (number_at base (some w.heap.size) _ _ _ _ _ (by decide) hM1 (Nat.le_trans hb (Nat.le_trans (Nat.le_succ _) hsz1)) (fun _ e => by cases e; exact hsz1) (by omega)).mono ?_; rintro e w' ⟨v', rfl, hM', hS'⟩))
    go_ret
    exact put_fin hM' (by omega) (by omega) (hS01.trans hS').1
  · go_wp2_with ((go_at_call 44; refine (number_at base (some w.heap.size) _ _ _ _ _ (by decide) hM1 (Nat.le_trans hb (Nat.le_trans (Nat.le_succ _) hsz1)) (fun _ e => by cases e; exact hsz1) (by omega)).mono ?_; rintro e w' ⟨v', rfl, hM', hS'⟩))
    go_ret
    exact put_fin hM' (by omega) (by omega) (hS01.trans hS').1
  · go_ret
    exact put_fin hM1 (by omega) (by omega) hS01.1
def putE (may : C14 → Option Int) : List C14 → Option Int
  | [] => some 0
  | x :: l => (may x).bind fun e => bif e == 0 then putE may l else some 1
def putL (may : C14 → Option Int) (l : List C14) : Option (Unit × Int) := bif decide (4096 < l.length) then some ((), 3) else (putE may l).bind fun e => some ((), e)
set_option maxRecDepth 1000000 in
set_option maxHeartbeats 4000000 in
theorem Put_in (may : C14 → Option Int) (hmay : ∀ x e, may x = some e → ∀ W, Calls Try.prog 45 #[encC x] W fun en W' => en = .returned (.int .i64 e) ∧ Below W.heap.size W W')
    (xs : List C14) (y : Unit × Int) (hy : putL may xs = some y) (w : World) (v0 : Value) (hc : Cmds w.heap.size w v0 xs) :
    Calls Try.prog 31 #[v0] w fun e w' => (∃ A n c, e = .returned (.tuple #[.slice A n c, .int .i64 y.2])) ∧ Below w.heap.size w w' := by
  obtain ⟨A, cc, rfl, hcc, hcx⟩ := hc
  unfold putL at hy
  go_enter Try.func31, Try.ntmps31
  by_cases hbig : 4096 < xs.length
  · rw [decide_eq_true hbig] at hy
    cases hy
    have hbig' : (xs.length : Int) > 4096 := by omega
    go_wp2
    go_ret2
    exact ⟨⟨_, _, _, rfl⟩, Below.refl _ _⟩
  · rw [decide_eq_false hbig] at hy
    simp only [cond_false] at hy
    obtain ⟨e0, he0, hy⟩ := Option.bind_eq_some_iff.1 hy
    cases hy
    have hbig' : ¬ (xs.length : Int) > 4096 := by omega
    go_wp2_with ((go_at_call 44; refine (number_at w.heap.size none _ _ 0 _ _ (by decide) ⟨_, _, rfl, Nat.le_refl _, fun h => absurd rfl h⟩ (by simp) (fun _ e => by cases e) (by omega)).mono ?_; rintro e w1 ⟨v1, rfl, hM1, hS1⟩))
    have hS0 : Stays w.heap.size none w w1 := (Stays.alloc w _ (Nat.le_refl _)).trans hS1
    go_loopw [4, 5] (fun v i wr => ∃ j N : Nat, i = .int .i64 (j : Int) ∧ j ≤ xs.length ∧ N ≤ 2 + 14 * j ∧ Mine w.heap.size none wr v N ∧ Stays w.heap.size none w wr ∧ putE may (xs.drop j) = some e0) (fun _ i _ => match i with | .int _ y => (xs.length - y).toNat | _ => 0)
    case atStart => exact ⟨0, _, rfl, by omega, by simp, hM1, hS0, by simpa using he0⟩
    case round =>
      obtain ⟨j, N, rfl, hj, hN, hMr, hSr, hE⟩ := hrel
      have hszr : w.heap.size ≤ wr.heap.size := hSr.1.size
      by_cases hlt : j < xs.length
      · obtain ⟨x, hx⟩ : ∃ x, xs[j]? = some x := ⟨_, List.getElem?_eq_getElem hlt⟩
        obtain ⟨b, o, rfl, hbn, hcells⟩ := hcx j x hx
        have hcell : ∀ i, i < 14 → wr.cell? ⟨b, o + j * 14 + i, none⟩ = (cellsC x)[i]? := fun i hi => (hSr.1.cell (p := ⟨b, o + j * 14 + i, none⟩) hbn).trans (hcells i hi)
        have hdrop : xs.drop j = x :: xs.drop (j + 1) := by
          obtain ⟨h1, rfl⟩ := List.getElem?_eq_some_iff.1 hx
          exact List.drop_eq_getElem_cons h1
        rw [hdrop] at hE
        simp only [putE] at hE
        obtain ⟨e, hme, hE⟩ := Option.bind_eq_some_iff.1 hE
        have hlt' : (j : Int) < xs.length := by omega
        have hm := hmay x e hme
        simp only [encC, cellsC] at hm
        have g0 : wr.cell? ⟨b, o + j * 14, none⟩ = some (.int .i64 x.1) := hcell 0 (by omega)
        have g1 : wr.cell? ⟨b, o + j * 14 + 1, none⟩ = some (.int .i64 x.2.1) := hcell 1 (by omega)
        have g2 : wr.cell? ⟨b, o + j * 14 + 2, none⟩ = some (.int .i64 x.2.2.1) := hcell 2 (by omega)
        have g3 : wr.cell? ⟨b, o + j * 14 + 3, none⟩ = some (.int .i64 x.2.2.2.1) := hcell 3 (by omega)
        have g4 : wr.cell? ⟨b, o + j * 14 + 4, none⟩ = some (.int .i64 x.2.2.2.2.1) := hcell 4 (by omega)
        have g5 : wr.cell? ⟨b, o + j * 14 + 5, none⟩ = some (.int .i64 x.2.2.2.2.2.1) := hcell 5 (by omega)
        have g6 : wr.cell? ⟨b, o + j * 14 + 6, none⟩ = some (.int .i64 x.2.2.2.2.2.2.1) := hcell 6 (by omega)
        have g7 : wr.cell? ⟨b, o + j * 14 + 7, none⟩ = some (.int .i64 x.2.2.2.2.2.2.2.1) := hcell 7 (by omega)
        have g8 : wr.cell? ⟨b, o + j * 14 + 8, none⟩ = some (.int .i64 x.2.2.2.2.2.2.2.2.1) := hcell 8 (by omega)
        have g9 : wr.cell? ⟨b, o + j * 14 + 9, none⟩ = some (.int .i64 x.2.2.2.2.2.2.2.2.2.1) := hcell 9 (by omega)
        have g10 : wr.cell? ⟨b, o + j * 14 + 10, none⟩ = some (.int .i64 x.2.2.2.2.2.2.2.2.2.2.1) := hcell 10 (by omega)
        have g11 : wr.cell? ⟨b, o + j * 14 + 11, none⟩ = some (.int .i64 x.2.2.2.2.2.2.2.2.2.2.2.1) := hcell 11 (by omega)
        have g12 : wr.cell? ⟨b, o + j * 14 + 12, none⟩ = some (.int .i64 x.2.2.2.2.2.2.2.2.2.2.2.2.1) := hcell 12 (by omega)
        have g13 : wr.cell? ⟨b, o + j * 14 + 13, none⟩ = some (.int .i64 x.2.2.2.2.2.2.2.2.2.2.2.2.2) := hcell 13 (by omega)
        clear hcell hcells
        have hbn2 : b < wr.heap.size := Nat.lt_of_lt_of_le hbn hszr
        by_cases he : e = 0
        · subst he
          have hput := fun (W : World) (v : Value) (hM : Mine w.heap.size none W v N) (hb : w.heap.size ≤ W.heap.size) => put_in w.heap.size W v N x hM hb (by omega)
          simp only [encC, cellsC] at hput
          go_wp2_with (first | (go_at_call 45; refine (hm _).mono ?_; rintro en w2 ⟨rfl, hB2⟩; have k0 : w2.cell? ⟨b, o + j * 14, none⟩ = some (.int .i64 x.1) := (hB2.cell (p := ⟨b, o + j * 14, none⟩) hbn2).trans g0; have k1 : w2.cell? ⟨b, o + j * 14 + 1, none⟩ = some (.int .i64 x.2.1) := (hB2.cell (p := ⟨b, o + j * 14 + 1, none⟩) hbn2).trans g1; have k2 : w2.cell? ⟨b, o + j * 14 + 2, none⟩ = some (.int .i64 x.2.2.1) := (hB2.cell (p := ⟨b, o + j * 14 + 2, none⟩) hbn2).trans g2; have k3 : w2.cell? ⟨b, o + j * 14 + 3, none⟩ = some (.int .i64 x.2.2.2.1) := (hB2.cell (p := ⟨b, o + j * 14 + 3, none⟩) hbn2).trans g3; have k4 : w2.cell? ⟨b, o + j * 14 + 4, none⟩ = some (.int .i64 x.2.2.2.2.1) := (hB2.cell (p := ⟨b, o + j * 14 + 4, none⟩) hbn2).trans g4; have k5 : w2.cell? ⟨b, o + j * 14 + 5, none⟩ = some (.int .i64 x.2.2.2.2.2.1) := (hB2.cell (p := ⟨b, o + j * 14 + 5, none⟩) hbn2).trans g5; have k6 : w2.cell? ⟨b, o + j * 14 + 6, none⟩ = some (.int .i64 x.2.2.2.2.2.2.1) := (hB2.cell (p := ⟨b, o + j * 14 + 6, none⟩) hbn2).trans g6; have k7 : w2.cell? ⟨b, o + j * 14 + 7, none⟩ = some (.int .i64 x.2.2.2.2.2.2.2.1) := (hB2.cell (p := ⟨b, o + j * 14 + 7, none⟩) hbn2).trans g7; have k8 : w2.cell? ⟨b, o + j * 14 + 8, none⟩ = some (.int .i64 x.2.2.2.2.2.2.2.2.1) := (hB2.cell (p := ⟨b, o + j * 14 + 8, none⟩) hbn2).trans g8; have k9 : w2.cell? ⟨b, o + j * 14 + 9, none⟩ = some (.int .i64 x.2.2.2.2.2.2.2.2.2.1) := (hB2.cell (p := ⟨b, o + j * 14 + 9, none⟩) hbn2).trans g9; have k10 : w2.cell? ⟨b, o + j * 14 + 10, none⟩ = some (.int .i64 x.2.2.2.2.2.2.2.2.2.2.1) := (hB2.cell (p := ⟨b, o + j * 14 + 10, none⟩) hbn2).trans g10; have k11 : w2.cell? ⟨b, o + j * 14 + 11, none⟩ = some (.int .i64 x.2.2.2.2.2.2.2.2.2.2.2.1) := (hB2.cell (p := ⟨b, o + j * 14 + 11, none⟩) hbn2).trans g11; have k12 : w2.cell? ⟨b, o + j * 14 + 12, none⟩ = some (.int .i64 x.2.2.2.2.2.2.2.2.2.2.2.2.1) := (hB2.cell (p := ⟨b, o + j * 14 + 12, none⟩) hbn2).trans g12; have k13 : w2.cell? ⟨b, o + j * 14 + 13, none⟩ = some (.int .i64 x.2.2.2.2.2.2.2.2.2.2.2.2.2) := (hB2.cell (p := ⟨b, o + j * 14 + 13, none⟩) hbn2).trans g13) | (go_at_call 46; refine (hput _ _ (hMr.below hB2) (Nat.le_trans hszr hB2.size)).mono ?_; rintro en w3 ⟨v3, m3, rfl, hM3, hm3, hB3⟩))
          go_roundw
          case rel => exact ⟨j + 1, N + m3, by simp, by omega, by omega, hM3, ⟨hSr.1.trans ((hB2.mono hszr).trans hB3), fun _ e => by cases e⟩, by simpa using hE⟩
          case measure => simp only; omega
        · go_wp2_with (first | (go_at_call 45; refine (hm _).mono ?_; rintro en w2 ⟨rfl, hB2⟩; have k0 : w2.cell? ⟨b, o + j * 14, none⟩ = some (.int .i64 x.1) := (hB2.cell (p := ⟨b, o + j * 14, none⟩) hbn2).trans g0; have k1 : w2.cell? ⟨b, o + j * 14 + 1, none⟩ = some (.int .i64 x.2.1) := (hB2.cell (p := ⟨b, o + j * 14 + 1, none⟩) hbn2).trans g1; have k2 : w2.cell? ⟨b, o + j * 14 + 2, none⟩ = some (.int .i64 x.2.2.1) := (hB2.cell (p := ⟨b, o + j * 14 + 2, none⟩) hbn2).trans g2; have k3 : w2.cell? ⟨b, o + j * 14 + 3, none⟩ = some (.int .i64 x.2.2.2.1) := (hB2.cell (p := ⟨b, o + j * 14 + 3, none⟩) hbn2).trans g3; have k4 : w2.cell? ⟨b, o + j * 14 + 4, none⟩ = some (.int .i64 x.2.2.2.2.1) := (hB2.cell (p := ⟨b, o + j * 14 + 4, none⟩) hbn2).trans g4; have k5 : w2.cell? ⟨b, o + j * 14 + 5, none⟩ = some (.int .i64 x.2.2.2.2.2.1) := (hB2.cell (p := ⟨b, o + j * 14 + 5, none⟩) hbn2).trans g5; have k6 : w2.cell? ⟨b, o + j * 14 + 6, none⟩ = some (.int .i64 x.2.2.2.2.2.2.1) := (hB2.cell (p := ⟨b, o + j * 14 + 6, none⟩) hbn2).trans g6; have k7 : w2.cell? ⟨b, o + j * 14 + 7, none⟩ = some (.int .i64 x.2.2.2.2.2.2.2.1) := (hB2.cell (p := ⟨b, o + j * 14 + 7, none⟩) hbn2).trans g7; have k8 : w2.cell? ⟨b, o + j * 14 + 8, none⟩ = some (.int .i64 x.2.2.2.2.2.2.2.2.1) := (hB2.cell (p := ⟨b, o + j * 14 + 8, none⟩) hbn2).trans g8; have k9 : w2.cell? ⟨b, o + j * 14 + 9, none⟩ = some (.int .i64 x.2.2.2.2.2.2.2.2.2.1) := (hB2.cell (p := ⟨b, o + j * 14 + 9, none⟩) hbn2).trans g9; have k10 : w2.cell? ⟨b, o + j * 14 + 10, none⟩ = some (.int .i64 x.2.2.2.2.2.2.2.2.2.2.1) := (hB2.cell (p := ⟨b, o + j * 14 + 10, none⟩) hbn2).trans g10; have k11 : w2.cell? ⟨b, o + j * 14 + 11, none⟩ = some (.int .i64 x.2.2.2.2.2.2.2.2.2.2.2.1) := (hB2.cell (p := ⟨b, o + j * 14 + 11, none⟩) hbn2).trans g11; have k12 : w2.cell? ⟨b, o + j * 14 + 12, none⟩ = some (.int .i64 x.2.2.2.2.2.2.2.2.2.2.2.2.1) := (hB2.cell (p := ⟨b, o + j * 14 + 12, none⟩) hbn2).trans g12; have k13 : w2.cell? ⟨b, o + j * 14 + 13, none⟩ = some (.int .i64 x.2.2.2.2.2.2.2.2.2.2.2.2.2) := (hB2.cell (p := ⟨b, o + j * 14 + 13, none⟩) hbn2).trans g13))
          have e1 : e0 = 1 := by
            rw [show (e == 0) = false by simpa using he] at hE
            simpa using hE.symm
          subst e1
          go_ret2
          exact ⟨⟨_, _, _, rfl⟩, hSr.1.trans (hB2.mono hszr)⟩
      · obtain rfl : j = xs.length := by omega
        have e1 : e0 = 0 := by simpa [putE] using hE.symm
        subst e1
        obtain ⟨A3, c3, rfl, _⟩ := hMr
        go_wp2
        go_ret2
        exact ⟨⟨_, _, _, rfl⟩, hSr.1⟩
end Go.V.P
