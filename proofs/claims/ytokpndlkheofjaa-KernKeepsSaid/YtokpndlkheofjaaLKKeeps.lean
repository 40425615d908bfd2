/- Plain laws of layer 5: KernKeeps. -/
import Derived.Test.YtokpndlkheofjaaLKUn
import Derived.Test.YtokpndlkheofjaaKf10
namespace Go.V.P
open Go Go.V Go.IntWalk
set_option linter.unusedVariables false
set_option linter.unusedSimpArgs false
set_option maxRecDepth 20000
theorem allL_get {H W C : Nat} (F : Nat → Nat → Nat → Int) {i : Nat} (hi : i < H * (W * C)) : gt (allL H W C F) (i : Int) 0 = F (i / (W * C)) (i % (W * C) / C) (i % (W * C) % C) ∧ i / (W * C) < H ∧ i % (W * C) / C < W ∧ i % (W * C) % C < C := by
  have hpos : 0 < W * C := by
    cases hz : W * C with
    | zero => rw [hz] at hi; omega
    | succ k => omega
  have hCpos : 0 < C := Nat.pos_of_ne_zero (fun h0 => by rw [h0] at hpos; omega)
  refine ⟨?_, Nat.div_lt_of_lt_mul (by rw [Nat.mul_comm]; exact hi), Nat.div_lt_of_lt_mul (by rw [Nat.mul_comm C W]; exact Nat.mod_lt _ hpos), Nat.mod_lt _ hCpos⟩
  unfold gt allL
  rw [show ((i : Int).toNat) = i by omega, List.getD_eq_getElem?_getD, List.getElem?_map, List.getElem?_range hi]
  rfl
/-! ### How many are not what stands for nought -/
def notz (z : Int) (v : Int) : Bool := v != z
theorem count_col {C : Nat} {G : Nat → Int} {z : Int} (h : ∀ c, c < C → G c = z) : ((List.range C).map G).countP (notz z) = 0 := by
  rw [List.countP_eq_zero]
  intro v hv
  obtain ⟨c, hc, e⟩ := List.mem_map.1 hv
  have := h c (List.mem_range.1 hc)
  unfold notz
  rw [← e, this]
  simp
theorem count_row0 {C : Nat} (hC : 0 < C) {F : Nat → Nat → Int} {z : Int} : ∀ {W : Nat}, (∀ x c, x < W → c < C → F x c = z) → (rowL W C F).countP (notz z) = 0
  | 0, _ => by unfold rowL; simp
  | W + 1, h => by
    rw [rowL_succ _ _ _ hC, List.countP_append, count_row0 hC (fun x c hx hc => h x c (by omega) hc), count_col (fun c hc => h W c (by omega) hc)]
theorem count_row1 {C : Nat} (hC : 0 < C) {F : Nat → Nat → Int} {z : Int} (h0 : ∀ c, c < C → F 0 c = z) : ∀ W : Nat, (rowL (W + 1) C F).countP (notz z) ≤ W * C
  | 0 => by rw [rowL_succ _ _ _ hC, List.countP_append, count_col h0]; unfold rowL; simp
  | W + 1 => by
    have ih := count_row1 hC h0 W
    rw [rowL_succ _ _ _ hC, List.countP_append, Nat.succ_mul]
    have : ((List.range C).map (F (W + 1))).countP (notz z) ≤ ((List.range C).map (F (W + 1))).length := List.countP_le_length
    simp only [List.length_map, List.length_range] at this
    omega
theorem count_row {W C : Nat} (hC : 0 < C) {F : Nat → Nat → Int} {z : Int} (h0 : ∀ c, c < C → F 0 c = z) (h1 : ∀ c, c < C → F (W + 1) c = z) : (rowL (W + 2) C F).countP (notz z) ≤ W * C := by
  rw [rowL_succ _ _ _ hC, List.countP_append, count_col h1]
  exact count_row1 hC h0 W
theorem count_all1 {W C : Nat} (hC : 0 < C) (hW : 0 < W) {F : Nat → Nat → Nat → Int} {z : Int} (h0 : ∀ x c, x < W + 2 → c < C → F 0 x c = z) (hr : ∀ y, (rowL (W + 2) C (F y)).countP (notz z) ≤ W * C) : ∀ H : Nat, (allL (H + 1) (W + 2) C F).countP (notz z) ≤ H * (W * C)
  | 0 => by rw [allL_succ _ _ _ _ (Nat.mul_pos (by omega) hC), List.countP_append, count_row0 hC h0]; unfold allL; simp
  | H + 1 => by
    have ih := count_all1 hC hW h0 hr H
    rw [allL_succ _ _ _ _ (Nat.mul_pos (by omega) hC), List.countP_append, Nat.succ_mul]
    have := hr (H + 1)
    omega
theorem pad_count (a : I4) (d : List Int) (hd : Full a d) : (allL (a.1.toNat + 2) (a.2.1.toNat + 2) a.2.2.1.toNat (padF a d)).countP (notz a.2.2.2) ≤ a.1.toNat * (a.2.1.toNat * a.2.2.1.toNat) := by
  have hl := hd.lim
  have hC : 0 < a.2.2.1.toNat := by omega
  rw [allL_succ _ _ _ _ (Nat.mul_pos (by omega) hC), List.countP_append]
  rw [count_row0 hC (fun x c hx hc => by unfold padF; rw [if_neg (by omega)])]
  exact count_all1 hC (by omega) (fun x c hx hc => by unfold padF; rw [if_neg (by omega)]) (fun y => count_row hC (fun c hc => by unfold padF; rw [if_neg (by omega)]) (fun c hc => by unfold padF; rw [if_neg (by omega)])) a.1.toNat
theorem num_all {a : I4} {H W C : Nat} (hH : a.1 = H) (hW : a.2.1 = W) (hC : a.2.2.1 = C) (F : Nat → Nat → Nat → Int) {y x c : Nat} (hy : y < H) (hx : x < W) (hc : c < C) : numV a (allL H W C F) y x c = F y x c := by
  have := (allL_at H W C F y x c hy hx hc ((y * W + x) * C + c) rfl).1
  unfold numV
  rw [hW, hC]
  simp only [Int.natCast_add, Int.natCast_mul] at this
  exact this
theorem one_pool (op : Int) (ho : op = 4 ∨ op = 5) (a : I4) (d : List Int) (hd : Full a d) : kern_All (op, [], 1, 1, 0, 0, 1, 0, a.2.2.2, 0, 0, 0, [], []) [a] (d, []) = some (d, 0) := by
  have hl := hd.lim
  obtain ⟨A, g1, g2, _⟩ := all_pool op ho a d hd 1 1 (by omega) (by omega) (by omega) (by omega)
  have ho1 : ∀ H : Int, 1 ≤ H → H ≤ 16 → outV H ((1 : Nat) : Int) ((1 : Nat) : Int) 0 = H := fun H a b => by
    unfold outV
    rw [if_pos ⟨winB_iff.2 (by omega), by omega⟩, show H + 2 * 0 - ((1 : Nat) : Int) = H - 1 by omega, show ((1 : Nat) : Int) = 1 by rfl, Int.ediv_one]
    omega
  rw [ho1 a.1 (by omega) (by omega), ho1 a.2.1 (by omega) (by omega)] at A
  show kern_All (poolN op ((1 : Nat) : Int) ((1 : Nat) : Int) a.2.2.2) [a] (d, []) = _
  rw [A, allL_congr (G := numV a d) (fun y x c hy hx hc => by
    obtain ⟨p1, p2, p3, p4, p5⟩ := pool_pix hd op ho 1 1 y x c (by omega) (by omega) (by omega) (by omega) (by omega)
    have e : ∀ i j, i < 1 → j < 1 → numV a d (y * 1 + i) (x * 1 + j) c = numV a d y x c := fun i j hi hj => by
      have : i = 0 := by omega
      have : j = 0 := by omega
      subst i j
      rw [Nat.mul_one, Nat.mul_one, Nat.add_zero, Nat.add_zero]
    have u := p4 (numV a d y x c) (fun i j hi hj => Int.le_of_eq (e i j hi hj))
    have l := p5 (numV a d y x c) (fun i j hi hj => Int.le_of_eq (e i j hi hj).symm)
    exact Int.le_antisymm u l), all_num hd (nat_of (show 0 ≤ a.1 by omega)) (nat_of (show 0 ≤ a.2.1 by omega)) (nat_of (show 0 ≤ a.2.2.1 by omega))]
/-- the padded value looked at -/
theorem pad_part (a : I4) (d e : List Int) (hd : Full a d) : law05_KernKeeps_j21_p ([a, a], (d, e), true) a.2.2.2 (a.1, a.2.1, a.2.2.1) = some (.inl ()) ∨ law05_KernKeeps_j21_p ([a, a], (d, e), true) a.2.2.2 (a.1, a.2.1, a.2.2.1) = some (.inr (.inl ())) := by
  have hl := hd.lim
  have hz := hd.zero
  unfold law05_KernKeeps_j21_p
  by_cases hb : a.1 ≤ 14 ∧ a.2.1 ≤ 14
  · have hr21 : law05_KernKeeps_r21_p (a.1, a.2.1, a.2.2.1) = true := by
      simp only [law05_KernKeeps_r21_p, law05_KernKeeps_r21_q]
      rw [decide_eq_true hb.1, decide_eq_true hb.2]
      rfl
    have A := all_pad a d hd hb.1 hb.2
    have e1 : (([a, a] : List I4).take (Int.toNat 1)).drop (Int.toNat 0) = [a] := rfl
    have hsz := hd.size
    have hH := nat_of (show 0 ≤ a.1 by omega)
    have hW := nat_of (show 0 ≤ a.2.1 by omega)
    have hC := nat_of (show 0 ≤ a.2.2.1 by omega)
    have hlenD : d.length = a.1.toNat * (a.2.1.toNat * a.2.2.1.toNat) := by
      have := congrArg List.length (all_num hd hH hW hC)
      rw [allL_len] at this
      exact this.symm
    have hbig : (a.1.toNat + 2) * ((a.2.1.toNat + 2) * a.2.2.1.toNat) ≤ 16 * (16 * 8) := Nat.mul_le_mul (by omega) (Nat.mul_le_mul (by omega) (by omega))
    simp only [hr21, e1, A, cond_true, Option.bind_some]
    have hlenQ : (allL (a.1.toNat + 2) (a.2.1.toNat + 2) a.2.2.1.toNat (padF a d)).length = (a.1.toNat + 2) * ((a.2.1.toNat + 2) * a.2.2.1.toNat) := allL_len _ _ _ _
    have hcnt := pad_count a d hd
    have hat : ∀ y x c : Nat, y < a.1.toNat → x < a.2.1.toNat → c < a.2.2.1.toNat → gt (allL (a.1.toNat + 2) (a.2.1.toNat + 2) a.2.2.1.toNat (padF a d)) ((((y + 1) * (a.2.1.toNat + 2) + (x + 1)) * a.2.2.1.toNat + c : Nat) : Int) 0 = numV a d y x c ∧ ((y + 1) * (a.2.1.toNat + 2) + (x + 1)) * a.2.2.1.toNat + c < (a.1.toNat + 2) * ((a.2.1.toNat + 2) * a.2.2.1.toNat) := fun y x c hy hx hc => by
      obtain ⟨p1, p2⟩ := allL_at (a.1.toNat + 2) (a.2.1.toNat + 2) a.2.2.1.toNat (padF a d) (y + 1) (x + 1) c (by omega) (by omega) hc _ rfl
      refine ⟨p1.trans ?_, p2⟩
      unfold padF
      rw [if_pos (by omega)]
      rfl
    have hqb : ∀ i : Nat, i < (allL (a.1.toNat + 2) (a.2.1.toNat + 2) a.2.2.1.toNat (padF a d)).length → -128 ≤ gt (allL (a.1.toNat + 2) (a.2.1.toNat + 2) a.2.2.1.toNat (padF a d)) (i : Int) 0 ∧ gt (allL (a.1.toNat + 2) (a.2.1.toNat + 2) a.2.2.1.toNat (padF a d)) (i : Int) 0 ≤ 127 := fun i hi => by
      rw [hlenQ] at hi
      obtain ⟨u1, u2, u3, u4⟩ := allL_get (padF a d) hi
      rw [u1]
      exact padF_in hd u4
    generalize allL (a.1.toNat + 2) (a.2.1.toNat + 2) a.2.2.1.toNat (padF a d) = q at *
    have hr24 : law05_KernKeeps_r24_p (a.1, a.2.1, a.2.2.1) (q, 0) = false := by
      simp only [law05_KernKeeps_r24_p, law05_KernKeeps_r24_q, bne_self_eq_false, cond_false]
      rw [i64_in (a.1 + 2) (by omega), i64_in (a.2.1 + 2) (by omega), ref02_Size_eq]
      unfold sizeV
      rw [if_pos (mayB_iff.2 (by simp only; omega)), hlenQ]
      have : (((a.1.toNat + 2) * ((a.2.1.toNat + 2) * a.2.2.1.toNat) : Nat) : Int) = (a.1 + 2) * (a.2.1 + 2) * a.2.2.1 := by
        rw [Int.natCast_mul, Int.natCast_mul, Int.natCast_add, Int.natCast_add, ← hH, ← hW, ← hC, Int.mul_assoc]
        rfl
      rw [this]
      simp
    have hWC : a.2.1 * a.2.2.1 = ((a.2.1.toNat * a.2.2.1.toNat : Nat) : Int) := by rw [Int.natCast_mul, ← hW, ← hC]
    have hWC8 : a.2.1.toNat * a.2.2.1.toNat ≤ 16 * 8 := Nat.mul_le_mul (by omega) (by omega)
    have inner : ∀ y : Nat, y < a.1.toNat → iterN (law05_KernKeeps_l31_p ([a, a], (d, e), true) (a.1, a.2.1, a.2.2.1) (q, 0) (y : Int)) LL 0 = some (.inl ((a.2.1.toNat * a.2.2.1.toNat : Nat) : Int)) := fun y hy => by
      have wWC : IntKind.wrap .i64 (a.2.1 * a.2.2.1) = ((a.2.1.toNat * a.2.2.1.toNat : Nat) : Int) := by rw [hWC, i64_in _ (by omega)]
      exact iterN_for (p := law05_KernKeeps_l31_p ([a, a], (d, e), true) (a.1, a.2.1, a.2.2.1) (q, 0) (y : Int)) (z := .inl ((a.2.1.toNat * a.2.2.1.toNat : Nat) : Int)) (a.2.1.toNat * a.2.2.1.toNat) (fun i => (i : Int)) LL (LL_lt (by omega)) (fun i hi => by
        have hc : i % a.2.2.1.toNat < a.2.2.1.toNat := Nat.mod_lt _ (by omega)
        have hx : i / a.2.2.1.toNat < a.2.1.toNat := Nat.div_lt_of_lt_mul (by rw [Nat.mul_comm]; exact hi)
        have ei : i / a.2.2.1.toNat * a.2.2.1.toNat + i % a.2.2.1.toNat = i := by rw [Nat.mul_comm]; exact Nat.div_add_mod _ _
        generalize i / a.2.2.1.toNat = x at *
        generalize i % a.2.2.1.toNat = c at *
        obtain ⟨p1, p2⟩ := hat y x c hy hx hc
        have t3 := i64_in ((i : Int) + 1) (by omega)
        have bW2 : (y + 1) * (a.2.1.toNat + 2) ≤ 16 * 18 := Nat.mul_le_mul (by omega) (by omega)
        have bWC : (y + 1) * (a.2.1.toNat + 2) * a.2.2.1.toNat ≤ 16 * 18 * 8 := Nat.mul_le_mul bW2 (by omega)
        have byW : y * a.2.1.toNat ≤ 16 * 16 := Nat.mul_le_mul (by omega) (by omega)
        have byWC : y * a.2.1.toNat * a.2.2.1.toNat ≤ 16 * 16 * 8 := Nat.mul_le_mul byW (by omega)
        have exp1 : ((y + 1) * (a.2.1.toNat + 2) + (x + 1)) * a.2.2.1.toNat + c = (y + 1) * (a.2.1.toNat + 2) * a.2.2.1.toNat + a.2.2.1.toNat + i := by
          rw [Nat.add_mul, Nat.add_mul x 1, Nat.one_mul]; omega
        have exp2 : (y * a.2.1.toNat + x) * a.2.2.1.toNat + c = y * a.2.1.toNat * a.2.2.1.toNat + i := by
          rw [Nat.add_mul]; omega
        have hlt : y * a.2.1.toNat * a.2.2.1.toNat + i < d.length := by
          rw [hlenD]
          have : (y + 1) * (a.2.1.toNat * a.2.2.1.toNat) ≤ a.1.toNat * (a.2.1.toNat * a.2.2.1.toNat) := Nat.mul_le_mul_right _ hy
          rw [Nat.succ_mul, ← Nat.mul_assoc] at this
          omega
        have hnum : numV a d y x c = gt d ((y * a.2.1.toNat * a.2.2.1.toNat + i : Nat) : Int) 0 := by
          unfold numV
          congr 1
          rw [← exp2, Int.natCast_add, Int.natCast_mul, Int.natCast_add, Int.natCast_mul, ← hW, ← hC]
        rw [hnum, exp1] at p1
        rw [exp1] at p2
        have w1 : IntKind.wrap .i64 (IntKind.wrap .i64 (IntKind.wrap .i64 (IntKind.wrap .i64 (IntKind.wrap .i64 ((y : Int) + 1) * IntKind.wrap .i64 (a.2.1 + 2)) * a.2.2.1) + a.2.2.1) + (i : Int)) = (((y + 1) * (a.2.1.toNat + 2) * a.2.2.1.toNat + a.2.2.1.toNat + i : Nat) : Int) := by
          have e1 : ((y : Int) + 1) * (a.2.1 + 2) = (((y + 1) * (a.2.1.toNat + 2) : Nat) : Int) := by rw [Int.natCast_mul, Int.natCast_add, Int.natCast_add, ← hW]; rfl
          have e2 : (((y + 1) * (a.2.1.toNat + 2) : Nat) : Int) * a.2.2.1 = (((y + 1) * (a.2.1.toNat + 2) * a.2.2.1.toNat : Nat) : Int) := by rw [Int.natCast_mul _ a.2.2.1.toNat, ← hC]
          rw [i64_in ((y : Int) + 1) (by omega), i64_in (a.2.1 + 2) (by omega), e1, i64_in (((y + 1) * (a.2.1.toNat + 2) : Nat) : Int) (by omega), e2, i64_in (((y + 1) * (a.2.1.toNat + 2) * a.2.2.1.toNat : Nat) : Int) (by omega), i64_in ((((y + 1) * (a.2.1.toNat + 2) * a.2.2.1.toNat : Nat) : Int) + a.2.2.1) (by omega), i64_in _ (by omega)]
          omega
        have w2 : IntKind.wrap .i64 (IntKind.wrap .i64 (IntKind.wrap .i64 ((y : Int) * a.2.1) * a.2.2.1) + (i : Int)) = ((y * a.2.1.toNat * a.2.2.1.toNat + i : Nat) : Int) := by
          have e1 : (y : Int) * a.2.1 = ((y * a.2.1.toNat : Nat) : Int) := by rw [Int.natCast_mul, ← hW]
          have e2 : ((y * a.2.1.toNat : Nat) : Int) * a.2.2.1 = ((y * a.2.1.toNat * a.2.2.1.toNat : Nat) : Int) := by rw [Int.natCast_mul _ a.2.2.1.toNat, ← hC]
          rw [e1, i64_in ((y * a.2.1.toNat : Nat) : Int) (by omega), e2, i64_in ((y * a.2.1.toNat * a.2.2.1.toNat : Nat) : Int) (by omega), i64_in _ (by omega)]
          omega
        have hr33 : law05_KernKeeps_r33_p ([a, a], (d, e), true) (a.1, a.2.1, a.2.2.1) (q, 0) (y : Int) (i : Int) = some false := by
          unfold law05_KernKeeps_r33_p
          simp only [w1, w2, p1]
          rw [decide_eq_true (by omega), decide_eq_true (by rw [hlenQ]; omega), decide_eq_true (by omega), decide_eq_true (by omega)]
          simp
        unfold law05_KernKeeps_l31_p
        simp only [wWC]
        rw [decide_eq_true (by omega : (i : Int) < ((a.2.1.toNat * a.2.2.1.toNat : Nat) : Int)), hr33, t3]
        rfl) (by
        unfold law05_KernKeeps_l31_p
        simp only [wWC]
        rw [decide_eq_false (Int.lt_irrefl _)]
        rfl)
    have outer : iterN (law05_KernKeeps_l28_p ([a, a], (d, e), true) (a.1, a.2.1, a.2.2.1) (q, 0)) LL 0 = some (.inl (a.1.toNat : Int)) :=
      iterN_for (p := law05_KernKeeps_l28_p ([a, a], (d, e), true) (a.1, a.2.1, a.2.2.1) (q, 0)) (z := .inl (a.1.toNat : Int)) a.1.toNat (fun i => (i : Int)) LL (LL_lt (by omega)) (fun i hi => by
        have t3 := i64_in ((i : Int) + 1) (by omega)
        unfold law05_KernKeeps_l28_p
        rw [decide_eq_true (by simp only; omega), inner i hi, t3]
        rfl) (by
        unfold law05_KernKeeps_l28_p
        rw [decide_eq_false (by simp only; omega)]
        rfl)
    have hcount : iterN (law05_KernKeeps_l36_p a.2.2.2 (q, 0)) LL (0, 0) = some (((q.countP (notz a.2.2.2) : Nat) : Int), (q.length : Int)) := by
      have := iterN_for (p := law05_KernKeeps_l36_p a.2.2.2 (q, 0)) (z := (((q.countP (notz a.2.2.2) : Nat) : Int), (q.length : Int))) q.length (fun i => ((((q.take i).countP (notz a.2.2.2) : Nat) : Int), (i : Int))) LL (LL_lt (by omega)) (fun i hi => by
        obtain ⟨t1, t2, t3⟩ := step_t hi (by omega)
        have hcl : (q.take i).countP (notz a.2.2.2) ≤ i := Nat.le_trans List.countP_le_length (by rw [List.length_take]; omega)
        have hg : gt q (i : Int) 0 = q[i] := by
          unfold gt
          rw [show ((i : Int).toNat) = i by omega, List.getD_eq_getElem?_getD, List.getElem?_eq_getElem hi]
          rfl
        have hstep : (q.take (i + 1)).countP (notz a.2.2.2) = (q.take i).countP (notz a.2.2.2) + if notz a.2.2.2 (gt q (i : Int) 0) = true then 1 else 0 := by
          rw [List.take_add_one, List.countP_append, List.getElem?_eq_getElem hi, hg]
          simp [List.countP_cons, List.countP_nil]
        have hb8 : -128 ≤ gt q (i : Int) 0 ∧ gt q (i : Int) 0 ≤ 127 := hqb i hi
        unfold law05_KernKeeps_l36_p law05_KernKeeps_j38_p law05_KernKeeps_r38_p
        simp only [t1, t2, t3, cond_true, Option.bind_some, i64_in (gt q (i : Int) 0) (by omega), hstep]
        by_cases hc : gt q (i : Int) 0 = a.2.2.2
        · rw [show (gt q (i : Int) 0 != a.2.2.2) = false by simp [hc], if_neg (by unfold notz; simp [hc])]
          rfl
        · rw [show (gt q (i : Int) 0 != a.2.2.2) = true by simpa using hc, if_pos (by unfold notz; simpa using hc), i64_in _ (by omega)]
          rfl) (by
        unfold law05_KernKeeps_l36_p
        rw [decide_eq_false (Int.lt_irrefl _)]
        simp only [cond_false, List.take_length])
      exact this
    simp only [hr24, cond_false, outer, Option.bind_some, either, hcount]
    rw [decide_eq_false (by omega)]
    exact .inl rfl
  · have hr21 : law05_KernKeeps_r21_p (a.1, a.2.1, a.2.2.1) = false := by
      simp only [law05_KernKeeps_r21_p, law05_KernKeeps_r21_q]
      by_cases h1 : a.1 ≤ 14
      · rw [decide_eq_true h1, decide_eq_false (by omega)]; rfl
      · rw [decide_eq_false h1]; rfl
    rw [hr21]
    exact .inr rfl
theorem KernKeeps_true (x : Data) (kx : Ts.ok tsData x) : law05_KernKeeps x = some true := by
  unfold law05_KernKeeps
  rw [shown05]
  simp only [Option.bind_some]
  rcases pair_run x kx with hp | ⟨a, d, e, hd, he, hp⟩
  · rw [hp]; rfl
  · have hl := hd.lim
    have hz := hd.zero
    have hH := nat_of (show 0 ≤ a.1 by omega)
    have hW := nat_of (show 0 ≤ a.2.1 by omega)
    have hC := nat_of (show 0 ≤ a.2.2.1 by omega)
    have hlenD : d.length = a.1.toNat * (a.2.1.toNat * a.2.2.1.toNat) := by
      have := congrArg List.length (all_num hd hH hW hC)
      rw [allL_len] at this
      exact this.symm
    have hbig : a.1.toNat * (a.2.1.toNat * a.2.2.1.toNat) ≤ 16 * (16 * 8) := Nat.mul_le_mul (by omega) (Nat.mul_le_mul (by omega) (by omega))
    have e1 : (([a, a] : List I4).take (Int.toNat 1)).drop (Int.toNat 0) = [a] := rfl
    have hr5 : law05_KernKeeps_r5_p ([a, a], (d, e), true) = some () := rfl
    have hr6 : law05_KernKeeps_r6_p ([a, a], (d, e), true) = some a.2.2.2 := rfl
    have hr7 : law05_KernKeeps_r7_p ([a, a], (d, e), true) = some (a.1, a.2.1, a.2.2.1) := rfl
    have R := all_relu a d hd
    have hfr : Full a (allL a.1.toNat a.2.1.toNat a.2.2.1.toNat (fun y x c => max (numV a d y x c) a.2.2.2)) := by
      refine ⟨hd.may, ?_, ?_, hz⟩
      · rw [allL_len, ← hlenD]; exact hd.len
      · intro v hv
        unfold allL at hv
        obtain ⟨i, hi, ev⟩ := List.mem_map.1 hv
        have hi := List.mem_range.1 hi
        obtain ⟨_, u2, u3, u4⟩ := allL_get (fun _ _ _ => 0) hi
        have := num_in hd (y := i / (a.2.1.toNat * a.2.2.1.toNat)) (x := i % (a.2.1.toNat * a.2.2.1.toNat) / a.2.2.1.toNat) (c := i % (a.2.1.toNat * a.2.2.1.toNat) % a.2.2.1.toNat) (by omega) (by omega) (by omega)
        have ev' : max (numV a d (i / (a.2.1.toNat * a.2.2.1.toNat)) (i % (a.2.1.toNat * a.2.2.1.toNat) / a.2.2.1.toNat) (i % (a.2.1.toNat * a.2.2.1.toNat) % a.2.2.1.toNat)) a.2.2.2 = v := ev
        omega
    have T := all_relu a _ hfr
    have hT : allL a.1.toNat a.2.1.toNat a.2.2.1.toNat (fun y x c => max (numV a (allL a.1.toNat a.2.1.toNat a.2.2.1.toNat (fun y x c => max (numV a d y x c) a.2.2.2)) y x c) a.2.2.2) = allL a.1.toNat a.2.1.toNat a.2.2.1.toNat (fun y x c => max (numV a d y x c) a.2.2.2) :=
      allL_congr fun y x c hy hx hc => by
        rw [num_all hH hW hC _ hy hx hc]
        omega
    rw [hT] at T
    have hmt : mayB (a.2.1, a.1, a.2.2.1) = true := by rw [mayB_iff]; simp only; omega
    have hst : sizeV (a.2.1, a.1, a.2.2.1) = sizeV (vS a) := by
      unfold sizeV
      rw [if_pos hmt, if_pos hd.may]
      simp only [vS]
      rw [Int.mul_comm a.2.1 a.1]
    have P := all_reshape a d hd (a.2.1, a.1, a.2.2.1) hmt hst
    have M := one_pool 4 (.inl rfl) a d hd
    have A := one_pool 5 (.inr rfl) a d hd
    have hr14 : law05_KernKeeps_r14_p ([a, a], (d, e), true) (allL a.1.toNat a.2.1.toNat a.2.2.1.toNat (fun y x c => max (numV a d y x c) a.2.2.2), 0) (allL a.1.toNat a.2.1.toNat a.2.2.1.toNat (fun y x c => max (numV a d y x c) a.2.2.2), 0) (d, 0) (d, 0) (d, 0) = false := by
      simp [law05_KernKeeps_r14_p, law05_KernKeeps_r14_q, allL_len, hlenD]
    have sR := same_refl (allL a.1.toNat a.2.1.toNat a.2.2.1.toNat (fun y x c => max (numV a d y x c) a.2.2.2)) (by rw [allL_len]; omega)
    have sD := same_refl d (by omega)
    have hloop : iterN (law05_KernKeeps_l17_p ([a, a], (d, e), true) a.2.2.2 (allL a.1.toNat a.2.1.toNat a.2.2.1.toNat (fun y x c => max (numV a d y x c) a.2.2.2), 0)) LL 0 = some (.inl ((a.1.toNat * (a.2.1.toNat * a.2.2.1.toNat) : Nat) : Int)) :=
      iterN_for (p := law05_KernKeeps_l17_p ([a, a], (d, e), true) a.2.2.2 (allL a.1.toNat a.2.1.toNat a.2.2.1.toNat (fun y x c => max (numV a d y x c) a.2.2.2), 0)) (z := .inl ((a.1.toNat * (a.2.1.toNat * a.2.2.1.toNat) : Nat) : Int)) (a.1.toNat * (a.2.1.toNat * a.2.2.1.toNat)) (fun i => (i : Int)) LL (LL_lt (by omega)) (fun i hi => by
        obtain ⟨u1, u2, u3, u4⟩ := allL_get (fun y x c => max (numV a d y x c) a.2.2.2) hi
        obtain ⟨v1, _⟩ := allL_get (numV a d) hi
        rw [all_num hd hH hW hC] at v1
        have hdi := gt_i8 hd.bytes (i : Int) (by omega) (by omega)
        have t1 : decide ((0 : Int) ≤ (i : Int)) = true := decide_eq_true (by omega)
        have t2 : decide ((i : Int) < ((a.1.toNat * (a.2.1.toNat * a.2.2.1.toNat) : Nat) : Int)) = true := decide_eq_true (by omega)
        have t4 := i64_in ((i : Int) + 1) (by omega)
        have hr19 : law05_KernKeeps_r19_p ([a, a], (d, e), true) a.2.2.2 (allL a.1.toNat a.2.1.toNat a.2.2.1.toNat (fun y x c => max (numV a d y x c) a.2.2.2), 0) (i : Int) = some false := by
          unfold law05_KernKeeps_r19_p
          simp only [allL_len, hlenD, t1, t2, cond_true, u1]
          rw [← v1, i64_in (max (gt d (i : Int) 0) a.2.2.2) (by omega), i64_in (gt d (i : Int) 0) (by omega)]
          simp
        unfold law05_KernKeeps_l17_p
        simp only [allL_len, t2, hr19, cond_true, Option.bind_some, cond_false, t4]
        rfl) (by
        unfold law05_KernKeeps_l17_p
        simp only [allL_len]
        rw [decide_eq_false (Int.lt_irrefl _)]
        rfl)
    rw [hp]
    simp only [Bool.not_true, cond_false, Option.bind_some, hr5, hr6, hr7, e1, R, T, P, M, A, hr14, hloop, either]
    rcases pad_part a d e hd with h | h
    · rw [h]
      simp only [Option.bind_some, either, sR, sD]
      rfl
    · rw [h]
      simp only [Option.bind_some, either, sR, sD]
      rfl
end Go.V.P
