/- Plain laws of layer 5: what a node makes of all its numbers, told at once. -/
import Derived.Test.YtdgdgoekapekpaaLNd2
import Derived.Test.YtdgdgoekapekpaaEr1
namespace Go.V.P
open Go Go.V Go.IntWalk
set_option linter.unusedVariables false
set_option linter.unusedSimpArgs false
set_option maxRecDepth 20000
theorem gt_mem' {α : Type} {l : List α} {i : Nat} (h : i < l.length) (d : α) : gt l (i : Int) d ∈ l := by
  unfold gt
  rw [show ((i : Int).toNat) = i by omega, List.getD_eq_getElem?_getD, List.getElem?_eq_getElem h]
  exact List.getElem_mem h
theorem range_cat {α : Type} (a b : Nat) (G : Nat → α) : (List.range (a + b)).map G = (List.range a).map G ++ (List.range b).map (fun j => G (a + j)) := by
  rw [List.range_add, List.map_append, List.map_map]
  rfl
/-- the numbers of a row -/
def rowL (W C : Nat) (F : Nat → Nat → Int) : List Int := (List.range (W * C)).map fun i => F (i / C) (i % C)
theorem rowL_succ (W C : Nat) (F : Nat → Nat → Int) (hC : 0 < C) : rowL (W + 1) C F = rowL W C F ++ (List.range C).map (F W) := by
  unfold rowL
  rw [Nat.succ_mul, range_cat]
  congr 1
  apply List.map_congr_left
  intro j hj
  have hj := List.mem_range.1 hj
  show F ((W * C + j) / C) ((W * C + j) % C) = F W j
  rw [Nat.add_comm, Nat.add_mul_div_right _ _ hC, Nat.div_eq_of_lt hj, Nat.zero_add, Nat.add_mul_mod_self_right, Nat.mod_eq_of_lt hj]
theorem rowL_len (W C : Nat) (F : Nat → Nat → Int) : (rowL W C F).length = W * C := by unfold rowL; simp
/-- a place of a row: who makes it, the panes, what is made -/
abbrev rowP (y : Int) (Y : Node × (Int × Int × Int × Int × Int × Int × Int × (List Int) × pane) × (I4 × Int)) (s s2 : List Int × Int) : Option (List Int) := kern_Row_r21_p Y.1 y Y.2.1 Y.2.2 s s2
/-- the columns and channels of a row, one by one -/
theorem cols_run (r : Int) (z : I4 × Int) {n : Node} {Y : Int × Int × Int × Int × Int × Int × Int × (List Int) × pane} (W C : Nat) (hW : z.1.2.1 = W) (hC : z.1.2.2.1 = C) (bW : W ≤ 16) (bC : 1 ≤ C ∧ C ≤ 8) (F : Nat → Nat → Int)
    (H : ∀ (x c : Nat), x < W → c < C → ∀ (s s2 : List Int × Int), s.2 = x → s2.2 = c → s2.1.length < 3000 → kern_Row_r21_p n r Y z s s2 = some (s2.1 ++ [F x c])) :
    iterN (kern_Row_l16_p n r Y z) LL ([], 0) = some (rowL W C F, (W : Int)) := by
  have inner : ∀ (x : Nat) (s : List Int × Int), x < W → s.2 = x → s.1.length < 2500 → iterN (kern_Row_l19_p n r Y z s) LL (s.1, 0) = some (s.1 ++ (List.range C).map (F x), (C : Int)) := fun x s hx hs hl => by
    have := iterN_for (p := kern_Row_l19_p n r Y z s) (z := (s.1 ++ (List.range C).map (F x), (C : Int))) C (fun j => (s.1 ++ (List.range j).map (F x), (j : Int))) LL (LL_lt (by omega)) (fun j hj => by
      unfold kern_Row_l19_p
      simp only [hC]
      rw [decide_eq_true (by omega : (j : Int) < (C : Int)), H x j hx hj s (s.1 ++ (List.range j).map (F x), (j : Int)) hs rfl (by simp only [List.length_append, List.length_map, List.length_range]; omega), i64_in ((j : Int) + 1) (by omega)]
      simp only [cond_true, Option.bind_some]
      rw [List.range_succ, List.map_append, ← List.append_assoc]
      rfl) (by
      unfold kern_Row_l19_p
      simp only [hC]
      rw [decide_eq_false (Int.lt_irrefl _)]
      rfl)
    simp only [List.range_zero, List.map_nil, List.append_nil] at this
    exact this
  have := iterN_for (p := kern_Row_l16_p n r Y z) (z := (rowL W C F, (W : Int))) W (fun j => (rowL j C F, (j : Int))) LL (LL_lt (by omega)) (fun j hj => by
    unfold kern_Row_l16_p
    have hj8 : j * C ≤ 16 * 8 := Nat.mul_le_mul (by omega) bC.2
    simp only [hW]
    rw [decide_eq_true (by omega : (j : Int) < (W : Int)), inner j (rowL j C F, (j : Int)) hj rfl (by rw [rowL_len]; omega), i64_in ((j : Int) + 1) (by omega)]
    simp only [cond_true, Option.bind_some]
    rw [rowL_succ _ _ _ (by omega)]
    rfl) (by
    unfold kern_Row_l16_p
    simp only [hW]
    rw [decide_eq_false (Int.lt_irrefl _)]
    rfl)
  have h0 : rowL 0 C F = [] := by unfold rowL; simp
  rw [h0] at this
  exact this
/-- a value and all its numbers -/
def paneV (a : I4) (d : List Int) : pane := (a.1, a.2.1, a.2.2.1, a.2.2.2, 0, a.1, d)
theorem fits_all {n : Node} {l : List I4} {z : I4} (h : NodeOK n l z) {r : Int} (h1 : 0 ≤ r) (h2 : r < z.1) {a : I4} (ha : a ∈ l) (d : List Int) (hd : (d.length : Int) = sizeV (vS a)) :
    kern_fits a (0, a.1, d) (ndV n r 1 a.1) = some true := by
  have hb := nd_in h (first := r) (rows := 1) h1 (by omega) (by omega) ha
  have hr := rowV_in (vS a)
  have hs := sizeV_in (vS a)
  have hsr : sizeV (vS a) = a.1 * rowV (vS a) := sizeV_row _
  have w1 := i64_in a.1 (by omega)
  have w2 := i64_in (a.1 * rowV (vS a)) (by omega)
  have e2 : kern_fits_r2_p a (0, a.1, d) = some false := by
    unfold kern_fits_r2_p
    have er : shape_Row (a.1, a.2.1, a.2.2.1) = some (rowV (vS a)) := shape_Row_eq _
    simp only [er]
    rw [i64_in (a.1 - 0) (by omega), decide_eq_false (by omega), decide_eq_false (by omega), decide_eq_false (by omega)]
    simp only [cond_false, Option.bind_some, w2]
    rw [hd, hsr]
    simp
  have e4 : kern_fits_r4_p (0, a.1, d) (ndV n r 1 a.1) = true := by
    simp only [kern_fits_r4_p, kern_fits_r4_q, Int.zero_add, w1]
    by_cases hc : (ndV n r 1 a.1).1 = (ndV n r 1 a.1).2
    · rw [show ((ndV n r 1 a.1).1 == (ndV n r 1 a.1).2) = true by simpa using hc]; rfl
    · rw [show ((ndV n r 1 a.1).1 == (ndV n r 1 a.1).2) = false by simpa using hc, decide_eq_true (by omega), decide_eq_true (by omega)]
      rfl
  unfold kern_fits
  rw [e2]
  simp only [Option.bind_some, cond_false, e4]
/-- what is known of the numbers that a node is made of -/
def dataOK (l : List I4) (d : List Int × List Int) : Prop := match l with
  | [a] => (d.1.length : Int) = sizeV (vS a)
  | [a, b] => (d.1.length : Int) = sizeV (vS a) ∧ (d.2.length : Int) = sizeV (vS b)
  | _ => False
/-- the second value, if there is one -/
def pane2 (l : List I4) (d : List Int × List Int) : pane := match l with
  | [_, b] => paneV b d.2
  | _ => (0, 0, 0, 0, 0, 0, [])
def fst4 (l : List I4) : I4 := match l with
  | a :: _ => a
  | [] => (0, 0, 0, 0)
def wins (l : List I4) (d : List Int × List Int) : Int × Int × List Int × Int × Int × List Int := match l with
  | [a] => (0, a.1, d.1, 0, 0, [])
  | [a, b] => (0, a.1, d.1, 0, b.1, d.2)
  | _ => (0, 0, [], 0, 0, [])
theorem panes_run {n : Node} {l : List I4} {z : I4} (h : NodeOK n l z) (d : List Int × List Int) (hd : dataOK l d) {r : Int} (h1 : 0 ≤ r) (h2 : r < z.1) :
    iterN (kern_Row_l6_p l (wins l d) (nd2 n r 1 l, 0)) LL (0, 0, 0, 0, 0, 0, 0, [], 0, 0, 0, 0, 0, 0, []) = some (.inl ((l.length : Int), (fst4 l).1, (fst4 l).2.1, (fst4 l).2.2.1, (fst4 l).2.2.2, 0, (fst4 l).1, d.1, pane2 l d)) := by
  rcases h.len with hh | hh
  · obtain ⟨a, rfl⟩ := List.length_eq_one_iff.1 hh
    have f0 := fits_all h h1 h2 (a := a) (by simp) d.1 hd
    exact iterN_for (p := kern_Row_l6_p [a] (wins [a] d) (nd2 n r 1 [a], 0)) (z := .inl (1, a.1, a.2.1, a.2.2.1, a.2.2.2, 0, a.1, d.1, (0, 0, 0, 0, 0, 0, []))) 1 (fun i => match i with | 0 => ((0 : Int), (0 : Int), (0 : Int), (0 : Int), (0 : Int), (0 : Int), (0 : Int), ([] : List Int), (0 : Int), (0 : Int), (0 : Int), (0 : Int), (0 : Int), (0 : Int), ([] : List Int)) | _ => (1, a.1, a.2.1, a.2.2.1, a.2.2.2, 0, a.1, d.1, (0, 0, 0, 0, 0, 0, []))) LL (LL_lt (by omega)) (fun i hi => by
      have : i = 0 := by omega
      subst this
      have e8 : kern_Row_r8_p [a] (wins [a] d) (nd2 n r 1 [a], 0) (0, 0, 0, 0, 0, 0, 0, [], 0, 0, 0, 0, 0, 0, []) = Option.bind (kern_fits a (0, a.1, d.1) (ndV n r 1 a.1)) fun y => some (!y) := rfl
      rw [f0] at e8
      simp only [kern_Row_l6_p, e8]
      rfl) rfl
  · obtain ⟨a, b, rfl⟩ := len2 hh
    have f0 := fits_all h h1 h2 (a := a) (by simp) d.1 hd.1
    have f1 := fits_all h h1 h2 (a := b) (by simp) d.2 hd.2
    exact iterN_for (p := kern_Row_l6_p [a, b] (wins [a, b] d) (nd2 n r 1 [a, b], 0)) (z := .inl (2, a.1, a.2.1, a.2.2.1, a.2.2.2, 0, a.1, d.1, paneV b d.2)) 2 (fun i => match i with | 0 => ((0 : Int), (0 : Int), (0 : Int), (0 : Int), (0 : Int), (0 : Int), (0 : Int), ([] : List Int), (0 : Int), (0 : Int), (0 : Int), (0 : Int), (0 : Int), (0 : Int), ([] : List Int)) | 1 => (1, a.1, a.2.1, a.2.2.1, a.2.2.2, 0, a.1, d.1, (0, 0, 0, 0, 0, 0, [])) | _ => (2, a.1, a.2.1, a.2.2.1, a.2.2.2, 0, a.1, d.1, paneV b d.2)) LL (LL_lt (by omega)) (fun i hi => by
      have : i = 0 ∨ i = 1 := by omega
      rcases this with rfl | rfl
      · have e8 : kern_Row_r8_p [a, b] (wins [a, b] d) (nd2 n r 1 [a, b], 0) (0, 0, 0, 0, 0, 0, 0, [], 0, 0, 0, 0, 0, 0, []) = Option.bind (kern_fits a (0, a.1, d.1) (ndV n r 1 a.1)) fun y => some (!y) := rfl
        rw [f0] at e8
        simp only [kern_Row_l6_p, e8]
        rfl
      · have e8 : kern_Row_r8_p [a, b] (wins [a, b] d) (nd2 n r 1 [a, b], 0) (1, a.1, a.2.1, a.2.2.1, a.2.2.2, 0, a.1, d.1, (0, 0, 0, 0, 0, 0, [])) = Option.bind (kern_fits b (0, b.1, d.2) (ndV n r 1 b.1)) fun y => some (!y) := rfl
        rw [f1] at e8
        simp only [kern_Row_l6_p, e8]
        rfl) rfl
/-- how a node makes its numbers: chosen by its op -/
abbrev chosen (n : Node) (l : List I4) (d : List Int × List Int) (z : I4) := ((n, ((l.length : Int), (fst4 l).1, (fst4 l).2.1, (fst4 l).2.2.1, (fst4 l).2.2.2, (0 : Int), (fst4 l).1, d.1, pane2 l d), ((z, 0) : I4 × Int)) : Node × (Int × Int × Int × Int × Int × Int × Int × (List Int) × pane) × (I4 × Int))
theorem Row_run {n : Node} {l : List I4} {z : I4} (hB : (nB n).length < 1000000) (hl : l.length < 1000000) (hv : ref03_Value n l = some (z, 0)) (d : List Int × List Int) (hd : dataOK l d) (W C : Nat) (hW : z.2.1 = W) (hC : z.2.2.1 = C) (F : Nat → Nat → Int) {r : Int} (h1 : 0 ≤ r) (h2 : r < z.1)
    (H : ∀ (x c : Nat), x < W → c < C → ∀ (s s2 : List Int × Int), s.2 = x → s2.2 = c → s2.1.length < 3000 → rowP r (chosen n l d z) s s2 = some (s2.1 ++ [F x c])) :
    kern_Row n l (wins l d) r = some (rowL W C F, 0) := by
  have h := value_ok hl hB hv
  have hmz := mayB_iff.1 h.may
  simp only [vS] at hmz
  obtain ⟨v, e1, e2⟩ := Value_eq n l hl hB
  have : v = (z, 0) := Option.some.inj (e2.symm.trans hv)
  subst this
  have hn := Needs_run hB hl hv h1 (rows := 1) (by omega) (by omega)
  have hc := cols_run r (z, 0) (n := n) (Y := (chosen n l d z).2.1) W C hW hC (by omega) (by omega) F H
  unfold kern_Row
  rw [hn]
  simp only [Option.bind_some, bne_self_eq_false, cond_false]
  rw [panes_run h d hd h1 h2]
  simp only [Option.bind_some, either, e1]
  rw [hc]
  rfl
/-- all numbers that a node makes -/
def allL (H W C : Nat) (F : Nat → Nat → Nat → Int) : List Int := (List.range (H * (W * C))).map fun i => F (i / (W * C)) (i % (W * C) / C) (i % (W * C) % C)
theorem allL_succ (H W C : Nat) (F : Nat → Nat → Nat → Int) (h : 0 < W * C) : allL (H + 1) W C F = allL H W C F ++ rowL W C (F H) := by
  unfold allL rowL
  rw [Nat.succ_mul, range_cat]
  congr 1
  apply List.map_congr_left
  intro j hj
  have hj := List.mem_range.1 hj
  show F ((H * (W * C) + j) / (W * C)) ((H * (W * C) + j) % (W * C) / C) ((H * (W * C) + j) % (W * C) % C) = F H (j / C) (j % C)
  rw [Nat.add_comm, Nat.add_mul_div_right _ _ h, Nat.div_eq_of_lt hj, Nat.zero_add, Nat.add_mul_mod_self_right, Nat.mod_eq_of_lt hj]
theorem allL_len (H W C : Nat) (F : Nat → Nat → Nat → Int) : (allL H W C F).length = H * (W * C) := by unfold allL; simp
theorem allL_congr {H W C : Nat} {F G : Nat → Nat → Nat → Int} (h : ∀ y x c, y < H → x < W → c < C → F y x c = G y x c) : allL H W C F = allL H W C G := by
  unfold allL
  apply List.map_congr_left
  intro i hi
  have hi := List.mem_range.1 hi
  have hpos : 0 < W * C := by
    cases hz : W * C with
    | zero => rw [hz] at hi; omega
    | succ k => omega
  have hCpos : 0 < C := Nat.pos_of_ne_zero (fun h0 => by rw [h0] at hpos; omega)
  exact h _ _ _ (Nat.div_lt_of_lt_mul (by rw [Nat.mul_comm]; exact hi)) (Nat.div_lt_of_lt_mul (by rw [Nat.mul_comm C W]; exact Nat.mod_lt _ hpos)) (Nat.mod_lt _ hCpos)
/-- the number at a row, a column and a channel -/
theorem allL_at (H W C : Nat) (F : Nat → Nat → Nat → Int) (y x c : Nat) (hy : y < H) (hx : x < W) (hc : c < C) (i : Nat) (hi : i = (y * W + x) * C + c) : gt (allL H W C F) (i : Int) 0 = F y x c ∧ i < H * (W * C) := by
  have e : i = (x * C + c) + y * (W * C) := by rw [hi, Nat.add_mul, Nat.mul_assoc]; omega
  have hxc : x * C + c < W * C := by
    have : (x + 1) * C ≤ W * C := Nat.mul_le_mul_right C hx
    rw [Nat.succ_mul] at this
    omega
  have hlt : i < H * (W * C) := by
    have : (y + 1) * (W * C) ≤ H * (W * C) := Nat.mul_le_mul_right _ hy
    rw [Nat.succ_mul] at this
    omega
  refine ⟨?_, hlt⟩
  unfold gt allL
  rw [show ((i : Int).toNat) = i by omega, List.getD_eq_getElem?_getD, List.getElem?_map, List.getElem?_range hlt]
  show F (i / (W * C)) (i % (W * C) / C) (i % (W * C) % C) = F y x c
  rw [e, Nat.add_mul_div_right _ _ (by omega), Nat.div_eq_of_lt hxc, Nat.zero_add, Nat.add_mul_mod_self_right, Nat.mod_eq_of_lt hxc, Nat.add_comm (x * C) c, Nat.add_mul_div_right _ _ (by omega), Nat.div_eq_of_lt hc, Nat.zero_add, Nat.add_mul_mod_self_right, Nat.mod_eq_of_lt hc]
theorem wins_run {n : Node} {l : List I4} {z : I4} (h : NodeOK n l z) (d : List Int × List Int) : ∃ w : Int × Int × List Int × Int × List Int, iterN (kern_All_l6_p l d) LL (0, 0, [], 0, []) = some w ∧ wins l d = (0, w.2.1, w.2.2.1, 0, w.2.2.2.1, w.2.2.2.2) := by
  rcases h.len with hh | hh
  · obtain ⟨a, rfl⟩ := List.length_eq_one_iff.1 hh
    refine ⟨(1, a.1, d.1, 0, []), iterN_for (p := kern_All_l6_p [a] d) (z := (1, a.1, d.1, 0, [])) 1 (fun i => match i with | 0 => ((0 : Int), (0 : Int), ([] : List Int), (0 : Int), ([] : List Int)) | _ => (1, a.1, d.1, 0, [])) LL (LL_lt (by omega)) (fun i hi => ?_) rfl, rfl⟩
    have : i = 0 := by omega
    subst this
    rfl
  · obtain ⟨a, b, rfl⟩ := len2 hh
    refine ⟨(2, a.1, d.1, b.1, d.2), iterN_for (p := kern_All_l6_p [a, b] d) (z := (2, a.1, d.1, b.1, d.2)) 2 (fun i => match i with | 0 => ((0 : Int), (0 : Int), ([] : List Int), (0 : Int), ([] : List Int)) | 1 => (1, a.1, d.1, 0, []) | _ => (2, a.1, d.1, b.1, d.2)) LL (LL_lt (by omega)) (fun i hi => ?_) rfl, rfl⟩
    have : i = 0 ∨ i = 1 := by omega
    rcases this with rfl | rfl <;> rfl
/-- what a node makes of all its numbers, by what it makes at each place -/
theorem All_run {n : Node} {l : List I4} {z : I4} (hB : (nB n).length < 1000000) (hl : l.length < 1000000) (hv : ref03_Value n l = some (z, 0)) (d : List Int × List Int) (hd : dataOK l d) (H W C : Nat) (hH : z.1 = H) (hW : z.2.1 = W) (hC : z.2.2.1 = C) (F : Nat → Nat → Nat → Int)
    (hF : ∀ (y x c : Nat), y < H → x < W → c < C → ∀ (s s2 : List Int × Int), s.2 = x → s2.2 = c → s2.1.length < 3000 → rowP (y : Int) (chosen n l d z) s s2 = some (s2.1 ++ [F y x c])) :
    kern_All n l d = some (allL H W C F, 0) := by
  have h := value_ok hl hB hv
  have hmz := mayB_iff.1 h.may
  simp only [vS] at hmz
  obtain ⟨v, e1, e2⟩ := Value_eq n l hl hB
  have : v = (z, 0) := Option.some.inj (e2.symm.trans hv)
  subst this
  obtain ⟨w, w1, w2⟩ := wins_run h d
  have hWC : W * C ≤ 16 * 8 := Nat.mul_le_mul (by omega) (by omega)
  have hpos : 0 < W * C := Nat.mul_pos (by omega) (by omega)
  have hall : iterN (kern_All_l12_p n l (z, 0) w) LL ([], 0) = some (.inl (allL H W C F, (H : Int))) := by
    have h0 : allL 0 W C F = [] := by unfold allL; simp
    have := iterN_for (p := kern_All_l12_p n l (z, 0) w) (z := .inl (allL H W C F, (H : Int))) H (fun j => (allL j W C F, (j : Int))) LL (LL_lt (by omega)) (fun j hj => by
      have hr := Row_run hB hl hv d hd W C hW hC (F j) (r := (j : Int)) (by omega) (by omega) (fun x c hx hc => hF j x c hj hx hc)
      have hlen : j * (W * C) ≤ 16 * (16 * 8) := Nat.mul_le_mul (by omega) hWC
      unfold kern_All_l12_p
      rw [w2] at hr
      simp only [hH]
      rw [decide_eq_true (by omega : (j : Int) < (H : Int)), hr]
      simp only [cond_true, Option.bind_some, bne_self_eq_false, cond_false, kern_All_r17_p, allL_len, rowL_len]
      rw [decide_eq_true (by unfold maxL; omega), i64_in ((j : Int) + 1) (by omega)]
      simp only [cond_true, Option.bind_some]
      rw [allL_succ _ _ _ _ hpos]
      rfl) (by
      unfold kern_All_l12_p
      simp only [hH]
      rw [decide_eq_false (Int.lt_irrefl _)]
      rfl)
    rw [h0] at this
    exact this
  unfold kern_All
  rw [e1]
  simp only [Option.bind_some, bne_self_eq_false, cond_false, w1, hall, either]
end Go.V.P
