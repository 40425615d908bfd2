/- Plain laws of layer 5: the document's rows, and all its numbers, are the code's. -/
import Derived.Test.YtdgdgoekapekpaaGreatLRefO
import Derived.Test.YtdgdgoekapekpaaGreatLNeeds4
import Derived.Test.YtdgdgoekapekpaaGreatEc2
namespace Go.V.P
open Go Go.V Go.IntWalk
set_option linter.unusedVariables false
set_option linter.unusedSimpArgs false
set_option maxRecDepth 20000
theorem rfits_all {n : Node} {l : List I4} {z : I4} (h : NodeOK n l z) {r : Int} (h1 : 0 ≤ r) (h2 : r < z.1) {a : I4} (ha : a ∈ l) (d : List Int) (hd : (d.length : Int) = sizeV (vS a)) :
    ref05_fits a (0, a.1, d) (ndV n r 1 a.1).1 (ndV n r 1 a.1).2 = true := by
  have hb := nd_in h (first := r) (rows := 1) h1 (by omega) (by omega) ha
  have hr := rowV_in (vS a)
  have hs := sizeV_in (vS a)
  have hsr : sizeV (vS a) = a.1 * rowV (vS a) := sizeV_row _
  have w1 := i64_in a.1 (by omega)
  have w2 := i64_in (a.1 * rowV (vS a)) (by omega)
  have er : ref02_Row (a.1, a.2.1, a.2.2.1) = rowV (vS a) := ref02_Row_eq _
  have e2 : ref05_fits_r1_p a (0, a.1, d) = false := by
    show (bif decide ((0 : Int) < 0) then true else bif decide (a.1 < 0) then true else bif decide ((0 : Int) > a.1) then true else bif decide (a.1 > IntKind.wrap .i64 (a.1 - 0)) then true else ((d.length : Int) != IntKind.wrap .i64 (a.1 * ref02_Row (a.1, a.2.1, a.2.2.1)))) = false
    rw [er, w2, i64_in (a.1 - 0) (by omega), decide_eq_false (by omega), decide_eq_false (by omega), decide_eq_false (by omega), hd, hsr]
    simp
  have e4 : ref05_fits_r3_p (0, a.1, d) (ndV n r 1 a.1).1 (ndV n r 1 a.1).2 = true := by
    show (bif (ndV n r 1 a.1).1 == (ndV n r 1 a.1).2 then true else bif decide ((0 : Int) ≤ (ndV n r 1 a.1).1) then decide ((ndV n r 1 a.1).2 ≤ IntKind.wrap .i64 (0 + a.1)) else false) = true
    rw [Int.zero_add, w1]
    by_cases hc : (ndV n r 1 a.1).1 = (ndV n r 1 a.1).2
    · rw [show ((ndV n r 1 a.1).1 == (ndV n r 1 a.1).2) = true by simpa using hc]; rfl
    · rw [show ((ndV n r 1 a.1).1 == (ndV n r 1 a.1).2) = false by simpa using hc, decide_eq_true (by omega), decide_eq_true (by omega)]
      rfl
  show (bif ref05_fits_r1_p a (0, a.1, d) then false else ref05_fits_r3_p (0, a.1, d) (ndV n r 1 a.1).1 (ndV n r 1 a.1).2) = true
  rw [e2, e4]
  rfl
theorem rpanes_run {n : Node} {l : List I4} {z : I4} (h : NodeOK n l z) (d : List Int × List Int) (hd : dataOK l d) {r : Int} (h1 : 0 ≤ r) (h2 : r < z.1) :
    iterN (ref05_Row_l5_p l (wins l d) (nd2 n r 1 l, 0)) LL 0 = some (.inl (l.length : Int)) := by
  rcases h.len with hh | hh
  · obtain ⟨a, rfl⟩ := List.length_eq_one_iff.1 hh
    have f0 := rfits_all h h1 h2 (a := a) (by simp) d.1 hd
    exact iterN_for (p := ref05_Row_l5_p [a] (wins [a] d) (nd2 n r 1 [a], 0)) (z := .inl 1) 1 (fun i => (i : Int)) LL (LL_lt (by omega)) (fun i hi => by
      have : i = 0 := by omega
      subst this
      have e8 : ref05_Row_r7_p [a] (wins [a] d) (nd2 n r 1 [a], 0) ((0 : Nat) : Int) = some (!ref05_fits a (0, a.1, d.1) (ndV n r 1 a.1).1 (ndV n r 1 a.1).2) := rfl
      rw [f0] at e8
      simp only [ref05_Row_l5_p, e8]
      rfl) rfl
  · obtain ⟨a, b, rfl⟩ := len2 hh
    have f0 := rfits_all h h1 h2 (a := a) (by simp) d.1 hd.1
    have f1 := rfits_all h h1 h2 (a := b) (by simp) d.2 hd.2
    exact iterN_for (p := ref05_Row_l5_p [a, b] (wins [a, b] d) (nd2 n r 1 [a, b], 0)) (z := .inl 2) 2 (fun i => (i : Int)) LL (LL_lt (by omega)) (fun i hi => by
      have : i = 0 ∨ i = 1 := by omega
      rcases this with rfl | rfl
      · have e8 : ref05_Row_r7_p [a, b] (wins [a, b] d) (nd2 n r 1 [a, b], 0) ((0 : Nat) : Int) = some (!ref05_fits a (0, a.1, d.1) (ndV n r 1 a.1).1 (ndV n r 1 a.1).2) := rfl
        rw [f0] at e8
        simp only [ref05_Row_l5_p, e8]
        rfl
      · have e8 : ref05_Row_r7_p [a, b] (wins [a, b] d) (nd2 n r 1 [a, b], 0) ((1 : Nat) : Int) = some (!ref05_fits b (0, b.1, d.2) (ndV n r 1 b.1).1 (ndV n r 1 b.1).2) := rfl
        rw [f1] at e8
        simp only [ref05_Row_l5_p, e8]
        rfl) rfl
/-- the columns and channels of a row, one by one -/
theorem rcols_run (r : Int) (z : I4 × Int) {n : Node} {l : List I4} {w : Int × Int × List Int × Int × Int × List Int} (W C : Nat) (hW : z.1.2.1 = W) (hC : z.1.2.2.1 = C) (bW : W ≤ 16) (bC : 1 ≤ C ∧ C ≤ 8) (F : Nat → Nat → Int)
    (H : ∀ (x c : Nat), x < W → c < C → ∀ (s s2 : List Int × Int), s.2 = x → s2.2 = c → s2.1.length < 3000 → ref05_Row_r17_p n l w r z s s2 = some (s2.1 ++ [F x c])) :
    iterN (ref05_Row_l12_p n l w r z) LL ([], 0) = some (rowL W C F, (W : Int)) := by
  have inner : ∀ (x : Nat) (s : List Int × Int), x < W → s.2 = x → s.1.length < 2500 → iterN (ref05_Row_l15_p n l w r z s) LL (s.1, 0) = some (s.1 ++ (List.range C).map (F x), (C : Int)) := fun x s hx hs hl => by
    have := iterN_for (p := ref05_Row_l15_p n l w r z s) (z := (s.1 ++ (List.range C).map (F x), (C : Int))) C (fun j => (s.1 ++ (List.range j).map (F x), (j : Int))) LL (LL_lt (by omega)) (fun j hj => by
      unfold ref05_Row_l15_p
      simp only [hC]
      rw [decide_eq_true (by omega : (j : Int) < (C : Int)), H x j hx hj s (s.1 ++ (List.range j).map (F x), (j : Int)) hs rfl (by simp only [List.length_append, List.length_map, List.length_range]; omega), i64_in ((j : Int) + 1) (by omega)]
      simp only [cond_true, Option.bind_some]
      rw [List.range_succ, List.map_append, ← List.append_assoc]
      rfl) (by
      unfold ref05_Row_l15_p
      simp only [hC]
      rw [decide_eq_false (Int.lt_irrefl _)]
      rfl)
    simp only [List.range_zero, List.map_nil, List.append_nil] at this
    exact this
  have := iterN_for (p := ref05_Row_l12_p n l w r z) (z := (rowL W C F, (W : Int))) W (fun j => (rowL j C F, (j : Int))) LL (LL_lt (by omega)) (fun j hj => by
    unfold ref05_Row_l12_p
    have hj8 : j * C ≤ 16 * 8 := Nat.mul_le_mul (by omega) bC.2
    simp only [hW]
    rw [decide_eq_true (by omega : (j : Int) < (W : Int)), inner j (rowL j C F, (j : Int)) hj rfl (by rw [rowL_len]; omega), i64_in ((j : Int) + 1) (by omega)]
    simp only [cond_true, Option.bind_some]
    rw [rowL_succ _ _ _ (by omega)]
    rfl) (by
    unfold ref05_Row_l12_p
    simp only [hW]
    rw [decide_eq_false (Int.lt_irrefl _)]
    rfl)
  have h0 : rowL 0 C F = [] := by unfold rowL; simp
  rw [h0] at this
  exact this
theorem RRow_run {n : Node} {l : List I4} {z : I4} (hB : (nB n).length < 1000000) (hl : l.length < 1000000) (hv : ref03_Value n l = some (z, 0)) (d : List Int × List Int) (hd : FullL l d) (W C : Nat) (hW : z.2.1 = W) (hC : z.2.2.1 = C) (F : Nat → Nat → Int) (r : Nat) (h2 : (r : Int) < z.1)
    (H : ∀ (x c : Nat), x < W → c < C → Pix n l d z r x c (F x c)) :
    ref05_Row n l (wins l d) (r : Int) = some (rowL W C F, 0) := by
  have h := value_ok hl hB hv
  have hmz := mayB_iff.1 h.may
  simp only [vS] at hmz
  have hn := Needs_run hB hl hv (first := (r : Int)) (rows := 1) (by omega) (by omega) (by omega)
  obtain ⟨v, e1, e2⟩ := Needs_eq n l (r : Int) 1 hl hB
  rw [hn] at e1
  rw [← Option.some.inj e1] at e2
  have hc := rcols_run (r : Int) (z, 0) (n := n) (l := l) (w := wins l d) W C hW hC (by omega) (by omega) F (fun x c hx hc s s2 e1 e2 e3 => by
    obtain ⟨p1, p2⟩ := H x c hx hc
    obtain ⟨o, o1, o2⟩ := one_eq hB hl hv d hd r x c h2 (by omega) (by omega)
    have q := p2 ([], (x : Int)) ([], (c : Int)) rfl rfl (by simp)
    rw [o1 ([], (x : Int)) ([], (c : Int)) rfl rfl] at q
    cases o with
    | none => simp at q
    | some u =>
      rw [Option.bind_some, push_ok _ u (by simp)] at q
      have q2 : IntKind.wrap .i8 u = F x c := by simpa using q
      unfold ref05_Row_r17_p
      rw [e1, e2, show (((z, (0 : Int)) : I4 × Int).1.1, ((z, (0 : Int)) : I4 × Int).1.2.1, ((z, (0 : Int)) : I4 × Int).1.2.2.1) = vS z from rfl, o2, Option.bind_some, q2, decide_eq_true (by simp only [List.length_singleton]; unfold maxL; omega)]
      rfl)
  unfold ref05_Row
  rw [e2]
  simp only [Option.bind_some, bne_self_eq_false, cond_false]
  rw [rpanes_run h d hd.data (by omega) h2]
  simp only [Option.bind_some, either, hv]
  rw [hc]
  rfl
theorem rwins_run {n : Node} {l : List I4} {z : I4} (h : NodeOK n l z) (d : List Int × List Int) : ∃ w : Int × Int × List Int × Int × List Int, iterN (ref05_All_l6_p l d) LL (0, 0, [], 0, []) = some w ∧ wins l d = (0, w.2.1, w.2.2.1, 0, w.2.2.2.1, w.2.2.2.2) := by
  rcases h.len with hh | hh
  · obtain ⟨a, rfl⟩ := List.length_eq_one_iff.1 hh
    refine ⟨(1, a.1, d.1, 0, []), iterN_for (p := ref05_All_l6_p [a] d) (z := (1, a.1, d.1, 0, [])) 1 (fun i => match i with | 0 => ((0 : Int), (0 : Int), ([] : List Int), (0 : Int), ([] : List Int)) | _ => (1, a.1, d.1, 0, [])) LL (LL_lt (by omega)) (fun i hi => ?_) rfl, rfl⟩
    have : i = 0 := by omega
    subst this
    rfl
  · obtain ⟨a, b, rfl⟩ := len2 hh
    refine ⟨(2, a.1, d.1, b.1, d.2), iterN_for (p := ref05_All_l6_p [a, b] d) (z := (2, a.1, d.1, b.1, d.2)) 2 (fun i => match i with | 0 => ((0 : Int), (0 : Int), ([] : List Int), (0 : Int), ([] : List Int)) | 1 => (1, a.1, d.1, 0, []) | _ => (2, a.1, d.1, b.1, d.2)) LL (LL_lt (by omega)) (fun i hi => ?_) rfl, rfl⟩
    have : i = 0 ∨ i = 1 := by omega
    rcases this with rfl | rfl <;> rfl
/-- what a node makes of all its numbers, by the document -/
theorem RAll_run {n : Node} {l : List I4} {z : I4} (hB : (nB n).length < 1000000) (hl : l.length < 1000000) (hv : ref03_Value n l = some (z, 0)) (d : List Int × List Int) (hd : FullL l d) (H W C : Nat) (hH : z.1 = H) (hW : z.2.1 = W) (hC : z.2.2.1 = C) (F : Nat → Nat → Nat → Int)
    (hF : ∀ (y x c : Nat), y < H → x < W → c < C → Pix n l d z y x c (F y x c)) :
    ref05_All n l d = some (allL H W C F, 0) := by
  have h := value_ok hl hB hv
  have hmz := mayB_iff.1 h.may
  simp only [vS] at hmz
  obtain ⟨w, w1, w2⟩ := rwins_run h d
  have hWC : W * C ≤ 16 * 8 := Nat.mul_le_mul (by omega) (by omega)
  have hpos : 0 < W * C := Nat.mul_pos (by omega) (by omega)
  have hall : iterN (ref05_All_l11_p n l (z, 0) w) LL ([], 0) = some (.inl (allL H W C F, (H : Int))) := by
    have h0 : allL 0 W C F = [] := by unfold allL; simp
    have := iterN_for (p := ref05_All_l11_p n l (z, 0) w) (z := .inl (allL H W C F, (H : Int))) H (fun j => (allL j W C F, (j : Int))) LL (LL_lt (by omega)) (fun j hj => by
      have hr := RRow_run hB hl hv d hd W C hW hC (F j) j (by omega) (fun x c hx hc => hF j x c hj hx hc)
      have hlen : j * (W * C) ≤ 16 * (16 * 8) := Nat.mul_le_mul (by omega) hWC
      unfold ref05_All_l11_p
      rw [w2] at hr
      simp only [hH]
      rw [decide_eq_true (by omega : (j : Int) < (H : Int)), hr]
      simp only [cond_true, Option.bind_some, bne_self_eq_false, cond_false, ref05_All_r16_p, allL_len, rowL_len]
      rw [decide_eq_true (by unfold maxL; omega), i64_in ((j : Int) + 1) (by omega)]
      simp only [cond_true, Option.bind_some]
      rw [allL_succ _ _ _ _ hpos]
      rfl) (by
      unfold ref05_All_l11_p
      simp only [hH]
      rw [decide_eq_false (Int.lt_irrefl _)]
      rfl)
    rw [h0] at this
    exact this
  unfold ref05_All
  rw [hv]
  simp only [Option.bind_some, bne_self_eq_false, cond_false, w1, hall, either]
/-- the document and the code make the same of each node that may be -/
theorem RAll_eq {n : Node} {l : List I4} {z : I4} (hB : (nB n).length < 1000000) (hl : l.length < 1000000) (hv : ref03_Value n l = some (z, 0)) (d : List Int × List Int) (hd : FullL l d) (w8 : i8s (nW n)) (b32 : ∀ v ∈ nB n, -2147483648 ≤ v ∧ v ≤ 2147483647) : ref05_All n l d = kern_All n l d := by
  obtain ⟨F, f1, f2, f3⟩ := All_total hB hl hv d hd w8 b32
  have h := value_ok hl hB hv
  have hmz := mayB_iff.1 h.may
  simp only [vS] at hmz
  have hH := nat_of (show 0 ≤ z.1 by omega)
  have hW := nat_of (show 0 ≤ z.2.1 by omega)
  have hC := nat_of (show 0 ≤ z.2.2.1 by omega)
  rw [f1, RAll_run hB hl hv d hd z.1.toNat z.2.1.toNat z.2.2.1.toNat hH hW hC F (fun y x c hy hx hc => f3 y x c (by omega) (by omega) (by omega))]
end Go.V.P
