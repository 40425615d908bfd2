/- Plain laws of layer 5: at each place of each node that may be, the document makes what the code makes. -/
import Derived.Test.YtdgdgoekapekpaaGreatLRefP
namespace Go.V.P
open Go Go.V Go.IntWalk
set_option linter.unusedVariables false
set_option linter.unusedSimpArgs false
set_option maxRecDepth 20000
theorem number_out {a : I4} {d : List Int} {y x c : Int} (hc2 : a.2.2.1 ≤ c) : ref05_number a (0, a.1, d) y x c = some a.2.2.2 := by
  have hr : ref05_number_r2_p a y x c = true := by
    show (bif decide (y < 0) then true else bif decide (y ≥ a.1) then true else bif decide (x < 0) then true else bif decide (x ≥ a.2.1) then true else bif decide (c < 0) then true else decide (c ≥ a.2.2.1)) = _
    rw [decide_eq_true (show c ≥ a.2.2.1 from hc2)]
    cases decide (y < 0) <;> cases decide (y ≥ a.1) <;> cases decide (x < 0) <;> cases decide (x ≥ a.2.1) <;> cases decide (c < 0) <;> rfl
  unfold ref05_number
  rw [hr]
  rfl
section
variable {a : I4} {d : List Int} (h : Full a d) (n : Node) (d2 : List Int) (s : I3) (y x c : Int)
theorem win1 : ((wins [a] (d, d2)).1, (wins [a] (d, d2)).2.1, (wins [a] (d, d2)).2.2.1) = ((0 : Int), a.1, d) := rfl
include h
theorem one_relu' (ho : n.1 = 8) (h0 : 0 ≤ c) (h1 : c < a.2.2.1) : ref05_one n [a] (wins [a] (d, d2)) s y x c = kern_made_1 y x c (paneV a d) n := by
  rw [one_relu n a _ s y x c ho, win1, number_eq h h0 h1]
  unfold kern_made_1
  rw [pane_at_eq h h0 h1]
  simp only [Option.bind_some]
  rw [show (paneV a d).2.2.2.1 = a.2.2.2 from rfl, (at_back h h0 h1).2]
theorem one_pad' (ho : n.1 = 9) (h0 : 0 ≤ c) (h1 : c < a.2.2.1) : ref05_one n [a] (wins [a] (d, d2)) s y x c = kern_made_2 y x c (paneV a d) := by
  rw [one_pad n a _ s y x c ho, win1, number_eq h h0 h1]
  unfold kern_made_2
  rw [pane_at_eq h h0 h1]
  simp only [Option.bind_some]
  rw [show (paneV a d).2.2.2.1 = a.2.2.2 from rfl, (at_back h h0 h1).2]
theorem one_table' (ho : n.1 = 12) (h0 : 0 ≤ c) (h1 : c < a.2.2.1) : ref05_one n [a] (wins [a] (d, d2)) s y x c = kern_made_5 y x c n (paneV a d) := by
  rw [one_table n a _ s y x c ho, win1, number_eq h h0 h1]
  unfold kern_made_5 kern_made_5_r1_p
  rw [pane_at_eq h h0 h1]
  simp only [Option.bind_some]
  rw [show (paneV a d).2.2.2.1 = a.2.2.2 from rfl, (at_back h h0 h1).2]
  unfold ref05_one_r27_p
  generalize decide ((0 : Int) ≤ IntKind.wrap .i64 (atV a d y x c + a.2.2.2 + 128)) = b1
  generalize decide (IntKind.wrap .i64 (atV a d y x c + a.2.2.2 + 128) < (n.2.2.2.2.2.2.2.2.2.2.2.2.1.length : Int)) = b2
  cases b1 <;> cases b2 <;> rfl
omit h in
theorem one_reshape' (z : I4) (hz : mayB (vS z) = true) (ho : n.1 = 11) (hy : 0 ≤ y ∧ y < z.1) (hx : 0 ≤ x ∧ x < z.2.1) (hc : 0 ≤ c ∧ c < z.2.2.1) : ref05_one n [a] (wins [a] (d, d2)) (vS z) y x c = kern_made_4 y x c (paneV a d) z := by
  have hl := mayB_iff.1 hz
  simp only [vS] at hl
  have ei := index_in' (vS z) y x c hz hy hx hc
  have hi := idx_in (H := z.1) (W := z.2.1) (C := z.2.2.1) (y := y) (x := x) (c := c) (by omega) (by omega) (by omega) hy.1 hy.2 hx.1 hx.2 hc.1 hc.2
  rw [one_reshape n a _ (vS z) y x c ho]
  unfold kern_made_4 kern_made_4_r1_p ref05_one_r25_p
  rw [show ((z.1, z.2.1, z.2.2.1) : I3) = vS z from rfl, ei]
  have w1 := i64_in (y * z.2.1) (by omega)
  have w2 := i64_in (y * z.2.1 + x) (by omega)
  have w3 := i64_in ((y * z.2.1 + x) * z.2.2.1) (by omega)
  have w4 := i64_in ((y * z.2.1 + x) * z.2.2.1 + c) (by omega)
  simp only [vS, w1, w2, w3, w4, Option.bind_some]
  show (bif decide ((0 : Int) ≤ (y * z.2.1 + x) * z.2.2.1 + c) then bif decide ((y * z.2.1 + x) * z.2.2.1 + c < (d.length : Int)) then some (IntKind.wrap .i64 (gt d ((y * z.2.1 + x) * z.2.2.1 + c) 0)) else none else none) = Option.bind (bif decide ((0 : Int) ≤ (y * z.2.1 + x) * z.2.2.1 + c) then bif decide ((y * z.2.1 + x) * z.2.2.1 + c < (d.length : Int)) then some (IntKind.wrap .i64 (gt d ((y * z.2.1 + x) * z.2.2.1 + c) 0)) else none else none) fun y656 => some y656
  rw [Option.bind_fun_some]
variable {e : I4} (he : Full e d2)
omit h in
theorem win2 : ((wins [a, e] (d, d2)).1, (wins [a, e] (d, d2)).2.1, (wins [a, e] (d, d2)).2.2.1) = ((0 : Int), a.1, d) := rfl
omit h in
theorem win3 : (wins [a, e] (d, d2)).2.2.2 = ((0 : Int), e.1, d2) := rfl
include he
theorem one_pair' (ho : n.1 = 6 ∨ n.1 = 7) (h0 : 0 ≤ c) (h1 : c < a.2.2.1) (h2 : c < e.2.2.1) : ref05_one n [a, e] (wins [a, e] (d, d2)) s y x c = kern_pair_1 y x c (paneV a d) (paneV e d2) n := by
  have b1 := at_in h (y := y) (x := x) h0 h1
  have b2 := at_in he (y := y) (x := x) h0 h2
  have z2 := he.zero
  rw [one_pair n a e _ s y x c ho, win2, win3, number_eq h h0 h1, number_eq he h0 h2]
  unfold kern_pair_1 kern_pair_1_r1_p
  rw [pane_at_eq h h0 h1, pane_at_eq he h0 h2]
  simp only [Option.bind_some, (at_back h h0 h1).1, (at_back he h0 h2).1, fixed_Scale_eq, ref01_Scale_eq]
  have w1 := i64_in (atV a d y x c + (atV e d2 y x c + e.2.2.2)) (by omega)
  have w2 : IntKind.wrap .i64 (IntKind.wrap .i64 (atV a d y x c + (atV e d2 y x c + e.2.2.2)) - e.2.2.2) = IntKind.wrap .i64 (atV a d y x c + atV e d2 y x c) := by
    rw [w1, show atV a d y x c + (atV e d2 y x c + e.2.2.2) - e.2.2.2 = atV a d y x c + atV e d2 y x c by omega]
  rw [w2]
  cases (n.1 == 7) <;> rfl
theorem one_concat' (ho : n.1 = 10) (h0 : 0 ≤ c) (h2 : c < a.2.2.1 + e.2.2.1) : ref05_one n [a, e] (wins [a, e] (d, d2)) s y x c = kern_made_3 y x c (paneV a d) a.1 a.2.1 a.2.2.1 a.2.2.2 0 a.1 d e.1 e.2.1 e.2.2.1 e.2.2.2 0 e.1 d2 := by
  have hl := h.lim
  have hle := he.lim
  have hr1 : kern_made_3_r1_p (paneV a d) = some () := by
    unfold kern_made_3_r1_p
    rw [show ((paneV a d).2.2.1 == 0) = false by show (a.2.2.1 == 0) = false; simp only [beq_eq_false_iff_ne]; omega]
    rfl
  have hC : (paneV a d).2.2.1 = a.2.2.1 := rfl
  have hq : IntKind.wrap .i64 (Int.tdiv c a.2.2.1) = c / a.2.2.1 := by
    have := i64_quo ((c.toNat : Nat) : Int) a.2.2.1 (by omega)
    rw [show ((c.toNat : Nat) : Int) = c by omega] at this
    exact this
  rw [one_concat n a e _ s y x c ho, win2, win3]
  unfold kern_made_3
  rw [hr1]
  simp only [Option.bind_some, hC, hq]
  by_cases hlt : c < a.2.2.1
  · rw [number_eq h h0 hlt, Int.ediv_eq_zero_of_lt h0 hlt, decide_eq_false (show ¬ c ≥ a.2.2.1 by omega), pane_at_eq h h0 hlt]
    simp only [beq_self_eq_true, cond_true, cond_false, Option.bind_some]
    rw [show (paneV a d).2.2.2.1 = a.2.2.2 from rfl, (at_back h h0 hlt).2]
  · have hdiv : 1 ≤ c / a.2.2.1 := by
      have := Int.ediv_le_ediv (show 0 < a.2.2.1 by omega) (show a.2.2.1 ≤ c by omega)
      rw [Int.ediv_self (by omega)] at this
      exact this
    have hw := i64_in (c - a.2.2.1) (by omega)
    have g := pane_at_eq he (y := y) (x := x) (c := c - a.2.2.1) (by omega) (by omega)
    have g' : kern_pane_at (e.1, e.2.1, e.2.2.1, e.2.2.2, 0, e.1, d2) y x (c - a.2.2.1) = some (atV e d2 y x (c - a.2.2.1)) := g
    rw [number_out (show a.2.2.1 ≤ c by omega), decide_eq_true (show c ≥ a.2.2.1 by omega), show (c / a.2.2.1 == 0) = false by simp only [beq_eq_false_iff_ne]; omega, hw, g', number_eq he (c := c - a.2.2.1) (by omega) (by omega)]
    simp only [cond_true, cond_false, Option.bind_some]
    rw [(at_back he (by omega) (by omega)).2]
end
/-- who makes a place: the document does as the code does -/
theorem one_eq {n : Node} {l : List I4} {z : I4} (hB : (nB n).length < 1000000) (hl : l.length < 1000000) (hv : ref03_Value n l = some (z, 0)) (d : List Int × List Int) (hd : FullL l d)
    (y x c : Nat) (hy : (y : Int) < z.1) (hx : (x : Int) < z.2.1) (hc : (c : Int) < z.2.2.1) :
    ∃ o, (∀ s s2 : List Int × Int, s.2 = (x : Int) → s2.2 = (c : Int) → rowP (y : Int) (chosen n l d z) s s2 = Option.bind o (pushV s2)) ∧ ref05_one n l (wins l d) (vS z) (y : Int) (x : Int) (c : Int) = o := by
  have h := value_ok hl hB hv
  have hmz := mayB_iff.1 h.may
  simp only [vS] at hmz
  obtain ⟨f1, f2, f3, f4⟩ := nodeF n _ h.node
  rcases f4 with ⟨g1, g2⟩ | ⟨g1, g2⟩
  · obtain ⟨a, e, rfl⟩ := len2 (show l.length = 2 by omega)
    have ha := hd.1
    have he := hd.2
    have hla := ha.lim
    have hle := he.lim
    obtain ⟨q1, q2⟩ := made2 n a e _ h.made h.may
    by_cases h10 : n.1 = 10
    · obtain ⟨u1, u2, u3⟩ := q2 h10
      simp only [vS, Prod.mk.injEq] at u3
      obtain ⟨u3, u4, u5⟩ := u3
      rw [i64_in _ (by omega)] at u5
      exact ⟨_, fun s s2 e1 e2 => by rw [pix_concat _ _ _ _ _ _ _ h10, e1, e2]; rfl, one_concat' ha n d.2 (vS z) y x c he h10 (by omega) (by omega)⟩
    · have h67 : n.1 = 6 ∨ n.1 = 7 := by omega
      obtain ⟨u1, u2⟩ := q1 h67
      have ue := (Prod.mk.inj u1)
      have ue2 := Prod.mk.inj ue.2
      have ve := Prod.mk.inj u2
      have ve2 := Prod.mk.inj ve.2
      exact ⟨_, fun s s2 e1 e2 => by rw [pix_pair _ _ _ _ _ _ _ h67, e1, e2]; rfl, one_pair' ha n d.2 (vS z) y x c he h67 (by omega) (by omega) (by omega)⟩
  · obtain ⟨a, rfl⟩ := List.length_eq_one_iff.1 (show l.length = 1 by omega)
    have ha : Full a d.1 := hd
    have hla := ha.lim
    obtain ⟨q1, q2, q3, q4, q5, q6⟩ := made1 n a _ h.made h.may
    have hcases : n.1 = 1 ∨ n.1 = 2 ∨ n.1 = 3 ∨ n.1 = 4 ∨ n.1 = 5 ∨ n.1 = 8 ∨ n.1 = 9 ∨ n.1 = 11 ∨ n.1 = 12 := by omega
    have win := fun hw : wop n.1 => win_of h hw (a := a) (by simp)
    have pool : ∀ ho : n.1 = 4 ∨ n.1 = 5, ref05_one n [a] (wins [a] d) (vS z) (y : Int) (x : Int) (c : Int) = kern_pool_1 (y : Int) (x : Int) (c : Int) n (paneV a d.1) := fun ho => by
      have hw : wop n.1 := ho.elim (fun ho => .inr (.inr (.inl ho))) (fun ho => .inr (.inr (.inr ho)))
      have hf := f2 hw
      have u := q2 (by omega)
      simp only [vS, Prod.mk.injEq] at u
      have hP : n.2.2.2.2.1 = 0 := pool_pad n _ h.node ho
      have hwa := (win hw).1
      have hwb : winB a.2.1 n.2.2.1 n.2.2.2.1 n.2.2.2.2.1 = true := winB_iff.2 (by omega)
      have o1 := outs_in hwa (by omega) y (by omega) hP
      have o2 := outs_in hwb (by omega) x (by omega) hP
      have hKn := nat_of (show 0 ≤ n.2.2.1 by omega)
      have hSn := nat_of (show 0 ≤ n.2.2.2.1 by omega)
      rw [one_pool n a _ (vS z) y x c ho]
      exact pool_eq ha n ho n.2.2.1.toNat n.2.2.2.1.toNat y x c hKn hSn (by omega) (by omega) (by rw [Int.natCast_add, Int.natCast_mul, ← hKn, ← hSn]; exact o1) (by rw [Int.natCast_add, Int.natCast_mul, ← hKn, ← hSn]; exact o2) (by omega)
    rcases hcases with ho | ho | ho | ho | ho | ho | ho | ho | ho
    · exact ⟨_, fun s s2 e1 e2 => by rw [pix_conv _ _ _ _ _ _ _ (.inl ho), e1, e2]; rfl, one_conv ha n d.2 (vS z) y x c (.inl ho) (by omega) (by omega)⟩
    · have u := q2 (.inl ho)
      simp only [vS, Prod.mk.injEq] at u
      exact ⟨_, fun s s2 e1 e2 => by rw [pix_conv _ _ _ _ _ _ _ (.inr ho), e1, e2]; rfl, one_conv ha n d.2 (vS z) y x c (.inr ho) (by omega) (by omega)⟩
    · exact ⟨_, fun s s2 e1 e2 => by rw [pix_full _ _ _ _ _ _ _ ho, e1, e2]; rfl, one_full ha n d.2 (vS z) y x c ho⟩
    · exact ⟨_, fun s s2 e1 e2 => by rw [pix_pool _ _ _ _ _ _ _ (.inl ho), e1, e2]; rfl, pool (.inl ho)⟩
    · exact ⟨_, fun s s2 e1 e2 => by rw [pix_pool _ _ _ _ _ _ _ (.inr ho), e1, e2]; rfl, pool (.inr ho)⟩
    · have u := q4 (.inl ho)
      have ue := Prod.mk.inj u
      have ue2 := Prod.mk.inj ue.2
      exact ⟨_, fun s s2 e1 e2 => by rw [pix_relu _ _ _ _ _ _ _ ho, e1, e2]; rfl, one_relu' ha n d.2 (vS z) y x c ho (by omega) (by omega)⟩
    · have u := q5 ho
      have ue := Prod.mk.inj u
      have ue2 := Prod.mk.inj ue.2
      exact ⟨_, fun s s2 e1 e2 => by rw [pix_pad _ _ _ _ _ _ _ ho, e1, e2]; rfl, one_pad' ha n d.2 (vS z) y x c ho (by omega) (by omega)⟩
    · exact ⟨_, fun s s2 e1 e2 => by rw [pix_reshape _ _ _ _ _ _ _ ho, e1, e2]; rfl, one_reshape' n d.2 y x c z h.may ho ⟨by omega, hy⟩ ⟨by omega, hx⟩ ⟨by omega, hc⟩⟩
    · have u := q4 (.inr ho)
      have ue := Prod.mk.inj u
      have ue2 := Prod.mk.inj ue.2
      exact ⟨_, fun s s2 e1 e2 => by rw [pix_table _ _ _ _ _ _ _ ho, e1, e2]; rfl, one_table' ha n d.2 (vS z) y x c ho (by omega) (by omega)⟩
end Go.V.P
