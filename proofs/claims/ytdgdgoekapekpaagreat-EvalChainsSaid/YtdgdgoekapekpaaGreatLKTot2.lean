/- Plain laws of layer 5: every node that may be makes as many numbers as its value has. -/
import Derived.Test.YtdgdgoekapekpaaGreatLKTot
namespace Go.V.P
open Go Go.V Go.IntWalk
set_option linter.unusedVariables false
set_option linter.unusedSimpArgs false
set_option maxRecDepth 20000
/-- numbers of each of a node's values -/
def FullL (l : List I4) (d : List Int × List Int) : Prop := match l with
  | [a] => Full a d.1
  | [a, b] => Full a d.1 ∧ Full b d.2
  | _ => False
theorem FullL.data {l : List I4} {d : List Int × List Int} (h : FullL l d) : dataOK l d := by
  match l, h with
  | [a], h => exact h.len
  | [a, b], h => exact ⟨h.1.len, h.2.len⟩
theorem FullL.fst {l : List I4} {d : List Int × List Int} (h : FullL l d) : Full (fst4 l) d.1 := by
  match l, h with
  | [a], h => exact h
  | [a, b], h => exact h.1
/-- what a place comes to: a byte, laid behind the others -/
def Pix (n : Node) (l : List I4) (d : List Int × List Int) (z : I4) (y x c : Nat) (v : Int) : Prop :=
  (-128 ≤ v ∧ v ≤ 127) ∧ ∀ s s2 : List Int × Int, s.2 = (x : Int) → s2.2 = (c : Int) → s2.1.length < 3000 → rowP (y : Int) (chosen n l d z) s s2 = some (s2.1 ++ [v])
theorem pool_tot {a : I4} {d : List Int} (h : Full a d) (n : Node) (ho : n.1 = 4 ∨ n.1 = 5) (k S y x c : Nat) (hK : n.2.2.1 = (k : Int)) (hS : n.2.2.2.1 = (S : Int)) (hk : 1 ≤ k ∧ k ≤ 3) (hS2 : 1 ≤ S ∧ S ≤ 2) (hy : ((y * S + k : Nat) : Int) ≤ a.1) (hx : ((x * S + k : Nat) : Int) ≤ a.2.1) (hc : (c : Int) < a.2.2.1) :
    ∃ v, kern_pool_1 (y : Int) (x : Int) (c : Int) n (paneV a d) = some v ∧ -128 ≤ v ∧ v ≤ 127 := by
  have hl := h.lim
  have hz := h.zero
  obtain ⟨M, T, e, w⟩ := win_run h n k S y x c hk hS hS2 hy hx hc
  have hn : ∀ i j, i < k → j < k → -128 ≤ numV a d (y * S + i) (x * S + j) c ∧ numV a d (y * S + i) (x * S + j) c ≤ 127 := fun i j hi hj => num_in h (by omega) (by omega) hc
  have hkk : 1 ≤ (k : Int) * (k : Int) ∧ (k : Int) * (k : Int) ≤ 9 := by
    have : k = 1 ∨ k = 2 ∨ k = 3 := by omega
    rcases this with rfl | rfl | rfl <;> omega
  have hM : -128 ≤ M + a.2.2.2 ∧ M + a.2.2.2 ≤ 127 := by
    obtain ⟨i0, j0, u1, u2, u3⟩ := w.at_
    have := hn i0 j0 u1 u2
    omega
  have hT1 := w.up (127 - a.2.2.2) (fun i j hi hj => by have := hn i j hi hj; omega)
  have hT2 := w.lo (-128 - a.2.2.2) (fun i j hi hj => by have := hn i j hi hj; omega)
  clear w
  rw [Int.mul_sub] at hT1 hT2
  generalize hKK : (k : Int) * (k : Int) = K at *
  have hp : -1152 ≤ K * a.2.2.2 ∧ K * a.2.2.2 ≤ 1152 := by
    have h := Int.natAbs_mul K a.2.2.2
    have h2 : K.natAbs * a.2.2.2.natAbs ≤ 9 * 128 := Nat.mul_le_mul (by omega) (by omega)
    omega
  unfold kern_pool_1
  rw [hK, e]
  simp only [Option.bind_some]
  rw [show (paneV a d).2.2.2.1 = a.2.2.2 from rfl, hKK]
  rcases ho with h4 | h5
  · rw [show (n.1 == 4) = true by simpa using h4, i64_in (M + a.2.2.2) (by omega)]
    exact ⟨_, rfl, hM⟩
  · rw [show (n.1 == 4) = false by simp [h5], i64_in K (by omega), i64_in (K * a.2.2.2) (by omega), i64_in (T + K * a.2.2.2) (by omega), fixed_Div_eq (by omega) (by omega) (by omega), show max K 1 = K by omega]
    refine ⟨_, rfl, ?_, ?_⟩
    · have h2 := rnd_mono (x := (-128) * K) (y := T + K * a.2.2.2) (b := K) hkk.1 (by rw [Int.mul_comm (-128)]; omega)
      rw [rnd_mul hkk.1] at h2
      exact h2
    · have h2 := rnd_mono (x := T + K * a.2.2.2) (y := 127 * K) (b := K) hkk.1 (by rw [Int.mul_comm 127]; omega)
      rw [rnd_mul hkk.1] at h2
      exact h2
theorem outs_in {H : Int} {k S P : Int} (hw : winB H k S P = true) (hz : 1 ≤ outV H k S P) (y : Nat) (hy : (y : Int) < outV H k S P) (hP : P = 0) : (y : Int) * S + k ≤ H := by
  have := (out_iff hw (y : Int) (by omega)).1 hy
  omega
theorem index_in' (s : I3) (y x c : Int) (hs : mayB s = true) (h1 : 0 ≤ y ∧ y < s.1) (h2 : 0 ≤ x ∧ x < s.2.1) (h3 : 0 ≤ c ∧ c < s.2.2) : shape_Index s y x c = some ((y * s.2.1 + x) * s.2.2 + c) := by
  have hl := mayB_iff.1 hs
  have hi := idx_in (H := s.1) (W := s.2.1) (C := s.2.2) (by omega) (by omega) (by omega) h1.1 h1.2 h2.1 h2.2 h3.1 h3.2
  unfold shape_Index
  have e : ∀ h : Int, 1 ≤ h → h ≤ 16 → IntKind.wrap .i64 (h - 1) = h - 1 := fun h a b => i64_in _ (by omega)
  have hw : ∀ x h : Int, 0 ≤ x → x < h → shape_within_1 [x] (((shape_within (0 : Int) (h - 1)).1).1) (((shape_within (0 : Int) (h - 1)).2.1).1) = some true := fun x h a b => by
    have : (((shape_within (0 : Int) (h - 1)).1).1) = 0 := rfl
    rw [this]
    have : (((shape_within (0 : Int) (h - 1)).2.1).1) = h - 1 := rfl
    rw [this, within1]
    have : inB 0 (h - 1) x = true := inB_iff.2 (by omega)
    rw [this]
  have hr : shape_Index_r1_p s y x c = some false := by
    unfold shape_Index_r1_p
    rw [shape_may_eq, hs, e s.1 (by omega) (by omega), e s.2.1 (by omega) (by omega), e s.2.2 (by omega) (by omega), hw y s.1 h1.1 h1.2, hw x s.2.1 h2.1 h2.2, hw c s.2.2 h3.1 h3.2]
    rfl
  rw [hr]
  simp only [Option.bind_some, cond_false, shape_Index_r3_p, shape_Index_r3_q]
  rw [i64_in (y * s.2.1) (by omega), i64_in (y * s.2.1 + x) (by omega), i64_in ((y * s.2.1 + x) * s.2.2) (by omega), i64_in _ (by omega)]
theorem pool_pad (n : Node) (k : Int) (h : ref03_node n k = true) (ho : n.1 = 4 ∨ n.1 = 5) : n.2.2.2.2.1 = 0 := by
  obtain ⟨op, i, K, S, P, O, M, Sh, Z, t1, t2, t3, W, B⟩ := n
  simp only at ho
  rcases ho with rfl | rfl <;>
    simp [ref03_node, ref03_node_q, ref03_node_r17_p, ref03_node_r17_q, ref03_node_r16_p, ref03_node_r16_q, ref03_node_r15_p, ref03_node_r15_q, ref03_node_j13_p, ref03_node_j13_q, ref03_node_r13_p, ref03_node_r13_q, ref03_node_j10_p, ref03_node_j10_q, ref03_node_j8_p, ref03_node_j8_q, ref03_node_r9_p, ref03_node_r9_q, ref03_node_r8_p, ref03_node_r8_q, ref03_node_j5_p, ref03_node_j5_q, ref03_node_r6_p, ref03_node_r6_q, ref03_node_r4_p, ref03_node_r4_q, ref03_node_j2_p, ref03_node_j2_q, ref03_Two, ref03_Two_q, ref03_Two_r1_p, ref03_Two_r1_q, ref03_Window, ref03_Window_q, ref03_Window_r1_p, ref03_Window_r1_q, in_iff] at h ⊢ <;> omega
/-- every place of every node that may be -/
theorem pix_any {n : Node} {l : List I4} {z : I4} (hB : (nB n).length < 1000000) (hl : l.length < 1000000) (hv : ref03_Value n l = some (z, 0)) (d : List Int × List Int) (hd : FullL l d) (w8 : i8s (nW n)) (b32 : ∀ v ∈ nB n, -2147483648 ≤ v ∧ v ≤ 2147483647)
    (y x c : Nat) (hy : (y : Int) < z.1) (hx : (x : Int) < z.2.1) (hc : (c : Int) < z.2.2.1) : ∃ v, Pix n l d z y x c v := by
  have h := value_ok hl hB hv
  have hmz := mayB_iff.1 h.may
  simp only [vS] at hmz
  obtain ⟨f1, f2, f3, f4⟩ := nodeF n _ h.node
  obtain ⟨w, b, m1, m2, m3, m4⟩ := Value_more n l z hl hB hv
  have hbias := bias_in m4 b32
  have hZ : -128 ≤ nZ n ∧ nZ n ≤ 127 := by
    have hn := h.node
    have : ref03_node_r16_p n = true := by
      simp only [ref03_node, ref03_node_q, ref03_node_r17_p, ref03_node_r17_q, Bool.cond_false_right, Bool.and_eq_true] at hn
      exact hn.2.2.2.2.2.2
    simp only [ref03_node_r16_p, ref03_node_r16_q, Bool.cond_false_right, Bool.and_eq_true, in_iff] at this
    exact this.2.2
  have done1 : ∀ (o : Option Int), (∃ v, o = some v ∧ -128 ≤ v ∧ v ≤ 127) → (∀ s s2 : List Int × Int, s.2 = (x : Int) → s2.2 = (c : Int) → rowP (y : Int) (chosen n l d z) s s2 = Option.bind o (pushV s2)) → ∃ v, Pix n l d z y x c v := fun o ⟨v, v1, v2⟩ ho => ⟨v, v2, fun s s2 e1 e2 e3 => by
    rw [ho s s2 e1 e2, v1]
    exact push8' s2 e3 v v2⟩
  rcases f4 with ⟨g1, g2⟩ | ⟨g1, g2⟩
  · obtain ⟨a, e, rfl⟩ := len2 (show l.length = 2 by omega)
    have ha := hd.1
    have he := hd.2
    have hla := ha.lim
    have hle := he.lim
    have hza := ha.zero
    have hze := he.zero
    obtain ⟨q1, q2⟩ := made2 n a e _ h.made h.may
    by_cases h10 : n.1 = 10
    · obtain ⟨u1, u2, u3⟩ := q2 h10
      simp only [vS, Prod.mk.injEq] at u3
      obtain ⟨u3, u4, u5⟩ := u3
      rw [i64_in _ (by omega)] at u5
      have key : ∃ v, kern_made_3 (y : Int) (x : Int) (c : Int) (paneV a d.1) a.1 a.2.1 a.2.2.1 a.2.2.2 0 a.1 d.1 e.1 e.2.1 e.2.2.1 e.2.2.2 0 e.1 d.2 = some v ∧ -128 ≤ v ∧ v ≤ 127 := by
        have hr1 : kern_made_3_r1_p (paneV a d.1) = some () := by
          unfold kern_made_3_r1_p
          rw [show ((paneV a d.1).2.2.1 == 0) = false by show (a.2.2.1 == 0) = false; simp only [beq_eq_false_iff_ne]; omega]
          rfl
        have hq : IntKind.wrap .i64 (Int.tdiv (c : Int) (paneV a d.1).2.2.1) = (c : Int) / a.2.2.1 := by
          show IntKind.wrap .i64 (Int.tdiv (c : Int) a.2.2.1) = _
          exact i64_quo (c : Int) a.2.2.1 (by omega)
        unfold kern_made_3
        rw [hr1]
        simp only [Option.bind_some]
        rw [hq]
        by_cases hc2 : (c : Int) < a.2.2.1
        · rw [Int.ediv_eq_zero_of_lt (by omega) hc2]
          have g := pane_at_eq ha (y := (y : Int)) (x := (x : Int)) (c := (c : Int)) (by omega) hc2
          rw [at_num ha (by omega) (by omega)] at g
          have n1 := num_in ha (y := y) (x := x) (c := c) (by omega) (by omega) hc2
          simp only [beq_self_eq_true, cond_true, g, Option.bind_some]
          refine ⟨_, rfl, ?_⟩
          show -128 ≤ IntKind.wrap .i64 (numV a d.1 y x c - a.2.2.2 + a.2.2.2) ∧ IntKind.wrap .i64 (numV a d.1 y x c - a.2.2.2 + a.2.2.2) ≤ 127
          rw [i64_in _ (by omega)]
          omega
        · have hdiv : 1 ≤ (c : Int) / a.2.2.1 := by
            have := Int.ediv_le_ediv (show 0 < a.2.2.1 by omega) (show a.2.2.1 ≤ (c : Int) by omega)
            rw [Int.ediv_self (by omega)] at this
            exact this
          rw [show ((c : Int) / a.2.2.1 == 0) = false by simp only [beq_eq_false_iff_ne]; omega]
          have ec : IntKind.wrap .i64 ((c : Int) - (paneV a d.1).2.2.1) = ((c - a.2.2.1.toNat : Nat) : Int) := by
            show IntKind.wrap .i64 ((c : Int) - a.2.2.1) = _
            rw [i64_in _ (by omega)]; omega
          have g := pane_at_eq he (y := (y : Int)) (x := (x : Int)) (c := ((c - a.2.2.1.toNat : Nat) : Int)) (by omega) (by omega)
          rw [at_num he (by omega) (by omega)] at g
          have n1 := num_in he (y := y) (x := x) (c := c - a.2.2.1.toNat) (by omega) (by omega) (by omega)
          simp only [cond_false, ec]
          have g' : kern_pane_at (e.1, e.2.1, e.2.2.1, e.2.2.2, 0, e.1, d.2) (y : Int) (x : Int) ((c - a.2.2.1.toNat : Nat) : Int) = some (numV e d.2 y x (c - a.2.2.1.toNat) - e.2.2.2) := g
          rw [g']
          simp only [Option.bind_some]
          refine ⟨_, rfl, ?_⟩
          rw [i64_in _ (by omega)]
          omega
      exact done1 _ key fun s s2 e1 e2 => by rw [pix_concat _ _ _ _ _ _ _ h10, e1, e2]; rfl
    · have h67 : n.1 = 6 ∨ n.1 = 7 := by omega
      obtain ⟨u1, u2⟩ := q1 h67
      have ue := (Prod.mk.inj u1)
      have ue2 := Prod.mk.inj ue.2
      have ve := Prod.mk.inj u2
      have ve2 := Prod.mk.inj ve.2
      have key : ∃ v, kern_pair_1 (y : Int) (x : Int) (c : Int) (paneV a d.1) (paneV e d.2) n = some v ∧ -128 ≤ v ∧ v ≤ 127 := by
        have g1 := pane_at_eq ha (y := (y : Int)) (x := (x : Int)) (c := (c : Int)) (by omega) (by omega)
        have g2 := pane_at_eq he (y := (y : Int)) (x := (x : Int)) (c := (c : Int)) (by omega) (by omega)
        unfold kern_pair_1 kern_pair_1_r1_p
        simp only [g1, g2, Option.bind_some, fixed_Scale_eq]
        cases (n.1 == 7) with
        | true => exact ⟨_, rfl, scale_in _ _ _ _⟩
        | false => exact ⟨_, rfl, scale_in _ _ _ _⟩
      exact done1 _ key fun s s2 e1 e2 => by rw [pix_pair _ _ _ _ _ _ _ h67, e1, e2]; rfl
  · obtain ⟨a, rfl⟩ := List.length_eq_one_iff.1 (show l.length = 1 by omega)
    have ha : Full a d.1 := hd
    have hla := ha.lim
    have hza := ha.zero
    obtain ⟨q1, q2, q3, q4, q5, q6⟩ := made1 n a _ h.made h.may
    have hcases : n.1 = 1 ∨ n.1 = 2 ∨ n.1 = 3 ∨ n.1 = 4 ∨ n.1 = 5 ∨ n.1 = 8 ∨ n.1 = 9 ∨ n.1 = 11 ∨ n.1 = 12 := by omega
    have hkeep : ref03_keeps n.1 = true → a.2.2.2 = nZ n := fun hk => by
      have hv2 := hv
      unfold ref03_Value at hv2
      rw [h.node] at hv2
      rcases refKeeps n [a] hl with ⟨a1, a2⟩ | ⟨a1, a2⟩
      · rw [hk] at a1
        simpa using a1
      · rw [a2] at hv2
        simp only [Bool.not_true, cond_false, Option.bind_some, either, Option.some.injEq, Prod.mk.injEq] at hv2
        exact absurd hv2.2 (by decide)
    have win := fun hw : wop n.1 => win_of h hw (a := a) (by simp)
    rcases hcases with ho | ho | ho | ho | ho | ho | ho | ho | ho
    · -- OpConv
      have hw : wop n.1 := .inl ho
      have hf := f2 hw
      have u := q1 ho
      simp only [vS, Prod.mk.injEq] at u
      have hwl : ref03_Value_r16_p n [a] = some (ref03_many n (a.1, a.2.1, a.2.2.1)) := rfl
      rw [hwl] at m1
      have hmany : ref03_many n (a.1, a.2.1, a.2.2.1) = (ref03_many_r3_p n (a.1, a.2.1, a.2.2.1), n.2.2.2.2.2.1) := by
        simp only [ref03_many, ref03_many_q]
        rw [show (n.1 == 1) = true by simpa using ho]
        rfl
      rw [hmany] at m1
      simp only [Option.some.injEq, Prod.mk.injEq] at m1
      have hw2 : w = n.2.2.1 * n.2.2.1 * a.2.2.1 * n.2.2.2.2.2.1 := by
        rw [← m1.1]
        simp only [ref03_many_r3_p, ref03_many_r3_q]
        have b1 := mul_in' (a := n.2.2.1) (b := n.2.2.1) (c := 3) (d := 3) (by omega) (by omega) (by omega) (by omega)
        have b2 := mul_in' (a := n.2.2.1 * n.2.2.1) (b := a.2.2.1) (c := 9) (d := 8) (by omega) (by omega) (by omega) (by omega)
        have b3 := mul_in' (a := n.2.2.1 * n.2.2.1 * a.2.2.1) (b := n.2.2.2.2.2.1) (c := 72) (d := 8) (by omega) (by omega) (by omega) (by omega)
        rw [i64_in (n.2.2.1 * n.2.2.1) (by omega), i64_in (n.2.2.1 * n.2.2.1 * a.2.2.1) (by omega), i64_in _ (by omega)]
      have wok : WOK n a n.2.2.2.2.2.1.toNat := by
        refine ⟨.inl ho, by omega, by omega, by omega, by omega, fun h2 => by omega, ?_, w8, by omega, hbias⟩
        rw [if_neg (by omega)]
        have e1 : ((nW n).length : Int) = ((n.2.2.1.toNat * n.2.2.1.toNat * a.2.2.1.toNat * n.2.2.2.2.2.1.toNat : Nat) : Int) := by
          rw [m2, hw2, Int.natCast_mul, Int.natCast_mul, Int.natCast_mul, ← nat_of (show 0 ≤ n.2.2.1 by omega), ← nat_of (show 0 ≤ a.2.2.1 by omega), ← nat_of (show 0 ≤ n.2.2.2.2.2.1 by omega)]
        omega
      exact done1 _ ⟨_, conv_run ha wok (y := y) (x := x) (c := c) (by omega) (by omega) (by omega), scale_in _ _ _ _⟩ fun s s2 e1 e2 => by rw [pix_conv _ _ _ _ _ _ _ (.inl ho), e1, e2]; rfl
    · -- OpDepth
      have hw : wop n.1 := .inr (.inl ho)
      have hf := f2 hw
      have u := q2 (.inl ho)
      simp only [vS, Prod.mk.injEq] at u
      have hwl : ref03_Value_r16_p n [a] = some (ref03_many n (a.1, a.2.1, a.2.2.1)) := rfl
      rw [hwl] at m1
      have hmany : ref03_many n (a.1, a.2.1, a.2.2.1) = (IntKind.wrap .i64 (IntKind.wrap .i64 (n.2.2.1 * n.2.2.1) * a.2.2.1), a.2.2.1) := by
        simp only [ref03_many, ref03_many_q]
        rw [show (n.1 == 1) = false by simp [ho], show (n.1 == 2) = true by simpa using ho]
        rfl
      rw [hmany] at m1
      simp only [Option.some.injEq, Prod.mk.injEq] at m1
      have hw2 : w = n.2.2.1 * n.2.2.1 * a.2.2.1 := by
        rw [← m1.1]
        have b1 := mul_in' (a := n.2.2.1) (b := n.2.2.1) (c := 3) (d := 3) (by omega) (by omega) (by omega) (by omega)
        have b2 := mul_in' (a := n.2.2.1 * n.2.2.1) (b := a.2.2.1) (c := 9) (d := 8) (by omega) (by omega) (by omega) (by omega)
        rw [i64_in (n.2.2.1 * n.2.2.1) (by omega), i64_in _ (by omega)]
      have wok : WOK n a a.2.2.1.toNat := by
        refine ⟨.inr ho, by omega, by omega, by omega, by omega, fun h2 => by omega, ?_, w8, by omega, hbias⟩
        rw [if_pos ho]
        have e1 : ((nW n).length : Int) = ((n.2.2.1.toNat * n.2.2.1.toNat * a.2.2.1.toNat : Nat) : Int) := by
          rw [m2, hw2, Int.natCast_mul, Int.natCast_mul, ← nat_of (show 0 ≤ n.2.2.1 by omega), ← nat_of (show 0 ≤ a.2.2.1 by omega)]
        omega
      exact done1 _ ⟨_, conv_run ha wok (y := y) (x := x) (c := c) (by omega) (by omega) (by omega), scale_in _ _ _ _⟩ fun s s2 e1 e2 => by rw [pix_conv _ _ _ _ _ _ _ (.inr ho), e1, e2]; rfl
    · -- OpFull
      have u := q3 ho
      simp only [vS, Prod.mk.injEq] at u
      have hwl : ref03_Value_r16_p n [a] = some (ref03_many n (a.1, a.2.1, a.2.2.1)) := rfl
      rw [hwl] at m1
      have hmany : ref03_many n (a.1, a.2.1, a.2.2.1) = (IntKind.wrap .i64 (ref02_Size (a.1, a.2.1, a.2.2.1) * n.2.2.2.2.2.1), n.2.2.2.2.2.1) := by
        simp only [ref03_many, ref03_many_q]
        rw [show (n.1 == 1) = false by simp [ho], show (n.1 == 2) = false by simp [ho], show (n.1 == 3) = true by simpa using ho]
        rfl
      rw [hmany, ref02_Size_eq] at m1
      simp only [Option.some.injEq, Prod.mk.injEq] at m1
      have hsz := sizeV_in (vS a)
      have hsv : sizeV (a.1, a.2.1, a.2.2.1) = sizeV (vS a) := rfl
      rw [hsv] at m1
      have b1 := mul_in' (a := sizeV (vS a)) (b := n.2.2.2.2.2.1) (c := 2048) (d := 8) (by omega) (by omega) (by omega) (by omega)
      have hw2 : w = sizeV (vS a) * (n.2.2.2.2.2.1.toNat : Int) := by
        rw [← m1.1, i64_in _ (by omega), ← nat_of (show 0 ≤ n.2.2.2.2.2.1 by omega)]
      exact done1 _ ⟨_, full_run ha n n.2.2.2.2.2.1.toNat (by omega) (by omega) w8 (by omega) hbias (y : Int) (x : Int) c (by omega), scale_in _ _ _ _⟩ fun s s2 e1 e2 => by rw [pix_full _ _ _ _ _ _ _ ho, e1, e2]; rfl
    · -- OpMax
      have hw : wop n.1 := .inr (.inr (.inl ho))
      have hf := f2 hw
      have u := q2 (.inr (.inl ho))
      simp only [vS, Prod.mk.injEq] at u
      have hP : n.2.2.2.2.1 = 0 := pool_pad n _ h.node (.inl ho)
      have hwa := (win hw).1
      have hwb : winB a.2.1 n.2.2.1 n.2.2.2.1 n.2.2.2.2.1 = true := winB_iff.2 (by omega)
      have o1 := outs_in hwa (by omega) y (by omega) hP
      have o2 := outs_in hwb (by omega) x (by omega) hP
      have hKn := nat_of (show 0 ≤ n.2.2.1 by omega)
      have hSn := nat_of (show 0 ≤ n.2.2.2.1 by omega)
      obtain ⟨v, v1, v2⟩ := pool_tot ha n (.inl ho) n.2.2.1.toNat n.2.2.2.1.toNat y x c hKn hSn (by omega) (by omega) (by rw [Int.natCast_add, Int.natCast_mul, ← hKn, ← hSn]; exact o1) (by rw [Int.natCast_add, Int.natCast_mul, ← hKn, ← hSn]; exact o2) (by omega)
      exact done1 _ ⟨v, v1, v2⟩ fun s s2 e1 e2 => by rw [pix_pool _ _ _ _ _ _ _ (.inl ho), e1, e2]; rfl
    · -- OpAvg
      have hw : wop n.1 := .inr (.inr (.inr ho))
      have hf := f2 hw
      have u := q2 (.inr (.inr ho))
      simp only [vS, Prod.mk.injEq] at u
      have hP : n.2.2.2.2.1 = 0 := pool_pad n _ h.node (.inr ho)
      have hwa := (win hw).1
      have hwb : winB a.2.1 n.2.2.1 n.2.2.2.1 n.2.2.2.2.1 = true := winB_iff.2 (by omega)
      have o1 := outs_in hwa (by omega) y (by omega) hP
      have o2 := outs_in hwb (by omega) x (by omega) hP
      have hKn := nat_of (show 0 ≤ n.2.2.1 by omega)
      have hSn := nat_of (show 0 ≤ n.2.2.2.1 by omega)
      obtain ⟨v, v1, v2⟩ := pool_tot ha n (.inr ho) n.2.2.1.toNat n.2.2.2.1.toNat y x c hKn hSn (by omega) (by omega) (by rw [Int.natCast_add, Int.natCast_mul, ← hKn, ← hSn]; exact o1) (by rw [Int.natCast_add, Int.natCast_mul, ← hKn, ← hSn]; exact o2) (by omega)
      exact done1 _ ⟨v, v1, v2⟩ fun s s2 e1 e2 => by rw [pix_pool _ _ _ _ _ _ _ (.inr ho), e1, e2]; rfl
    · -- OpRelu
      have u := q4 (.inl ho)
      have ue := Prod.mk.inj u
      have ue2 := Prod.mk.inj ue.2
      have key : ∃ v, kern_made_1 (y : Int) (x : Int) (c : Int) (paneV a d.1) n = some v ∧ -128 ≤ v ∧ v ≤ 127 := by
        have g := pane_at_eq ha (y := (y : Int)) (x := (x : Int)) (c := (c : Int)) (by omega) (by omega)
        rw [at_num ha (by omega) (by omega)] at g
        have n1 := num_in ha (y := y) (x := x) (c := c) (by omega) (by omega) (by omega)
        unfold kern_made_1
        rw [g]
        refine ⟨_, rfl, ?_⟩
        show -128 ≤ max (IntKind.wrap .i64 (numV a d.1 y x c - a.2.2.2 + a.2.2.2)) (nZ n) ∧ max (IntKind.wrap .i64 (numV a d.1 y x c - a.2.2.2 + a.2.2.2)) (nZ n) ≤ 127
        rw [i64_in _ (by omega)]
        omega
      exact done1 _ key fun s s2 e1 e2 => by rw [pix_relu _ _ _ _ _ _ _ ho, e1, e2]; rfl
    · -- OpPad
      have u := q5 ho
      have ue := Prod.mk.inj u
      have ue2 := Prod.mk.inj ue.2
      have key : ∃ v, kern_made_2 (y : Int) (x : Int) (c : Int) (paneV a d.1) = some v ∧ -128 ≤ v ∧ v ≤ 127 := by
        have g := pane_at_eq ha (y := (y : Int) - 1) (x := (x : Int) - 1) (c := (c : Int)) (by omega) (by omega)
        have hat : -128 ≤ atV a d.1 ((y : Int) - 1) ((x : Int) - 1) (c : Int) + a.2.2.2 ∧ atV a d.1 ((y : Int) - 1) ((x : Int) - 1) (c : Int) + a.2.2.2 ≤ 127 := by
          by_cases hh : 0 ≤ (y : Int) - 1 ∧ (y : Int) - 1 < a.1 ∧ 0 ≤ (x : Int) - 1 ∧ (x : Int) - 1 < a.2.1
          · have n1 := num_in ha (y := y - 1) (x := x - 1) (c := c) (by omega) (by omega) (by omega)
            have e := at_num ha (y := y - 1) (x := x - 1) (c := c) (by omega) (by omega)
            rw [show (y : Int) - 1 = ((y - 1 : Nat) : Int) by omega, show (x : Int) - 1 = ((x - 1 : Nat) : Int) by omega, e]
            omega
          · unfold atV
            rw [if_neg hh]
            omega
        unfold kern_made_2
        rw [i64_in ((y : Int) - 1) (by omega), i64_in ((x : Int) - 1) (by omega), g]
        refine ⟨_, rfl, ?_⟩
        show -128 ≤ IntKind.wrap .i64 (atV a d.1 ((y : Int) - 1) ((x : Int) - 1) (c : Int) + a.2.2.2) ∧ IntKind.wrap .i64 (atV a d.1 ((y : Int) - 1) ((x : Int) - 1) (c : Int) + a.2.2.2) ≤ 127
        rw [i64_in _ (by omega)]
        exact hat
      exact done1 _ key fun s s2 e1 e2 => by rw [pix_pad _ _ _ _ _ _ _ ho, e1, e2]; rfl
    · -- OpReshape
      have u := q6 ho
      have key : ∃ v, kern_made_4 (y : Int) (x : Int) (c : Int) (paneV a d.1) z = some v ∧ -128 ≤ v ∧ v ≤ 127 := by
        have ei := index_in' (vS z) (y : Int) (x : Int) (c : Int) h.may ⟨by omega, hy⟩ ⟨by omega, hx⟩ ⟨by omega, hc⟩
        have hi := idx_in (H := z.1) (W := z.2.1) (C := z.2.2.1) (y := (y : Int)) (x := (x : Int)) (c := (c : Int)) (by omega) (by omega) (by omega) (by omega) hy (by omega) hx (by omega) hc
        have hsz : (d.1.length : Int) = z.1 * z.2.1 * z.2.2.1 := by
          rw [ha.len, ← u]
          unfold sizeV
          rw [if_pos h.may]
        have g := gt_i8 ha.bytes (((y : Int) * z.2.1 + (x : Int)) * z.2.2.1 + (c : Int)) (by omega) (by rw [hsz]; omega)
        have hr : kern_made_4_r1_p (y : Int) (x : Int) (c : Int) (paneV a d.1) z = some (gt d.1 (((y : Int) * z.2.1 + (x : Int)) * z.2.2.1 + (c : Int)) 0) := by
          unfold kern_made_4_r1_p
          show Option.bind (shape_Index (vS z) (y : Int) (x : Int) (c : Int)) _ = _
          rw [ei]
          simp only [Option.bind_some]
          show (bif decide (0 ≤ ((y : Int) * z.2.1 + (x : Int)) * z.2.2.1 + (c : Int)) then bif decide (((y : Int) * z.2.1 + (x : Int)) * z.2.2.1 + (c : Int) < (d.1.length : Int)) then some (IntKind.wrap .i64 (gt d.1 (((y : Int) * z.2.1 + (x : Int)) * z.2.2.1 + (c : Int)) 0)) else none else none) = _
          rw [decide_eq_true (by omega), decide_eq_true (by rw [hsz]; omega), i64_in _ (by omega)]
          rfl
        unfold kern_made_4
        rw [hr]
        exact ⟨_, rfl, g⟩
      exact done1 _ key fun s s2 e1 e2 => by rw [pix_reshape _ _ _ _ _ _ _ ho, e1, e2]; rfl
    · -- OpTable
      have u := q4 (.inr ho)
      have ue := Prod.mk.inj u
      have ue2 := Prod.mk.inj ue.2
      have hwl : ref03_Value_r16_p n [a] = some (ref03_many n (a.1, a.2.1, a.2.2.1)) := rfl
      rw [hwl] at m1
      have hmany : ref03_many n (a.1, a.2.1, a.2.2.1) = (256, 0) := by
        simp only [ref03_many, ref03_many_q]
        rw [show (n.1 == 1) = false by simp [ho], show (n.1 == 2) = false by simp [ho], show (n.1 == 3) = false by simp [ho], show (n.1 == 12) = true by simpa using ho]
        rfl
      rw [hmany] at m1
      simp only [Option.some.injEq, Prod.mk.injEq] at m1
      have hlenW : ((nW n).length : Int) = 256 := by rw [m2, ← m1.1]
      have key : ∃ v, kern_made_5 (y : Int) (x : Int) (c : Int) n (paneV a d.1) = some v ∧ -128 ≤ v ∧ v ≤ 127 := by
        have g := pane_at_eq ha (y := (y : Int)) (x := (x : Int)) (c := (c : Int)) (by omega) (by omega)
        rw [at_num ha (by omega) (by omega)] at g
        have n1 := num_in ha (y := y) (x := x) (c := c) (by omega) (by omega) (by omega)
        have hg := gt_i8 w8 (numV a d.1 y x c + 128) (by omega) (by rw [hlenW]; omega)
        have w1 := i64_in (numV a d.1 y x c - a.2.2.2 + a.2.2.2) (by omega)
        have w2 := i64_in (numV a d.1 y x c - a.2.2.2 + a.2.2.2 + 128) (by omega)
        have hr : kern_made_5_r1_p (y : Int) (x : Int) (c : Int) n (paneV a d.1) = some (gt (nW n) (numV a d.1 y x c + 128) 0) := by
          unfold kern_made_5_r1_p
          rw [g]
          simp only [Option.bind_some]
          show (bif decide ((0 : Int) ≤ IntKind.wrap .i64 (IntKind.wrap .i64 (numV a d.1 y x c - a.2.2.2 + a.2.2.2) + 128)) then bif decide (IntKind.wrap .i64 (IntKind.wrap .i64 (numV a d.1 y x c - a.2.2.2 + a.2.2.2) + 128) < ((nW n).length : Int)) then some (IntKind.wrap .i64 (gt (nW n) (IntKind.wrap .i64 (IntKind.wrap .i64 (numV a d.1 y x c - a.2.2.2 + a.2.2.2) + 128)) 0)) else none else none) = _
          rw [w1, w2, show numV a d.1 y x c - a.2.2.2 + a.2.2.2 + 128 = numV a d.1 y x c + 128 by omega, decide_eq_true (by omega), decide_eq_true (by rw [hlenW]; omega), i64_in _ (by omega)]
          rfl
        unfold kern_made_5
        rw [hr]
        exact ⟨_, rfl, hg⟩
      exact done1 _ key fun s s2 e1 e2 => by rw [pix_table _ _ _ _ _ _ _ ho, e1, e2]; rfl
theorem allL_get' {H W C : Nat} (F : Nat → Nat → Nat → Int) {i : Nat} (hi : i < H * (W * C)) : i / (W * C) < H ∧ i % (W * C) / C < W ∧ i % (W * C) % C < C := by
  have hpos : 0 < W * C := by
    cases hz : W * C with
    | zero => rw [hz] at hi; omega
    | succ k => omega
  have hCpos : 0 < C := Nat.pos_of_ne_zero (fun h0 => by rw [h0] at hpos; omega)
  exact ⟨Nat.div_lt_of_lt_mul (by rw [Nat.mul_comm]; exact hi), Nat.div_lt_of_lt_mul (by rw [Nat.mul_comm C W]; exact Nat.mod_lt _ hpos), Nat.mod_lt _ hCpos⟩
/-- a node that may be makes as many numbers as its value has -/
theorem All_total {n : Node} {l : List I4} {z : I4} (hB : (nB n).length < 1000000) (hl : l.length < 1000000) (hv : ref03_Value n l = some (z, 0)) (d : List Int × List Int) (hd : FullL l d) (w8 : i8s (nW n)) (b32 : ∀ v ∈ nB n, -2147483648 ≤ v ∧ v ≤ 2147483647) :
    ∃ F : Nat → Nat → Nat → Int, kern_All n l d = some (allL z.1.toNat z.2.1.toNat z.2.2.1.toNat F, 0) ∧ Full z (allL z.1.toNat z.2.1.toNat z.2.2.1.toNat F) ∧ ∀ y x c : Nat, (y : Int) < z.1 → (x : Int) < z.2.1 → (c : Int) < z.2.2.1 → Pix n l d z y x c (F y x c) := by
  have h := value_ok hl hB hv
  have hmz := mayB_iff.1 h.may
  simp only [vS] at hmz
  have hZ : -128 ≤ z.2.2.2 ∧ z.2.2.2 ≤ 127 := by
    rw [h.zero]
    have hn := h.node
    have : ref03_node_r16_p n = true := by
      simp only [ref03_node, ref03_node_q, ref03_node_r17_p, ref03_node_r17_q, Bool.cond_false_right, Bool.and_eq_true] at hn
      exact hn.2.2.2.2.2.2
    simp only [ref03_node_r16_p, ref03_node_r16_q, Bool.cond_false_right, Bool.and_eq_true, in_iff] at this
    exact this.2.2
  have ex : ∀ y x c : Nat, ∃ v, (y : Int) < z.1 → (x : Int) < z.2.1 → (c : Int) < z.2.2.1 → Pix n l d z y x c v := fun y x c => by
    by_cases hh : (y : Int) < z.1 ∧ (x : Int) < z.2.1 ∧ (c : Int) < z.2.2.1
    · obtain ⟨v, hv⟩ := pix_any hB hl hv d hd w8 b32 y x c hh.1 hh.2.1 hh.2.2
      exact ⟨v, fun _ _ _ => hv⟩
    · exact ⟨0, fun a b c => absurd ⟨a, b, c⟩ hh⟩
  let F : Nat → Nat → Nat → Int := fun y x c => Classical.choose (ex y x c)
  have hF : ∀ y x c : Nat, (y : Int) < z.1 → (x : Int) < z.2.1 → (c : Int) < z.2.2.1 → Pix n l d z y x c (F y x c) := fun y x c => Classical.choose_spec (ex y x c)
  have hH := nat_of (show 0 ≤ z.1 by omega)
  have hW := nat_of (show 0 ≤ z.2.1 by omega)
  have hC := nat_of (show 0 ≤ z.2.2.1 by omega)
  refine ⟨F, All_run hB hl hv d hd.data z.1.toNat z.2.1.toNat z.2.2.1.toNat hH hW hC F (fun y x c hy hx hc s s2 e1 e2 e3 => (hF y x c (by omega) (by omega) (by omega)).2 s s2 e1 e2 e3), ⟨h.may, ?_, ?_, hZ⟩, hF⟩
  · rw [allL_len]
    unfold sizeV
    rw [if_pos h.may]
    simp only [vS, Int.natCast_mul]
    rw [← hH, ← hW, ← hC, Int.mul_assoc]
  · intro v hv
    unfold allL at hv
    obtain ⟨i, hi, e⟩ := List.mem_map.1 hv
    have hi := List.mem_range.1 hi
    obtain ⟨u2, u3, u4⟩ := allL_get' (fun _ _ _ => 0) hi
    have := (hF (i / (z.2.1.toNat * z.2.2.1.toNat)) (i % (z.2.1.toNat * z.2.2.1.toNat) / z.2.2.1.toNat) (i % (z.2.1.toNat * z.2.2.1.toNat) % z.2.2.1.toNat) (by omega) (by omega) (by omega)).1
    rw [← e]
    exact this
end Go.V.P
