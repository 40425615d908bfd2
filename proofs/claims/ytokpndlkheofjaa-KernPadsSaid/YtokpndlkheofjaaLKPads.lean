/- Plain laws of layer 5: KernPads. -/
import Derived.Test.YtokpndlkheofjaaLKPadsB
import Derived.Test.YtokpndlkheofjaaLPair
import Derived.Test.YtokpndlkheofjaaLSameR
import Derived.Test.YtokpndlkheofjaaKp9
namespace Go.V.P
open Go Go.V Go.IntWalk
set_option linter.unusedVariables false
set_option linter.unusedSimpArgs false
set_option maxRecDepth 20000
theorem bit1 (w : Int) : ∃ k : Nat, 2 ≤ k ∧ k ≤ 3 ∧ a00 w = (k : Int) := by
  have hlt : (BitVec.ofInt (IntKind.bits .u8) w &&& BitVec.ofInt (IntKind.bits .u8) (1 : Int)).toNat ≤ 1 := by
    rw [BitVec.toNat_and]
    have h : (BitVec.ofInt (IntKind.bits .u8) (1 : Int)).toNat = 1 := by decide
    rw [h]
    exact Nat.and_le_right
  refine ⟨2 + (BitVec.ofInt (IntKind.bits .u8) w &&& BitVec.ofInt (IntKind.bits .u8) (1 : Int)).toNat, by omega, by omega, ?_⟩
  simp only [a00, a81]
  generalize (BitVec.ofInt (IntKind.bits .u8) w &&& BitVec.ofInt (IntKind.bits .u8) (1 : Int)).toNat = m at *
  rw [u8_in (m : Int) (by omega), i64_in (m : Int) (by omega), i64_in (2 + (m : Int)) (by omega)]
  omega
theorem mem_gt8 {l : List Int} {x : Int} (h : x ∈ l) : ∃ i : Nat, i < l.length ∧ gt l (i : Int) 0 = x := by
  obtain ⟨i, hi, e⟩ := List.mem_iff_getElem.1 h
  refine ⟨i, hi, ?_⟩
  unfold gt
  rw [show ((i : Int).toNat) = i by omega, List.getD_eq_getElem?_getD, List.getElem?_eq_getElem hi]
  exact e
theorem gt_app {l : List Int} {v : Int} {i : Nat} (h : i ≤ l.length) : gt (l ++ [v]) (i : Int) 0 = if i = l.length then v else gt l (i : Int) 0 := by
  unfold gt
  rw [show ((i : Int).toNat) = i by omega, List.getD_eq_getElem?_getD, List.getD_eq_getElem?_getD]
  by_cases e : i = l.length
  · rw [if_pos e, e, List.getElem?_append_right (Nat.le_refl _), Nat.sub_self]
    rfl
  · rw [if_neg e, List.getElem?_append_left (by omega)]
theorem own_run (x : Data) (b2 : i8s x.2.2) (w : Int) (k : Nat) (hk : 2 ≤ k ∧ k ≤ 3) (hK : a00 w = (k : Int)) (s : I3) (C : Nat) (hC : s.2.2 = (C : Int)) (hC8 : C ≤ 8) :
    ∃ l, iterN (a33 x w s) LL ([], 0) = some (l, ((k * k * C : Nat) : Int)) ∧ l.length = k * k * C ∧ i8s l := by
  have hkk : k * k * C ≤ 3 * 3 * 8 := Nat.mul_le_mul (Nat.mul_le_mul hk.2 hk.2) hC8
  have hr10 : ∀ q : List Int × Int, a1t w s q = decide (q.2 < ((k * k * C : Nat) : Int)) := fun q => by
    simp only [a1t, a6v, hK, hC]
    have h1 : k * k ≤ 3 * 3 := Nat.mul_le_mul hk.2 hk.2
    rw [← Int.natCast_mul, i64_in ((k * k : Nat) : Int) (by omega), ← Int.natCast_mul, i64_in ((k * k * C : Nat) : Int) (by omega)]
  obtain ⟨z, h1, l, h2, h3, h4⟩ := iterN_inv (p := a33 x w s) (fun q : List Int × Int => ∃ i : Nat, q.2 = (i : Int) ∧ i ≤ k * k * C ∧ q.1.length = i ∧ i8s q.1) (fun q => k * k * C - q.2.toNat)
    (Q := fun z => ∃ l, z = (l, ((k * k * C : Nat) : Int)) ∧ l.length = k * k * C ∧ i8s l) (fun q hq => by
    obtain ⟨l, t⟩ := q
    obtain ⟨i, hi0, hi, hl, h8⟩ := hq
    simp only at hi0 hl h8
    subst hi0
    simp only [a33, hr10]
    by_cases hlt : i < k * k * C
    · have hj : ∃ v, a6q x (l, (i : Int)) = some v ∧ -128 ≤ v ∧ v ≤ 127 := by
        unfold a6q
        by_cases h0 : (x.2.2.length : Int) > 0
        · have hm1 := Int.emod_nonneg (i : Int) (show (x.2.2.length : Int) ≠ 0 by omega)
          have hm2 := Int.emod_lt_of_pos (i : Int) (show 0 < (x.2.2.length : Int) by omega)
          have hm : Int.tmod (i : Int) (x.2.2.length : Int) = (i : Int) % (x.2.2.length : Int) := Int.tmod_eq_emod_of_nonneg (by omega)
          have h7 : a6w x (l, (i : Int)) = some () := by
            unfold a6w
            simp only
            rw [hm, show ((x.2.2.length : Int) == 0) = false by simp only [beq_eq_false_iff_ne]; omega, decide_eq_true hm1, decide_eq_true hm2]
            rfl
          rw [decide_eq_true h0, h7, hm]
          exact ⟨_, rfl, gt_i8 b2 _ hm1 hm2⟩
        · rw [decide_eq_false h0]
          refine ⟨_, rfl, ?_⟩
          rw [i64_in ((i : Int) - 4) (by omega), i8_in ((i : Int) - 4) (by omega)]
          omega
      obtain ⟨v, x1, x2⟩ := hj
      have h15 : a6x (l, (i : Int)) v = some () := by
        unfold a6x
        rw [decide_eq_true (by simp only [List.length_cons, List.length_nil]; unfold maxL; omega)]
        rfl
      rw [decide_eq_true (by omega), x1]
      simp only [cond_true, Option.bind_some, h15]
      rw [i64_in ((i : Int) + 1) (by omega)]
      refine .inl ⟨_, rfl, ⟨i + 1, by simp only; omega, by omega, by simp [hl], fun v' hv => ?_⟩, by simp only; omega⟩
      rcases List.mem_append.1 hv with hv | hv
      · exact h8 v' hv
      · have : v' = v := by simpa using hv
        subst this; exact x2
    · rw [decide_eq_false (by omega)]
      have : i = k * k * C := by omega
      subst this
      exact .inr ⟨_, rfl, l, rfl, hl, h8⟩) LL ([], 0) ⟨0, rfl, by omega, rfl, fun v hv => by simp at hv⟩ (LL_lt (by simp only; omega))
  subst h2
  exact ⟨l, h1, h3, h4⟩
def eachF (w : List Int) (K C : Nat) (n : Nat) : Int := if n % C = n / C / K then gt w ((n / C : Nat) : Int) 0 else 0
def EachG (w : List Int) (K C n : Nat) (l : List Int) : Prop := l.length = n ∧ i8s l ∧ ∀ m : Nat, m < n → gt l (m : Int) 0 = eachF w K C m
theorem EachG.snoc {w : List Int} {K C n : Nat} {l : List Int} (h : EachG w K C n l) {v : Int} (hv : v = eachF w K C n) (hb : -128 ≤ v ∧ v ≤ 127) : EachG w K C (n + 1) (l ++ [v]) := by
  obtain ⟨h1, h2, h3⟩ := h
  refine ⟨by simp [h1], fun u hu => ?_, fun m hm => ?_⟩
  · rcases List.mem_append.1 hu with q | q
    · exact h2 u q
    · have : u = v := by simpa using q
      rw [this]; exact hb
  · rw [gt_app (by omega)]
    by_cases e : m = l.length
    · rw [if_pos e, hv, e, h1]
    · rw [if_neg e]; exact h3 m (by omega)
theorem each_run (w : Int) (k : Nat) (hk : 2 ≤ k ∧ k ≤ 3) (hK : a00 w = (k : Int)) (s : I3) (C : Nat) (hC : s.2.2 = (C : Int)) (hC8 : 1 ≤ C ∧ C ≤ 8) (y : List Int × Int) (hl : y.1.length = k * k * C) (h8 : i8s y.1) :
    ∃ l, iterN (a34 w s y) LL (0, []) = some ((C : Int), l) ∧ EachG y.1 (k * k) C (C * (k * k) * C) l := by
  obtain ⟨K, hKK⟩ : ∃ K, k * k = K := ⟨_, rfl⟩
  have hKb : 4 ≤ K ∧ K ≤ 9 := by
    rcases (by omega : k = 2 ∨ k = 3) with rfl | rfl <;> omega
  rw [hKK] at hl ⊢
  have hr36 : ∀ q : Int × List Int, a1v w q = decide (q.1 < (K : Int)) := fun q => by
    simp only [a1v, a73, hK]
    rw [← Int.natCast_mul, hKK, i64_in (K : Int) (by omega)]
  have inner : ∀ (c i : Nat) (p1 p2 l : List Int), c < C → i < K → EachG y.1 K C ((c * K + i) * C) l → ∃ l', iterN (a36 w s y ((c : Int), p1) ((i : Int), p2)) LL (0, l) = some ((C : Int), l') ∧ EachG y.1 K C ((c * K + i + 1) * C) l' := fun c i p1 p2 l hc hi hG => by
    have hcK : c * K + i < C * K := by
      have := Nat.mul_le_mul_right K (show c + 1 ≤ C by omega)
      rw [Nat.add_mul, Nat.one_mul] at this
      omega
    have hCK : C * K ≤ 8 * 9 := Nat.mul_le_mul hC8.2 hKb.2
    obtain ⟨z, hz, l', hz1, hG'⟩ := iterN_inv (p := a36 w s y ((c : Int), p1) ((i : Int), p2)) (fun q : Int × List Int => ∃ o : Nat, q.1 = (o : Int) ∧ o ≤ C ∧ EachG y.1 K C ((c * K + i) * C + o) q.2) (fun q => C - q.1.toNat)
      (Q := fun z => ∃ l', z = ((C : Int), l') ∧ EachG y.1 K C ((c * K + i + 1) * C) l') (fun q hq => by
      obtain ⟨t, l2⟩ := q
      obtain ⟨o, ho0, ho, hg⟩ := hq
      simp only at ho0 hg
      subst ho0
      simp only [a36, hC]
      by_cases hlt : o < C
      · have hdiv : ((c * K + i) * C + o) / C = c * K + i := by
          rw [Nat.mul_comm, Nat.mul_add_div (by omega), Nat.div_eq_of_lt hlt, Nat.add_zero]
        have hmod : ((c * K + i) * C + o) % C = o := by
          rw [Nat.mul_comm, Nat.mul_add_mod, Nat.mod_eq_of_lt hlt]
        have hdiv2 : (c * K + i) / K = c := by
          rw [Nat.mul_comm, Nat.mul_add_div (by omega), Nat.div_eq_of_lt hi, Nat.add_zero]
        have hF : eachF y.1 K C ((c * K + i) * C + o) = if o = c then gt y.1 ((c * K + i : Nat) : Int) 0 else 0 := by
          unfold eachF
          rw [hdiv, hmod, hdiv2]
        have hgb := gt_i8 h8 ((c * K + i : Nat) : Int) (by omega) (by rw [hl, Nat.mul_comm K C]; omega)
        have hj : a6s w y ((c : Int), p1) ((i : Int), p2) ((o : Int), l2) = some (if o = c then gt y.1 ((c * K + i : Nat) : Int) 0 else 0) := by
          unfold a6s
          by_cases e : o = c
          · subst e
            rw [if_pos rfl]
            have hck : o * k * k = o * K := by rw [Nat.mul_assoc, hKK]
            have hok : o * k ≤ 8 * 3 := Nat.mul_le_mul (by omega) hk.2
            have hoK : o * K ≤ 8 * 9 := Nat.mul_le_mul (by omega) hKb.2
            have hix : IntKind.wrap .i64 (IntKind.wrap .i64 (IntKind.wrap .i64 ((o : Int) * (k : Int)) * (k : Int)) + (i : Int)) = ((o * K + i : Nat) : Int) := by
              rw [← Int.natCast_mul, i64_in ((o * k : Nat) : Int) (by omega), ← Int.natCast_mul, hck, i64_in ((o * K : Nat) : Int) (by omega), i64_in (((o * K : Nat) : Int) + (i : Int)) (by omega)]
              omega
            simp only [beq_self_eq_true, cond_true, a74, hK, hix]
            rw [decide_eq_true (by omega), decide_eq_true (by rw [hl, Nat.mul_comm K C]; omega)]
            rfl
          · rw [if_neg e]
            simp only
            rw [show ((o : Int) == (c : Int)) = false by simp; omega]
            rfl
        have hvb : ∀ v : Int, v = (if o = c then gt y.1 ((c * K + i : Nat) : Int) 0 else 0) → -128 ≤ v ∧ v ≤ 127 := fun v hv => by
          rw [hv]; split <;> omega
        have hcap : a75 ((o : Int), l2) (if o = c then gt y.1 ((c * K + i : Nat) : Int) 0 else 0) = some () := by
          unfold a75
          have hlen := hg.1
          have hm : (c * K + i) * C ≤ 72 * 8 := Nat.mul_le_mul (by omega) hC8.2
          rw [decide_eq_true (by simp only [List.length_cons, List.length_nil]; unfold maxL; omega)]
          rfl
        rw [decide_eq_true (by omega : (o : Int) < (C : Int)), hj]
        simp only [cond_true, Option.bind_some, hcap]
        rw [i64_in ((o : Int) + 1) (by omega)]
        exact .inl ⟨_, rfl, ⟨o + 1, by simp only; omega, by omega, hg.snoc hF.symm (hvb _ rfl)⟩, by simp only; omega⟩
      · rw [decide_eq_false (by omega)]
        have : o = C := by omega
        subst this
        refine .inr ⟨_, rfl, l2, rfl, ?_⟩
        rw [Nat.add_mul, Nat.one_mul]
        exact hg) LL (0, l) ⟨0, rfl, by omega, hG⟩ (LL_lt (by simp only; omega))
    subst hz1
    exact ⟨l', hz, hG'⟩
  have mid : ∀ (c : Nat) (p1 l : List Int), c < C → EachG y.1 K C (c * K * C) l → ∃ l', iterN (a35 w s y ((c : Int), p1)) LL (0, l) = some ((K : Int), l') ∧ EachG y.1 K C ((c + 1) * K * C) l' := fun c p1 l hc hG => by
    obtain ⟨z, hz, l', hz1, hG'⟩ := iterN_inv (p := a35 w s y ((c : Int), p1)) (fun q : Int × List Int => ∃ i : Nat, q.1 = (i : Int) ∧ i ≤ K ∧ EachG y.1 K C ((c * K + i) * C) q.2) (fun q => K - q.1.toNat)
      (Q := fun z => ∃ l', z = ((K : Int), l') ∧ EachG y.1 K C ((c + 1) * K * C) l') (fun q hq => by
      obtain ⟨t, l2⟩ := q
      obtain ⟨i, hi0, hi, hg⟩ := hq
      simp only at hi0 hg
      subst hi0
      simp only [a35, hr36]
      by_cases hlt : i < K
      · obtain ⟨l3, h1, h2⟩ := inner c i p1 l2 l2 hc hlt hg
        rw [decide_eq_true (by omega : (i : Int) < (K : Int)), h1, i64_in ((i : Int) + 1) (by omega)]
        exact .inl ⟨_, rfl, ⟨i + 1, by simp only; omega, by omega, h2⟩, by simp only; omega⟩
      · rw [decide_eq_false (by omega)]
        have : i = K := by omega
        subst this
        refine .inr ⟨_, rfl, l2, rfl, ?_⟩
        rw [Nat.add_mul c 1 i, Nat.one_mul]
        exact hg) LL (0, l) ⟨0, rfl, by omega, by simpa using hG⟩ (LL_lt (by simp only; omega))
    subst hz1
    exact ⟨l', hz, hG'⟩
  obtain ⟨z, hz, l', hz1, hG'⟩ := iterN_inv (p := a34 w s y) (fun q : Int × List Int => ∃ c : Nat, q.1 = (c : Int) ∧ c ≤ C ∧ EachG y.1 K C (c * K * C) q.2) (fun q => C - q.1.toNat)
    (Q := fun z => ∃ l', z = ((C : Int), l') ∧ EachG y.1 K C (C * K * C) l') (fun q hq => by
    obtain ⟨t, l2⟩ := q
    obtain ⟨c, hc0, hc, hg⟩ := hq
    simp only at hc0 hg
    subst hc0
    simp only [a34, hC]
    by_cases hlt : c < C
    · obtain ⟨l3, h1, h2⟩ := mid c l2 l2 hlt hg
      rw [decide_eq_true (by omega : (c : Int) < (C : Int)), h1, i64_in ((c : Int) + 1) (by omega)]
      exact .inl ⟨_, rfl, ⟨c + 1, by simp only; omega, by omega, h2⟩, by simp only; omega⟩
    · rw [decide_eq_false (by omega)]
      have : c = C := by omega
      subst this
      exact .inr ⟨_, rfl, l2, rfl, hg⟩) LL (0, []) ⟨0, rfl, by omega, by
        rw [Nat.zero_mul, Nat.zero_mul]
        exact ⟨rfl, fun v hv => by simp at hv, fun m hm => absurd hm (Nat.not_lt_zero _)⟩⟩ (LL_lt (by simp only; omega))
  subst hz1
  exact ⟨l', hz, hG'⟩
theorem KernPads_true (x : Data) (w : Int) (kx : Ts.ok a09 x) (_ : Ts.ok (.one (.int .u8)) w) : a8h x w = some true := by
  unfold a8h
  rw [shown05]
  simp only [Option.bind_some]
  rcases pair_run x kx with hp | ⟨a, d, e, hd, he, hp⟩
  · rw [hp]; rfl
  have hl := hd.lim
  obtain ⟨k1, k2, k3⟩ := kx
  obtain ⟨b2, c2⟩ := i8s_ok k3
  rw [hp]
  simp only [Option.bind_some]
  have e1 : (([a, a] : List I4).take (Int.toNat 1)).drop (Int.toNat 0) = [a] := rfl
  have hg : gt ([a, a] : List I4) 0 dI4 = a := rfl
  have hg1 : gt ([a] : List I4) 0 dI4 = a := rfl
  by_cases h14 : a.1 ≤ 14 ∧ a.2.1 ≤ 14
  case neg =>
    have hr3 : a7y ([a, a], (d, e), true) = some true := by
      unfold a7y
      simp only [hg]
      by_cases h1 : a.1 > 14
      · rw [decide_eq_true h1]; rfl
      · rw [decide_eq_false h1, decide_eq_true (show a.2.1 > 14 by omega)]; rfl
    rw [hr3]
    rfl
  have hr3 : a7y ([a, a], (d, e), true) = some false := by
    unfold a7y
    simp only [hg]
    rw [decide_eq_false (show ¬ a.1 > 14 by omega), decide_eq_false (show ¬ a.2.1 > 14 by omega)]; rfl
  have hr5 : a7z ([a, a], (d, e), true) = some () := rfl
  have hr6 : a80 ([a, a], (d, e), true) = some (a.1, a.2.1, a.2.2.1) := rfl
  have hr18 : a6z ([a, a], (d, e), true) = some a.2.2.2 := rfl
  have hpad := all_pad a d hd h14.1 h14.2
  have hr17 : a6y ([a, a], (d, e), true) = some (allL (a.1.toNat + 2) (a.2.1.toNat + 2) a.2.2.1.toNat (padF a d), 0) := by
    unfold a6y
    simp only [e1, hg1]
    rw [hpad]
    rfl
  obtain ⟨k, hk2, hk3, hK⟩ := bit1 w
  obtain ⟨C, hC⟩ : ∃ C : Nat, a.2.2.1 = (C : Int) := ⟨a.2.2.1.toNat, by omega⟩
  obtain ⟨own, ho, hol, ho8⟩ := own_run x b2 w k ⟨hk2, hk3⟩ hK (a.1, a.2.1, a.2.2.1) C hC (by omega)
  rw [hr3]
  simp only [cond_false, Option.bind_some, hr5, hr6, ho, hr17, hr18, hK, e1]
  obtain ⟨v1, L1, V1, A1, len1, B1⟩ := pads_eq a d hd h14.1 h14.2 (k : Int) (by omega) own (by rw [hol, Int.natCast_mul, Int.natCast_mul, hC]) ho8
  unfold winN at V1 A1 B1
  rw [V1]
  simp only [Option.bind_some, bne_self_eq_false, cond_false]
  have hj24 : a6r w ([a, a], (d, e), true) (a.1, a.2.1, a.2.2.1) (own, ((k * k * C : Nat) : Int)) (allL (a.1.toNat + 2) (a.2.1.toNat + 2) a.2.2.1.toNat (padF a d), 0) a.2.2.2 (v1, 0) = some (.inl ()) := by
    simp only [a6r, beq_self_eq_true, cond_true, hK, e1]
    rw [A1, i64_in (a.1 + 2) (by omega), i64_in (a.2.1 + 2) (by omega), B1]
    simp only [Option.bind_some, same_refl L1 len1, a1u, a70, bne_self_eq_false, cond_false, Bool.not_true]
  obtain ⟨w3, hw3, g1, g2, g3⟩ := each_run w k ⟨hk2, hk3⟩ hK (a.1, a.2.1, a.2.2.1) C hC (by omega) (own, ((k * k * C : Nat) : Int)) hol ho8
  have hr30 : a71 (a.1, a.2.1, a.2.2.1) = some () := by
    unfold a71
    simp only
    rw [decide_eq_true (by omega : (0 : Int) ≤ a.2.2.1), decide_eq_true (Int.le_refl _), decide_eq_true (by unfold maxL; omega)]
    rfl
  have hr31 : a72 (a.1, a.2.1, a.2.2.1) = some () := hr30
  rw [hj24]
  simp only [Option.bind_some, Q1z, hr30, hr31, hw3]
  have hCt : a.2.2.1.toNat = C := by omega
  have hmul9 : k * k ≤ 9 := by rcases (by omega : k = 2 ∨ k = 3) with rfl | rfl <;> omega
  obtain ⟨v2, L2, V2, A2, len2, B2⟩ := each_eq a d hd h14.1 h14.2 k C ⟨hk2, hk3⟩ hC own w3 hol ho8 g1 g2 (fun c m e' hc hm he' => by
    have hcm : c * (k * k) + m < C * (k * k) := by
      have := Nat.mul_le_mul_right (k * k) (show c + 1 ≤ C by omega)
      rw [Nat.add_mul, Nat.one_mul] at this
      omega
    have hlt : (c * (k * k) + m) * C + e' < C * (k * k) * C := by
      have := Nat.mul_le_mul_right C (show c * (k * k) + m + 1 ≤ C * (k * k) by omega)
      rw [Nat.add_mul, Nat.one_mul] at this
      omega
    rw [g3 _ hlt]
    unfold eachF
    have hdiv : ((c * (k * k) + m) * C + e') / C = c * (k * k) + m := by
      rw [Nat.mul_comm, Nat.mul_add_div (by omega), Nat.div_eq_of_lt he', Nat.add_zero]
    have hmod : ((c * (k * k) + m) * C + e') % C = e' := by
      rw [Nat.mul_comm, Nat.mul_add_mod, Nat.mod_eq_of_lt he']
    have hdiv2 : (c * (k * k) + m) / (k * k) = c := by
      rw [Nat.mul_comm, Nat.mul_add_div (by omega), Nat.div_eq_of_lt hm, Nat.add_zero]
    rw [hdiv, hmod, hdiv2])
  unfold winN at V2 A2 B2
  simp only [hCt]
  rw [V2]
  simp only [Option.bind_some]
  have hj46 : a6t w ([a, a], (d, e), true) (a.1, a.2.1, a.2.2.1) (own, ((k * k * C : Nat) : Int)) ((C : Int), w3) (v2, 0) = some (.inl ()) := by
    simp only [a6t, beq_self_eq_true, cond_true, hK, e1, hCt]
    rw [A2, hC, B2]
    simp only [Option.bind_some, same_refl L2 len2, a1w, a76, bne_self_eq_false, cond_false, Bool.not_true]
  rw [hj46]
  simp only [Option.bind_some, Q1z]
  have hj52 : a6u w ([a, a], (d, e), true) (a.1, a.2.1, a.2.2.1) (own, ((k * k * C : Nat) : Int)) = some (.inl ()) ∨ a6u w ([a, a], (d, e), true) (a.1, a.2.1, a.2.2.1) (own, ((k * k * C : Nat) : Int)) = some (.inr (.inl ())) := by
    by_cases hs : a.1 = a.2.1 ∧ a.1 = (k : Int)
    · left
      obtain ⟨L3, A3, len3, B3⟩ := fulls_eq a d hd k C ⟨hk2, hk3⟩ hC hs.2 (by omega) own hol ho8
      unfold winN at B3
      have h52 : a1x w (a.1, a.2.1, a.2.2.1) = true := by
        simp only [a1x, a77, hK]
        rw [show (a.1 == a.2.1) = true by simpa using hs.1, show (a.1 == (k : Int)) = true by simpa using hs.2]
        rfl
      simp only [a6u, h52, cond_true, hK, e1]
      rw [A3, B3]
      simp only [Option.bind_some, same_refl L3 len3, a1y, a78, bne_self_eq_false, cond_false, Bool.not_true]
    · right
      have h52 : a1x w (a.1, a.2.1, a.2.2.1) = false := by
        simp only [a1x, a77, hK]
        by_cases h1 : a.1 = a.2.1
        · rw [show (a.1 == a.2.1) = true by simpa using h1, show (a.1 == (k : Int)) = false by simp; exact fun q => hs ⟨h1, q⟩]
          rfl
        · rw [show (a.1 == a.2.1) = false by simpa using h1]
          rfl
      simp only [a6u, h52, cond_false]
  rcases hj52 with h | h <;> rw [h] <;> rfl
end Go.V.P
