/- Plain laws of layer 10: SemaPlays. -/
import Derived.Test.YtaehdmelnmajnaaLSemI
import Derived.Test.YtaehdmelnmajnaaLSemC
import Derived.Test.YtaehdmelnmajnaaSp1
namespace Go.V.P
open Go Go.V Go.IntWalk
set_option linter.unusedVariables false
set_option linter.unusedSimpArgs false
set_option maxRecDepth 20000
/-- how often p stands there less how often q does -/
def cnt2 (p q : Int) : List Int → Int
  | [] => 0
  | a :: l => (if a = p then 1 else 0) - (if a = q then 1 else 0) + cnt2 p q l
theorem cnt2_snoc (p q a : Int) : ∀ l : List Int, cnt2 p q (l ++ [a]) = cnt2 p q l + ((if a = p then 1 else 0) - (if a = q then 1 else 0))
  | [] => by simp [cnt2]
  | b :: l => by
    simp only [List.cons_append, cnt2]
    rw [cnt2_snoc p q a l]
    omega
theorem cnt2_in (p q : Int) : ∀ l : List Int, -(l.length : Int) ≤ cnt2 p q l ∧ cnt2 p q l ≤ (l.length : Int)
  | [] => by simp [cnt2]
  | b :: l => by
    have := cnt2_in p q l
    simp only [cnt2, List.length_cons]
    split <;> split <;> omega
theorem take_snoc' {l : List Int} {i : Nat} (hi : i < l.length) : l.take (i + 1) = l.take i ++ [gt l (i : Int) 0] := by
  rw [List.take_add_one, List.getElem?_eq_getElem hi]
  unfold gt
  rw [show ((i : Int).toNat) = i by omega, List.getD_eq_getElem?_getD, List.getElem?_eq_getElem hi]
  rfl
theorem RCount (l : List Int) (i : Int) (hl : l.length < 10000) : ref10_Sems_Count l i = some (cnt2 (IntKind.wrap .i64 (i + 1)) (IntKind.wrap .i64 ((IntKind.wrap .i64 (0 - i)) - 1)) l) := by
  obtain ⟨p, hp⟩ : ∃ p, IntKind.wrap .i64 (i + 1) = p := ⟨_, rfl⟩
  obtain ⟨q, hq⟩ : ∃ q, IntKind.wrap .i64 ((IntKind.wrap .i64 (0 - i)) - 1) = q := ⟨_, rfl⟩
  have := iterN_for (p := ref10_Sems_Count_l3_p l i) (z := (cnt2 p q l, (l.length : Int))) l.length (fun k => (cnt2 p q (l.take k), (k : Int))) LL (LL_lt (by omega)) (fun k hk => by
    have hb := cnt2_in p q (l.take k)
    rw [List.length_take] at hb
    have ht := take_snoc' hk
    have hsn : cnt2 p q (l.take (k + 1)) = cnt2 p q (l.take k) + ((if gt l (k : Int) 0 = p then 1 else 0) - (if gt l (k : Int) 0 = q then 1 else 0)) := by rw [ht, cnt2_snoc]
    simp only [ref10_Sems_Count_l3_p, ref10_Sems_Count_j5x1_p, ref10_Sems_Count_j5_p, ref10_Sems_Count_r5_p, ref10_Sems_Count_r7_p, hp, hq]
    rw [decide_eq_true (by omega : (k : Int) < (l.length : Int)), decide_eq_true (by omega : (0 : Int) ≤ (k : Int)), i64_in ((k : Int) + 1) (by omega), hsn]
    simp only [cond_true, Option.bind_some]
    by_cases h1 : gt l (k : Int) 0 = p
    · rw [show (gt l (k : Int) 0 == p) = true by simpa using h1, if_pos h1, i64_in (cnt2 p q (l.take k) + 1) (by omega)]
      by_cases h2 : gt l (k : Int) 0 = q
      · rw [show (gt l (k : Int) 0 == q) = true by simpa using h2, if_pos h2]
        simp only [cond_true, Option.bind_some]
        rw [i64_in (cnt2 p q (l.take k) + 1 - 1) (by omega)]
        congr 3
        omega
      · rw [show (gt l (k : Int) 0 == q) = false by simpa using h2, if_neg h2]
        simp only [cond_true, cond_false, Option.bind_some]
        congr 3
    · rw [show (gt l (k : Int) 0 == p) = false by simpa using h1, if_neg h1]
      by_cases h2 : gt l (k : Int) 0 = q
      · rw [show (gt l (k : Int) 0 == q) = true by simpa using h2, if_pos h2]
        simp only [cond_true, cond_false, Option.bind_some]
        rw [i64_in (cnt2 p q (l.take k) - 1) (by omega)]
        congr 3
      · rw [show (gt l (k : Int) 0 == q) = false by simpa using h2, if_neg h2]
        simp only [cond_false, Option.bind_some]
        congr 3
        omega) (by
    simp only [ref10_Sems_Count_l3_p]
    rw [decide_eq_false (Int.lt_irrefl _), List.take_length]
    rfl)
  rw [List.take_zero] at this
  have h0 : cnt2 p q [] = 0 := rfl
  rw [h0] at this
  rw [show ((0 : Nat) : Int) = 0 from rfl] at this
  unfold ref10_Sems_Count
  rw [this, hp, hq]
  rfl
theorem RCount_at (l : List Int) (k : Nat) (hk : k < 8) (hl : l.length < 10000) : ref10_Sems_Count l (k : Int) = some (cnt2 ((k : Int) + 1) (-(k : Int) - 1) l) := by
  rw [RCount l _ hl, i64_in ((k : Int) + 1) (by omega), i64_in (0 - (k : Int)) (by omega), i64_in (0 - (k : Int) - 1) (by omega)]
  congr 2
  omega
/-- what is counted is what was done -/
def Rel (cs l : List Int) : Prop := ∀ k : Nat, k < 8 → cs.getD k 0 = cnt2 ((k : Int) + 1) (-(k : Int) - 1) l
theorem there_is (x : Int) : ref10_there x = semIn x := by
  simp only [ref10_there, ref10_there_q, ref10_there_r1_p, ref10_there_r1_q, semIn]
  rw [Bool.eq_iff_iff]
  simp only [Bool.cond_false_right, Bool.and_eq_true, decide_eq_true_iff, ge_iff_le]
theorem play_wait (cs l : List Int) (x : Int) (hc : CsOK cs) (hr : Rel cs l) (hl : l.length < 9000) : ∃ e d m, semWait cs x = some (e, d) ∧ ref10_Sems_Wait x l = some (e, m) ∧ CsOK d ∧ Rel d m ∧ m.length ≤ l.length + 1 := by
  by_cases hin : 0 ≤ x ∧ x < 8
  · obtain ⟨k, rfl⟩ : ∃ k : Nat, x = (k : Int) := ⟨x.toNat, by omega⟩
    have hk : k < 8 := by omega
    have hs : semIn (k : Int) = true := decide_eq_true hin
    have hcl := hc.1
    rw [wait_at cs hk]
    unfold ref10_Sems_Wait
    rw [there_is, hs, RCount_at l k hk (by omega), ← hr k hk]
    simp only [Bool.not_true, cond_false, Option.bind_some]
    have hok := hc.wai hk
    have hg := fun j : Nat => wai_get (cs := cs) (k := k) (j := j) (by omega)
    by_cases h0 : cs.getD k 0 = 0
    · rw [show (cs.getD k 0 == 0) = true by simpa using h0]
      have e2 : wai cs k = (20, cs) := by unfold wai; rw [if_pos h0]
      rw [e2]
      exact ⟨20, cs, l, rfl, rfl, hc, hr, by omega⟩
    · rw [show (cs.getD k 0 == 0) = false by simpa using h0]
      have e2 : wai cs k = (0, (wai cs k).2) := by
        have := wai_err (cs := cs) (k := k)
        rw [if_neg h0] at this
        rw [← this]
      have h5 : ref10_Sems_Wait_r5_p (k : Int) l = some (l ++ [-(k : Int) - 1]) := by
        unfold ref10_Sems_Wait_r5_p
        rw [decide_eq_true (by simp only [List.length_nil]; unfold maxL; omega), decide_eq_true (by simp only [List.nil_append, List.length_cons, List.length_nil]; unfold maxL; omega), i64_in (0 - (k : Int)) (by omega), i64_in (0 - (k : Int) - 1) (by omega), show 0 - (k : Int) - 1 = -(k : Int) - 1 by omega]
        rfl
      rw [e2, h5]
      refine ⟨0, _, _, rfl, rfl, hok, fun j hj => ?_, by simp⟩
      rw [hg j, cnt2_snoc, ← hr j hj]
      by_cases e : j = k
      · subst e
        rw [if_pos rfl, if_neg h0, if_neg (by omega), if_pos rfl]
        omega
      · rw [if_neg e, if_neg (by omega), if_neg (by omega)]
        omega
  · have hs : semIn x = false := decide_eq_false hin
    refine ⟨1, cs, l, ?_, ?_, hc, hr, by omega⟩
    · unfold semWait semWaitL; rw [hs]; rfl
    · unfold ref10_Sems_Wait; rw [there_is, hs]; rfl
theorem play_signal (cs l : List Int) (x : Int) (hc : CsOK cs) (hr : Rel cs l) (hl : l.length < 9000) : ∃ e d m, semSignal cs x = some (e, d) ∧ ref10_Sems_Signal x l = some (e, m) ∧ CsOK d ∧ Rel d m ∧ m.length ≤ l.length + 1 := by
  by_cases hin : 0 ≤ x ∧ x < 8
  · obtain ⟨k, rfl⟩ : ∃ k : Nat, x = (k : Int) := ⟨x.toNat, by omega⟩
    have hk : k < 8 := by omega
    have hs : semIn (k : Int) = true := decide_eq_true hin
    have hcl := hc.1
    have hb := hc.2 k hk
    rw [signal_at cs hk]
    unfold ref10_Sems_Signal
    rw [there_is, hs, RCount_at l k hk (by omega), ← hr k hk]
    simp only [Bool.not_true, cond_false, Option.bind_some]
    have hok := hc.sig hk
    have hg := fun j : Nat => sig_get (cs := cs) (k := k) (j := j) (by omega)
    by_cases h0 : cs.getD k 0 = 15
    · rw [decide_eq_true (by omega)]
      have e2 : sig cs k = (22, cs) := by unfold sig; rw [if_pos h0]
      rw [e2]
      exact ⟨22, cs, l, rfl, rfl, hc, hr, by omega⟩
    · rw [decide_eq_false (by omega)]
      have e2 : sig cs k = (0, (sig cs k).2) := by
        have := sig_err (cs := cs) (k := k)
        rw [if_neg h0] at this
        rw [← this]
      have h5 : ref10_Sems_Signal_r5_p (k : Int) l = some () := by
        unfold ref10_Sems_Signal_r5_p
        rw [decide_eq_true (by simp only [List.length_nil]; unfold maxL; omega), decide_eq_true (by simp only [List.nil_append, List.length_cons, List.length_nil]; unfold maxL; omega)]
        rfl
      rw [e2, h5]
      simp only [cond_false, Option.bind_some, List.nil_append]
      rw [i64_in ((k : Int) + 1) (by omega)]
      refine ⟨0, _, _, rfl, rfl, hok, fun j hj => ?_, by simp⟩
      rw [hg j, cnt2_snoc, ← hr j hj]
      by_cases e : j = k
      · subst e
        rw [if_pos rfl, if_neg h0, if_pos rfl, if_neg (by omega)]
        omega
      · rw [if_neg e, if_neg (by omega), if_neg (by omega)]
        omega
  · have hs : semIn x = false := decide_eq_false hin
    refine ⟨1, cs, l, ?_, ?_, hc, hr, by omega⟩
    · unfold semSignal semSignalL; rw [hs]; rfl
    · unfold ref10_Sems_Signal; rw [there_is, hs]; rfl
theorem RAll (l : List Int) (hl : l.length < 9000) (cs : List Int) (hc : CsOK cs) (hr : Rel cs l) : ref10_Sems_All l = some cs := by
  have := iterN_for (p := ref10_Sems_All_l3_p l) (z := (cs, ((8 : Nat) : Int))) 8 (fun k => (cs.take k, (k : Int))) LL (LL_lt (by omega)) (fun k hk => by
    have hlen : (cs.take k).length ≤ 8 := by rw [List.length_take]; omega
    simp only [ref10_Sems_All_l3_p, ref10_Sems_All_r5_p, RCount_at l k hk (by omega), Option.bind_some]
    rw [decide_eq_true (by omega : (k : Int) < 8), decide_eq_true (by simp only [List.length_cons, List.length_nil]; unfold maxL; omega), i64_in ((k : Int) + 1) (by omega), ← hr k hk, take_snoc' (by rw [hc.1]; exact hk), gt_nat]
    rfl) (by
    simp only [ref10_Sems_All_l3_p]
    rw [decide_eq_false (by omega), List.take_of_length_le (by rw [hc.1]; omega)]
    rfl)
  rw [List.take_zero] at this
  rw [show ((0 : Nat) : Int) = 0 from rfl] at this
  unfold ref10_Sems_All
  rw [this]
  rfl
theorem SemaPlays_true (l : List Op) (_ : Ts.ok (.one (.sl tsOp)) l) : law10_SemaPlays l = some true := by
  unfold law10_SemaPlays
  rw [shown10, new_is]
  simp only [Option.bind_some]
  have h4 : law10_SemaPlays_r4_p true = false := rfl
  rw [h4]
  simp only [cond_false]
  obtain ⟨z, hz, n, d, m, hz1, hok, hrel, hlen⟩ := iterN_inv (p := law10_SemaPlays_l7_p l) (fun s : Int × List Int × List Int => ∃ i : Nat, s.1 = (i : Int) ∧ i ≤ min l.length 200 ∧ CsOK s.2.1 ∧ Rel s.2.1 s.2.2 ∧ s.2.2.length ≤ 2 * i) (fun s => min l.length 200 - s.1.toNat)
    (Q := fun z => ∃ (n : Int) (d m : List Int), z = .inl (n, d, m) ∧ CsOK d ∧ Rel d m ∧ m.length ≤ 400) (fun s hs => by
    obtain ⟨t, c, m⟩ := s
    obtain ⟨i, hi0, hi, hc, hr, hl⟩ := hs
    simp only at hi0 hc hr hl
    subst hi0
    have h7 : law10_SemaPlays_r7_p l ((i : Int), c, m) = decide (i < min l.length 200) := by
      simp only [law10_SemaPlays_r7_p, law10_SemaPlays_r7_q]
      rw [Bool.eq_iff_iff]
      simp only [Bool.cond_false_right, Bool.and_eq_true, decide_eq_true_iff]
      omega
    by_cases hlt : i < min l.length 200
    · obtain ⟨o, ho⟩ : ∃ o, gt l (i : Int) dOp = o := ⟨_, rfl⟩
      have t1 : decide ((0 : Int) ≤ (i : Int)) = true := decide_eq_true (by omega)
      have t2 : decide ((i : Int) < (l.length : Int)) = true := decide_eq_true (by omega)
      have h9 : law10_SemaPlays_j9_p ((i : Int), c, m) = some c := by
        simp only [law10_SemaPlays_j9_p, Clone_eq c hc, Option.bind_some]
        have z0 : semSignal c 0 = some (sig c 0) := signal_at c (k := 0) (by omega)
        rw [z0]
        cases ((Int.tmod (i : Int) 11) == 10) <;> rfl
      obtain ⟨e1, d1, m1, w1, w2, w3, w4, w5⟩ := play_wait c m o.1 hc hr (by omega)
      obtain ⟨e2, d2, m2, x1, x2, x3, x4, x5⟩ := play_signal d1 m1 o.1 w3 w4 (by omega)
      have hj : ∃ e d m', law10_SemaPlays_j17_p l ((i : Int), c, m) (e1, d1) (e1, m1) = some (e, e, d, m') ∧ CsOK d ∧ Rel d m' ∧ m'.length ≤ m.length + 2 := by
        simp only [law10_SemaPlays_j17_p, law10_SemaPlays_r17_p, law10_SemaPlays_r18_p, law10_SemaPlays_r19_p, ho, t1, t2, cond_true, Option.bind_some, x1, x2]
        cases o.2 with
        | true => exact ⟨e2, d2, m2, rfl, x3, x4, by omega⟩
        | false => exact ⟨e1, d1, m1, rfl, w3, w4, by omega⟩
      obtain ⟨e, d, m', hj, k1, k2, k3⟩ := hj
      have h20 : law10_SemaPlays_r20_p l ((i : Int), c, m) (e, e, d, m') = some false := by
        simp only [law10_SemaPlays_r20_p, ho, t1, t2, cond_true, bne_self_eq_false, cond_false]
        by_cases hin : 0 ≤ o.1 ∧ o.1 < 8
        · obtain ⟨k, hk⟩ : ∃ k : Nat, o.1 = (k : Int) := ⟨o.1.toNat, by omega⟩
          have hk8 : k < 8 := by omega
          rw [hk, RCount_at m' k hk8 (by omega), ← k2 k hk8]
          have hcv : countV d (k : Int) = d.getD k 0 := by
            unfold countV
            rw [show semIn (k : Int) = true from decide_eq_true (by omega), show ((k : Int).toNat) = k by omega]
            rfl
          simp only [Option.bind_some, hcv, bne_self_eq_false, cond_false]
        · rw [RCount m' o.1 (by omega)]
          simp only [Option.bind_some]
          cases (countV d o.1 != _) with
          | false => rfl
          | true =>
            simp only [cond_true]
            by_cases h0 : o.1 ≥ 0
            · rw [decide_eq_true h0, decide_eq_false (by omega)]; rfl
            · rw [decide_eq_false h0]; rfl
      simp only [law10_SemaPlays_l7_p, h7, h9, law10_SemaPlays_r15_p, law10_SemaPlays_r16_p, ho, t1, t2, cond_true, Option.bind_some, w1, w2, hj, h20]
      rw [decide_eq_true hlt, i64_in ((i : Int) + 1) (by omega)]
      exact .inl ⟨_, rfl, ⟨i + 1, by simp only; omega, by omega, k1, k2, by simp only; omega⟩, by simp only; omega⟩
    · simp only [law10_SemaPlays_l7_p, h7]
      rw [decide_eq_false hlt]
      exact .inr ⟨_, rfl, _, c, m, rfl, hc, hr, by omega⟩) LL (0, zs, []) ⟨0, rfl, by omega, zs_ok, fun k _ => by simp only; rw [zs_get]; rfl, by simp⟩ (LL_lt (by simp only; omega))
  subst hz1
  rw [hz]
  have c1 : semCount d (-1) = some 0 := rfl
  have c2 : semCount d 8 = some 0 := rfl
  simp only [Option.bind_some, either, law10_SemaPlays_r22_p, semAll, RAll m (by omega) d hok hrel, ints_self d (by rw [hok.1]; omega), cond_true, c1, c2, beq_self_eq_true]
end Go.V.P
