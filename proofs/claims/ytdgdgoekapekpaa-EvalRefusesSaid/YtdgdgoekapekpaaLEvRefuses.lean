/- Plain laws of layer 6: EvalRefuses. -/
import Derived.Test.YtdgdgoekapekpaaLErrE
import Derived.Test.YtdgdgoekapekpaaLEvB
import Derived.Test.YtdgdgoekapekpaaLEvC
import Derived.Test.YtdgdgoekapekpaaEr1
import Derived.Test.YtdgdgoekapekpaaEr1
import Derived.Test.YtdgdgoekapekpaaEr2
namespace Go.V.P
open Go Go.V Go.IntWalk
set_option linter.unusedVariables false
set_option linter.unusedSimpArgs false
set_option maxRecDepth 20000
theorem shown06 : law06_shown = some true := by decide +kernel
/-- numbers for any values, also for those that may not be -/
theorem Filled_any (g : Graph) (l : List Int) (hb : i8s l) (hg : g.1.length ≤ 6) : ∃ d, ref06_Filled g l = some d ∧ d.length = g.1.length ∧ ∀ (j : Nat) (h : j < g.1.length), ((gt d (j : Int) []).length : Int) = sizeV (vS g.1[j]) := by
  obtain ⟨z, hz, h2⟩ := iterN_inv (p := ref06_Filled_l4_p g l) (fun s : List (List Int) × Int × Int => ∃ i : Nat, s.2.2 = (i : Int) ∧ i ≤ g.1.length ∧ s.1.length = i ∧ 0 ≤ s.2.1 ∧ s.2.1 ≤ 2048 * (i : Int) ∧ ∀ (j : Nat) (h : j < g.1.length), j < i → ((gt s.1 (j : Int) []).length : Int) = sizeV (vS g.1[j])) (fun s => g.1.length - s.2.2.toNat)
    (Q := fun z => z.1.length = g.1.length ∧ ∀ (j : Nat) (h : j < g.1.length), ((gt z.1 (j : Int) []).length : Int) = sizeV (vS g.1[j])) (fun s hs => by
    obtain ⟨i, hi, hil, hl, h0, h1, hf⟩ := hs
    by_cases h : i < g.1.length
    · obtain ⟨t1, t2, t3⟩ := step_t h (by omega)
      obtain ⟨y, y1, y2, y3, y4⟩ := filled06_row g l hb s i hi h hg s.2.1 h0 (by omega)
      have hs := sizeV_in (vS g.1[i])
      have h15 : ref06_Filled_r15_p s y = some () := by
        unfold ref06_Filled_r15_p
        rw [decide_eq_true (by simp only [List.length_singleton, maxL]; omega)]
        rfl
      unfold ref06_Filled_l4_p
      rw [hi, t1, y1, t3]
      simp only [cond_true, Option.bind_some, h15]
      refine .inl ⟨_, rfl, ⟨i + 1, by simp only; omega, by omega, by simp [hl], by simp only; omega, by simp only; omega, fun j hj hji => ?_⟩, by simp only; omega⟩
      by_cases he : j = i
      · subst he
        have : gt (s.1 ++ [y.2.1]) (j : Int) [] = y.2.1 := by
          rw [gt_at _ (show j < (s.1 ++ [y.2.1]).length by simp [hl])]
          simp [hl]
        simp only
        rw [this]
        exact y3
      · have := hf j hj (by omega)
        have e : gt (s.1 ++ [y.2.1]) (j : Int) [] = gt s.1 (j : Int) [] := by
          rw [gt_at _ (show j < (s.1 ++ [y.2.1]).length by simp [hl]; omega), gt_at _ (show j < s.1.length by omega), List.getElem_append_left]
        simp only
        rw [e]
        exact this
    · refine .inr ⟨s, ?_, by omega, fun j hj => hf j hj (by omega)⟩
      unfold ref06_Filled_l4_p
      rw [hi, decide_eq_false (by omega)]
      rfl) LL ([], 0, 0) ⟨0, rfl, by omega, rfl, by simp only; omega, by simp only; omega, fun j _ h => absurd h (by omega)⟩ (LL_lt (by simp only; omega))
  unfold ref06_Filled
  rw [hz]
  exact ⟨_, rfl, h2⟩
theorem fits_len (l : List I4) (d : List (List Int)) (h : l.length ≠ d.length) : eval_fits l d = some false := by
  unfold eval_fits slices_EqualFuncapi_Value_int8_api_Value_int8
  rw [show ((l.length : Int) != (d.length : Int)) = true by simp only [bne_iff_ne, ne_eq, Int.ofNat_inj]; exact h]
  rfl
theorem fits_bad (l : List I4) (d : List (List Int)) (hl : l.length < 1000000) (hd : d.length = l.length) (k : Nat) (hk : k < l.length) (hbad : sizeV (vS l[k]) ≠ ((gt d (k : Int) []).length : Int)) : eval_fits l d = some false := by
  obtain ⟨z, hz, hq⟩ := iterN_inv (p := slices_EqualFuncapi_Value_int8_api_Value_int8_l4_p l d) (fun s : Int => ∃ i : Nat, s = (i : Int) ∧ i ≤ k) (fun s => k + 1 - s.toNat) (Q := fun z => z = .inr ()) (fun s hs => by
    obtain ⟨i, rfl, hi⟩ := hs
    obtain ⟨t1, t2, t3⟩ := step_t (show i < l.length by omega) hl
    have u1 : decide ((i : Int) < (d.length : Int)) = true := decide_eq_true (by omega)
    have e1 : eval_fits_1 (gt l (i : Int) dI4) (gt d (i : Int) []) = some (sizeV (vS (gt l (i : Int) dI4)) == ((gt d (i : Int) []).length : Int)) := by
      unfold eval_fits_1
      have : shape_Size ((gt l (i : Int) dI4).1, (gt l (i : Int) dI4).2.1, (gt l (i : Int) dI4).2.2.1) = some (sizeV (vS (gt l (i : Int) dI4))) := shape_Size_eq _
      rw [this]
      rfl
    simp only [slices_EqualFuncapi_Value_int8_api_Value_int8_l4_p, slices_EqualFuncapi_Value_int8_api_Value_int8_r5_p, slices_EqualFuncapi_Value_int8_api_Value_int8_r6_p, t1, t2, t3, u1, e1, cond_true, Option.bind_some]
    by_cases hs : sizeV (vS (gt l (i : Int) dI4)) = ((gt d (i : Int) []).length : Int)
    · rw [show (sizeV (vS (gt l (i : Int) dI4)) == ((gt d (i : Int) []).length : Int)) = true by simpa using hs]
      have hne : i ≠ k := fun e => by
        subst e
        rw [gt_at dI4 hk] at hs
        exact hbad hs
      exact .inl ⟨(i : Int) + 1, rfl, ⟨i + 1, by omega, by omega⟩, by omega⟩
    · rw [show (sizeV (vS (gt l (i : Int) dI4)) == ((gt d (i : Int) []).length : Int)) = false by simpa using hs]
      exact .inr ⟨_, rfl, rfl⟩) LL 0 ⟨0, rfl, by omega⟩ (LL_lt (by simp only [Int.toNat_zero]; omega))
  unfold eval_fits slices_EqualFuncapi_Value_int8_api_Value_int8
  rw [show ((l.length : Int) != (d.length : Int)) = false by rw [hd]; simp, hz, hq]
  rfl
/-- what is told of numbers that don't fit -/
def wantE (e : Int) : Int := if e = 0 then 1 else e
theorem refused (m : Graph) (v : List I4) (e : Int) (hv : graph_Values m = some (v, e)) (d : List (List Int)) (h : e ≠ 0 ∨ eval_fits m.1 d = some false) : eval_All m d = some ([], wantE e) ∧ eval_Outs m d = some ([], wantE e) := by
  have hA : eval_All m d = some ([], wantE e) := by
    unfold eval_All wantE
    rw [hv]
    simp only [Option.bind_some]
    by_cases he : e = 0
    · rw [if_pos he, show (e != 0) = false by simpa using he, h.resolve_left (fun q => q he)]
      rfl
    · rw [if_neg he, show (e != 0) = true by simpa using he]
      rfl
  refine ⟨hA, ?_⟩
  have hw : (wantE e != 0) = true := by
    unfold wantE
    by_cases he : e = 0
    · rw [if_pos he]; rfl
    · rw [if_neg he]; simpa using he
  unfold eval_Outs
  rw [hA]
  simp only [Option.bind_some, hw, cond_true]
theorem EvalRefuses_true (g : Graph) (l : List Int) (which : Int) (kg : Ts.ok tsGraph g) (kl : Ts.ok (.one (.sl (.one (.int .i8)))) l) (kw : Ts.ok (.one (.int .u8)) which) : law06_EvalRefuses g l which = some true := by
  obtain ⟨m, em, hm, hB⟩ := less06 g kg
  have hb := (i8s_ok kl).1
  obtain ⟨d, d1, d2, d3⟩ := Filled_any m l hb hm.1
  have h6 := hm.1
  have hw : 0 ≤ which ∧ which ≤ 255 := kw
  obtain ⟨v, e, hv⟩ : ∃ v e, valuesE m = (v, e) := ⟨_, _, rfl⟩
  have v3 := ValuesE3 m hm
  have v1 := ValuesE m hm
  rw [hv] at v3 v1
  have h0 : m.1.length = 0 → e ≠ 0 := fun hz he => by
    rcases valuesE_is m with ⟨u, u1, u2⟩ | ⟨u1, f, f1, f2⟩
    · unfold valuesV at u1
      split at u1
      · rename_i hf
        unfold fitB at hf
        simp only [Bool.and_eq_true, decide_eq_true_iff] at hf
        omega
      · cases u1
    · rw [hv] at f2
      exact f1 ((Prod.mk.inj f2).2.symm.trans he)
  unfold law06_EvalRefuses
  rw [shown06, em]
  simp only [Option.bind_some, v3, d1]
  by_cases hz : d.length = 0
  · have he := h0 (by omega)
    rw [show ((d.length : Int) == 0) = true by simpa using hz, (refused m v e v1 d (.inl he)).2]
    simp only [cond_true, Option.bind_some]
    show some (bif true then bif wantE e == e then e != 0 else false else false) = some true
    unfold wantE
    rw [if_neg he, show (e != 0) = true by simpa using he]
    simp
  · rw [show ((d.length : Int) == 0) = false by simpa using hz]
    have hlen : d.length ≤ 6 := by omega
    have hwr := i64_in which (by omega)
    have ht : Int.tmod which (d.length : Int) = which % (d.length : Int) := Int.tmod_eq_emod_of_nonneg hw.1
    have m1 := Int.emod_nonneg which (show (d.length : Int) ≠ 0 by omega)
    have m2 := Int.emod_lt_of_pos which (show 0 < (d.length : Int) by omega)
    obtain ⟨k, hk⟩ : ∃ k : Nat, which % (d.length : Int) = (k : Int) := ⟨(which % (d.length : Int)).toNat, by omega⟩
    rw [hk] at m1 m2
    have hkd : k < d.length := by omega
    have hkl := d3 k (by omega)
    have hsz := sizeV_in (vS (m.1[k]'(by omega)))
    have hK : Int.tmod (IntKind.wrap .i64 which) (d.length : Int) = (k : Int) := by rw [hwr, ht, hk]
    have hne : d.isEmpty = false := by cases d with | nil => exact absurd rfl hz | cons _ _ => rfl
    have h8 : law06_EvalRefuses_r8_p d = some () := by
      unfold law06_EvalRefuses_r8_p
      rw [show ((d.length : Int) == 0) = false by simpa using hz]
      rfl
    have h12 : law06_EvalRefuses_r12_p d = some () := by
      unfold law06_EvalRefuses_r12_p
      rw [hne, decide_eq_true (by simp only [List.length_nil, maxL]; omega)]
      rfl
    have h13 : law06_EvalRefuses_r13_p which d = some () := by
      unfold law06_EvalRefuses_r13_p
      rw [hK, decide_eq_true (show (0 : Int) ≤ (k : Int) by omega), decide_eq_true (show (k : Int) < (d.length : Int) by omega), decide_eq_true (show ([] : List Int).length + (gt d (k : Int) []).length ≤ maxL by simp only [List.length_nil, maxL]; omega),
        decide_eq_true (show (([] : List Int) ++ gt d (k : Int) ([] : List Int)).length + ([(1 : Int)] : List Int).length ≤ maxL by simp only [List.nil_append, List.length_singleton, maxL]; omega), decide_eq_true (show Int.toNat (k : Int) < d.length by omega)]
      rfl
    have h14 : law06_EvalRefuses_r14_p which m d = some (wantE e) := by
      unfold law06_EvalRefuses_r14_p
      rw [hK, List.length_set, show Nat.beq d.length d.length = true from Nat.beq_refl _]
      have hf : eval_fits m.1 (d.set (Int.toNat (k : Int)) (([] ++ gt d (k : Int) []) ++ [1])) = some false := by
        refine fits_bad m.1 _ (by omega) (by rw [List.length_set]; exact d2) k (by omega) ?_
        rw [gt_at [] (by rw [List.length_set]; exact hkd), show Int.toNat (k : Int) = k by omega, List.getElem_set_self]
        simp only [List.nil_append, List.length_append, List.length_singleton]
        omega
      rw [(refused m v e v1 _ (.inr hf)).2]
      rfl
    have h15 : law06_EvalRefuses_r15_p m d = some (wantE e) := by
      unfold law06_EvalRefuses_r15_p
      have hf : eval_fits m.1 (([] ++ d) ++ [gt d 0 []]) = some false := fits_len _ _ (by simp only [List.nil_append, List.length_append, List.length_singleton]; omega)
      rw [decide_eq_true (show ([] : List (List Int)).length + d.length ≤ maxL by simp only [List.length_nil, maxL]; omega), decide_eq_true (show (0 : Int) < (d.length : Int) by omega), decide_eq_true (show (([] : List (List Int)) ++ d).length + ([gt d (0 : Int) ([] : List Int)] : List (List Int)).length ≤ maxL by simp only [List.nil_append, List.length_singleton, maxL]; omega),
        (refused m v e v1 _ (.inr hf)).1]
      rfl
    have h16 : law06_EvalRefuses_r16_p m d = some (wantE e) := by
      unfold law06_EvalRefuses_r16_p
      rw [i64_in ((d.length : Int) - 1) (by omega)]
      have hf : eval_fits m.1 ((d.take (Int.toNat ((d.length : Int) - 1))).drop (Int.toNat (0 : Int))) = some false := fits_len _ _ (by simp only [List.length_drop, List.length_take]; omega)
      rw [decide_eq_true (by omega), decide_eq_true (by omega), (refused m v e v1 _ (.inr hf)).1]
      rfl
    simp only [cond_false, Option.bind_some, h8, h12, h13, h14, h15, h16]
    have hj : law06_EvalRefuses_j10_p (v, e) = wantE e := by
      show (bif e == 0 then (1 : Int) else e) = wantE e
      unfold wantE
      by_cases he : e = 0
      · rw [if_pos he, show (e == 0) = true by simpa using he]; rfl
      · rw [if_neg he, show (e == 0) = false by simpa using he]; rfl
    show some (bif true then bif wantE e == law06_EvalRefuses_j10_p (v, e) then bif wantE e == law06_EvalRefuses_j10_p (v, e) then wantE e == law06_EvalRefuses_j10_p (v, e) else false else false else false) = some true
    rw [hj]
    simp
end Go.V.P
