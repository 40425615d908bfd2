/- Plain laws of layer 19: BuildMay. -/
import Derived.Test.YtaeckbkjlmnigaaLBMay1
import Derived.Test.YtaeckbkjlmnigaaLBSelf
import Derived.Test.YtaeckbkjlmnigaaBm2
import Derived.Test.YtaeckbkjlmnigaaBm3
namespace Go.V.P
open Go Go.V Go.IntWalk
set_option linter.unusedVariables false
set_option linter.unusedSimpArgs false
set_option maxRecDepth 20000
section
variable {g : Graph} {vals : List I4}
theorem Built.plc (hB : Built g vals) (hg : okGraph g) : ∀ v : Nat, v < vals.length → 0 ≤ gt (plcV g) (v : Int) 0 ∧ gt (plcV g) (v : Int) 0 ≤ 32768 := by
  obtain ⟨hl, hb, _⟩ := values_in hB.vv
  intro v hv
  have hs := sizes_ok hg hB.vv
  have hlen := hB.lots.len
  obtain ⟨_, h2, h3⟩ := hB.lots.at_ (u := v) (by omega)
  have h4 := (sumS_mono hs (v := v) (by omega)).2.1
  rw [show gt (plcV g) (v : Int) 0 = pV (lotsV g) v from placesL_get (by omega)]
  exact ⟨h2.1, by omega⟩
theorem Built.streams (hB : Built g vals) (hg : okGraph g) : (mayS (strS g vals (plcV g) g.2.1.length).1 ∧ mayS (strS g vals (plcV g) g.2.1.length).2.1 ∧ mayS (strS g vals (plcV g) g.2.1.length).2.2) ∧ (strS g vals (plcV g) g.2.1.length).1.length ≤ 110 * g.2.1.length ∧ (strS g vals (plcV g) g.2.1.length).2.1.length ≤ 110 * g.2.1.length ∧ (strS g vals (plcV g) g.2.1.length).2.2.length ≤ 110 * g.2.1.length :=
  str_may hg hB.vv hB.plen (fun k hk => hB.plc hg k (by rw [← hB.plen]; exact hk)) _ (Nat.le_refl _)
theorem Built.may (hB : Built g vals) (hg : okGraph g) : ref09_May (imgV g vals) = some 0 := by
  obtain ⟨hl, hb, _⟩ := values_in hB.vv
  obtain ⟨⟨s1, s2, s3⟩, s4, s5, s6⟩ := hB.streams hg
  have hp := hB.plen
  have hs := sizes_ok hg hB.vv
  unfold ref09_May
  rw [show ((imgV g vals).1, (imgV g vals).2.1, (imgV g vals).2.2.1) = g from rfl, ValuesE3 g hg, hB.ve]
  have hne : (((imgV g vals).2.2.2.1.length : Int) != (vals.length : Int)) = false := by
    rw [show (imgV g vals).2.2.2.1 = plcV g from rfl, hp]
    simp
  simp only [Option.bind_some, bne_self_eq_false, cond_false, hne]
  have hloop := iterN_for (p := ref09_May_l7_p (imgV g vals) (vals, 0)) (z := .inl (vals.length : Int)) vals.length (fun k => (k : Int)) LL (LL_lt (by omega)) (fun v hv => by
    have d1 : (v : Int) < (vals.length : Int) := by omega
    have d2 : (0 : Int) ≤ (v : Int) := by omega
    have d3 : (v : Int) < ((imgV g vals).2.2.2.1.length : Int) := by show (v : Int) < ((plcV g).length : Int); omega
    have w1 : IntKind.wrap .i64 ((v : Int) + 1) = ((v + 1 : Nat) : Int) := by rw [i64_in _ (by omega)]; omega
    obtain ⟨q1, q2⟩ := hB.plc hg v hv
    have hz := hs v (by omega)
    have hz' : 1 ≤ ref02_Size ((gt vals (v : Int) dI4).1, (gt vals (v : Int) dI4).2.1, (gt vals (v : Int) dI4).2.2.1) ∧ ref02_Size ((gt vals (v : Int) dI4).1, (gt vals (v : Int) dI4).2.1, (gt vals (v : Int) dI4).2.2.1) ≤ 2048 := by
      rw [ref02_Size_eq]
      exact hz
    have e1 : gt (imgV g vals).2.2.2.1 (v : Int) 0 = gt (plcV g) (v : Int) 0 := rfl
    have d4 : ¬ gt (plcV g) (v : Int) 0 < 0 := by omega
    have d5 : ¬ gt (plcV g) (v : Int) 0 > IntKind.wrap .i64 (65536 - ref02_Size ((gt vals (v : Int) dI4).1, (gt vals (v : Int) dI4).2.1, (gt vals (v : Int) dI4).2.2.1)) := by
      rw [i64_in _ (by omega)]
      omega
    simp only [ref09_May_l7_p, ref09_May_r9_p, d1, d2, d3, e1, d4, d5, w1, decide_true, decide_false, cond_true, cond_false, Option.bind_some]) (by
    simp only [ref09_May_l7_p, Int.lt_irrefl, decide_false, cond_false])
  have hloop' : iterN (ref09_May_l7_p (imgV g vals) (vals, 0)) LL 0 = _ := hloop
  rw [hloop']
  have hl2 := iterN_for (p := ref09_May_l12_p (imgV g vals)) (z := .inl (3 : Int)) 3 (fun k => (k : Int)) LL (LL_lt (by omega)) (fun k hk => by
    have p1 : ref08_Put (imgV g vals).2.2.2.2.1 = some ((), 0) := Put_may s1 (by omega)
    have p2 : ref08_Put (imgV g vals).2.2.2.2.2.1 = some ((), 0) := Put_may s2 (by omega)
    have p3 : ref08_Put (imgV g vals).2.2.2.2.2.2 = some ((), 0) := Put_may s3 (by omega)
    rcases (by omega : k = 0 ∨ k = 1 ∨ k = 2) with rfl | rfl | rfl
    · simp only [ref09_May_l12_p, ref09_May_r14_p, p1]; rfl
    · simp only [ref09_May_l12_p, ref09_May_r14_p, p2]; rfl
    · simp only [ref09_May_l12_p, ref09_May_r14_p, p3]; rfl) rfl
  have hl2' : iterN (ref09_May_l12_p (imgV g vals)) LL 0 = _ := hl2
  simp only [Option.bind_some, either]
  rw [hl2']
  rfl
end
def cntS (l : List I14) : List Int := [balI 0 l, balI 1 l, balI 2 l, balI 3 l, balI 4 l, balI 5 l, balI 6 l, balI 7 l]
theorem cntS_at (l : List I14) (s : Int) (h : 0 ≤ s ∧ s < 8) : gt (cntS l) s 0 = balI s l := by
  obtain ⟨h0, h8⟩ := h
  rcases (by omega : s = 0 ∨ s = 1 ∨ s = 2 ∨ s = 3 ∨ s = 4 ∨ s = 5 ∨ s = 6 ∨ s = 7) with rfl | rfl | rfl | rfl | rfl | rfl | rfl | rfl <;> rfl
theorem bal_abs (s : Int) : ∀ l : List I14, -(l.length : Int) ≤ balI s l ∧ balI s l ≤ (l.length : Int)
  | [] => by simp [balI]
  | c :: l => by
    have := bal_abs s l
    simp only [balI, List.length_cons, dS]
    split <;> split <;> omega
theorem bal_snoc (s : Int) (l : List I14) (c : I14) : balI s (l ++ [c]) = balI s l + dS s c := by rw [balI_append]; simp [balI]
theorem cnt_none (l : List I14) (c : I14) (h1 : c.1 ≠ 5) (h2 : c.1 ≠ 6) : cntS (l ++ [c]) = cntS l := by
  simp only [cntS, bal_snoc, dS_no _ h1 h2, Int.add_zero]
theorem dS_sig (s : Int) {c : I14} (h : c.1 = 6) : dS s c = if c.2.1 = s then 1 else 0 := by
  unfold dS
  by_cases hs : c.2.1 = s <;> simp [h, hs]
theorem dS_wai (s : Int) {c : I14} (h : c.1 = 5) : dS s c = if c.2.1 = s then -1 else 0 := by
  unfold dS
  by_cases hs : c.2.1 = s <;> simp [h, hs]
theorem cnt_sig (l : List I14) (c : I14) (h : c.1 = 6) (h0 : 0 ≤ c.2.1 ∧ c.2.1 < 8) (hl : l.length ≤ 100000) : (cntS l).set c.2.1.toNat (IntKind.wrap .i64 (gt (cntS l) c.2.1 0 + 1)) = cntS (l ++ [c]) := by
  have hb := bal_abs c.2.1 l
  rw [cntS_at l _ h0, i64_in _ (by omega)]
  simp only [cntS, bal_snoc, dS_sig _ h]
  generalize hs : c.2.1 = s at *
  rcases (by omega : s = 0 ∨ s = 1 ∨ s = 2 ∨ s = 3 ∨ s = 4 ∨ s = 5 ∨ s = 6 ∨ s = 7) with rfl | rfl | rfl | rfl | rfl | rfl | rfl | rfl <;> simp
theorem cnt_wai (l : List I14) (c : I14) (h : c.1 = 5) (h0 : 0 ≤ c.2.1 ∧ c.2.1 < 8) (hl : l.length ≤ 100000) : (cntS l).set c.2.1.toNat (IntKind.wrap .i64 (gt (cntS l) c.2.1 0 - 1)) = cntS (l ++ [c]) := by
  have hb := bal_abs c.2.1 l
  rw [cntS_at l _ h0, i64_in _ (by omega)]
  simp only [cntS, bal_snoc, dS_wai _ h]
  generalize hs : c.2.1 = s at *
  rcases (by omega : s = 0 ∨ s = 1 ∨ s = 2 ∨ s = 3 ∨ s = 4 ∨ s = 5 ∨ s = 6 ∨ s = 7) with rfl | rfl | rfl | rfl | rfl | rfl | rfl | rfl <;> simp <;> omega
theorem steps8 (c : I14) : ref08_Steps c = stepsC c := by
  simp only [ref08_Steps, ref08_Steps_q, ref08_Steps_r1_p, ref08_Steps_r1_q, stepsC]
  by_cases h1 : 1 ≤ c.1
  · by_cases h4 : c.1 ≤ 4
    · simp [h1, h4]
    · simp [h1, h4]
  · simp [h1]
theorem stream_loop {pre S : List I14} (hS : mayS S) (hl : pre.length + S.length ≤ 90000) :
    iterN (law19_BuildMay_l17_p (S ++ [hlt])) LL (sumC pre, 0, cntS pre) = some (.inl (sumC (pre ++ (S ++ [hlt])), ((S ++ [hlt]).length : Int), cntS (pre ++ (S ++ [hlt])))) := by
  have hlen : (S ++ [hlt]).length = S.length + 1 := by simp
  have := iterN_for (p := law19_BuildMay_l17_p (S ++ [hlt])) (z := .inl (sumC (pre ++ (S ++ [hlt])), ((S ++ [hlt]).length : Int), cntS (pre ++ (S ++ [hlt])))) (S ++ [hlt]).length (fun i => (sumC (pre ++ (S ++ [hlt]).take i), (i : Int), cntS (pre ++ (S ++ [hlt]).take i))) LL (LL_lt (by omega)) (fun i hi => by
    obtain ⟨c, hc⟩ : ∃ c, c = gt (S ++ [hlt]) (i : Int) dI14 := ⟨_, rfl⟩
    have htk : (S ++ [hlt]).take (i + 1) = (S ++ [hlt]).take i ++ [c] := by rw [hc]; exact take_snoc hi dI14
    have d1 : (i : Int) < ((S ++ [hlt]).length : Int) := by omega
    have d2 : (0 : Int) ≤ (i : Int) := by omega
    have w1 : IntKind.wrap .i64 ((i : Int) + 1) = ((i + 1 : Nat) : Int) := by rw [i64_in _ (by omega)]; omega
    have w2 : IntKind.wrap .i64 (((S ++ [hlt]).length : Int) - 1) = (S.length : Int) := by rw [i64_in _ (by omega)]; omega
    have hle : (pre ++ (S ++ [hlt]).take i).length ≤ 100000 := by simp only [List.length_append, List.length_take]; omega
    obtain ⟨pr, hpr⟩ : ∃ pr, pr = pre ++ (S ++ [hlt]).take i := ⟨_, rfl⟩
    have hcl : (cntS pr).length = 8 := rfl
    have hkind : (i < S.length ∧ mayC c) ∨ (i = S.length ∧ c = hlt) := by
      by_cases h : i < S.length
      · left
        refine ⟨h, ?_⟩
        rw [hc]
        have : gt (S ++ [hlt]) (i : Int) dI14 = gt S (i : Int) dI14 := gt_pre S [hlt] (by omega) (by omega) dI14
        rw [this]
        exact hS _ (gt_mem h dI14)
      · right
        have hi' : i = S.length := by omega
        refine ⟨hi', ?_⟩
        rw [hc, hi']
        unfold gt
        rw [show ((S.length : Int).toNat) = S.length by omega, List.getD_eq_getElem?_getD, List.getElem?_append_right (Nat.le_refl _), Nat.sub_self]
        rfl
    have h7 : (c.1 == 7) = ((i : Int) == (S.length : Int)) := by
      rcases hkind with ⟨h, hm⟩ | ⟨h, rfl⟩
      · have e1 : c.1 ≠ 7 := by have := hm.2; omega
        have e2 : (i : Int) ≠ (S.length : Int) := by omega
        rw [show (c.1 == 7) = false by simpa using e1, show ((i : Int) == (S.length : Int)) = false by rw [beq_eq_false_iff_ne]; exact e2]
      · rw [show (hlt.1 == 7) = true from rfl, h, beq_self_eq_true]
    have hstep : sumC (pr ++ [c]) = IntKind.wrap .i64 (sumC pr + ref08_Steps c) := by rw [sumC_snoc, steps8]; first | exact i64_left _ | exact (i64_left _).symm
    simp only [htk, ← List.append_assoc, ← hpr, hstep]
    have hr19 : law19_BuildMay_r19_p (S ++ [hlt]) (sumC pr, (i : Int), cntS pr) = some false := by
      simp only [law19_BuildMay_r19_p, d1, d2, decide_true, cond_true, ← hc, w2, h7]
      simp
    have hr21 : law19_BuildMay_r21_p (S ++ [hlt]) (sumC pr, (i : Int), cntS pr) = some () := by simp only [law19_BuildMay_r21_p, d1, d2, decide_true, cond_true]
    have hr23 : law19_BuildMay_r23_p (S ++ [hlt]) (sumC pr, (i : Int), cntS pr) = some () := by simp only [law19_BuildMay_r23_p, d1, d2, decide_true, cond_true]
    have hr25 : law19_BuildMay_r25_p (S ++ [hlt]) (sumC pr, (i : Int), cntS pr) = some () := by simp only [law19_BuildMay_r25_p, d1, d2, decide_true, cond_true]
    simp only [law19_BuildMay_l17_p, law19_BuildMay_j21_p, law19_BuildMay_j23_p, d1, decide_true, cond_true, hr19, hr21, hr23, hr25, Option.bind_some, cond_false, ← hc, w1]
    by_cases k6 : c.1 = 6
    · have hin : 0 ≤ c.2.1 ∧ c.2.1 < 8 := by
        rcases hkind with ⟨h, hm⟩ | ⟨h, rfl⟩
        · have := hm.2; omega
        · exact absurd k6 (by simp)
      have e6 : (c.1 == 6) = true := by simp [k6]
      have e5 : (c.1 == 5) = false := by simp [k6]
      have d3 : c.2.1.toNat < (cntS pr).length := by rw [hcl]; omega
      have hr22 : law19_BuildMay_r22_p (S ++ [hlt]) (sumC pr, (i : Int), cntS pr) = some () := by simp only [law19_BuildMay_r22_p, d1, d2, ← hc, hin.1, hin.2, d3, decide_true, cond_true]
      simp only [e6, e5, hr22, cond_true, cond_false, Option.bind_some, cnt_sig pr c k6 hin (hpr ▸ hle)]
    · have e6 : (c.1 == 6) = false := by simp [k6]
      by_cases k5 : c.1 = 5
      · have hin : 0 ≤ c.2.1 ∧ c.2.1 < 8 := by
          rcases hkind with ⟨h, hm⟩ | ⟨h, rfl⟩
          · have := hm.2; omega
          · exact absurd k5 (by simp)
        have e5 : (c.1 == 5) = true := by simp [k5]
        have d3 : c.2.1.toNat < (cntS pr).length := by rw [hcl]; omega
        have hr24 : law19_BuildMay_r24_p (S ++ [hlt]) (sumC pr, (i : Int), cntS pr) (cntS pr) = some () := by simp only [law19_BuildMay_r24_p, d1, d2, ← hc, hin.1, hin.2, d3, decide_true, cond_true]
        simp only [e6, e5, hr24, cond_true, cond_false, Option.bind_some, cnt_wai pr c k5 hin (hpr ▸ hle)]
      · have e5 : (c.1 == 5) = false := by simp [k5]
        simp only [e6, e5, cond_false, Option.bind_some, cnt_none pr c k5 k6]) (by
    simp only [law19_BuildMay_l17_p, Int.lt_irrefl, decide_false, cond_false, List.take_length])
  simpa using this
section
variable {g : Graph} {vals : List I4}
theorem BuildMay_true (g : Graph) (_ : Ts.ok tsGraph g) : law19_BuildMay g = some true := by
  obtain ⟨m, hm, hg⟩ := less19 g
  unfold law19_BuildMay
  rw [shown19, hm]
  simp only [Option.bind_some]
  rw [ValuesE3 m hg]
  simp only [Option.bind_some]
  rcases Compile_or hg with ⟨vals, hB⟩ | ⟨e, he, hv, hE, hC⟩
  · obtain ⟨hl, hb, _⟩ := values_in hB.vv
    obtain ⟨⟨s1, s2, s3⟩, s4, s5, s6⟩ := hB.streams hg
    have hbal := fun s => str_bal hg hB.vv hB.plen s m.2.1.length (Nat.le_refl _)
    rw [hB.run, hB.ve]
    have hsame := graph_self m hg
    have hs2 : ref03_Same ((imgV m vals, (0 : Int)).1.1, (imgV m vals, (0 : Int)).1.2.1, (imgV m vals, (0 : Int)).1.2.2.1) m = some true := hsame
    have hr8 : law19_BuildMay_r8_p (imgV m vals, 0) true = some false := by
      simp only [law19_BuildMay_r8_p, bne_self_eq_false, cond_false, hB.may hg, Option.bind_some, Bool.not_true]
    have hr10 : law19_BuildMay_r10_p = some () := rfl
    simp only [Option.bind_some, bne_self_eq_false, cond_false, hs2, hr8, hr10]
    generalize hA : (strS m vals (plcV m) m.2.1.length).1 = A at *
    generalize hBb : (strS m vals (plcV m) m.2.1.length).2.1 = B at *
    generalize hCc : (strS m vals (plcV m) m.2.1.length).2.2 = C at *
    have i1 : (imgV m vals).2.2.2.2.1 = A ++ [hlt] := by rw [← hA]; rfl
    have i2 : (imgV m vals).2.2.2.2.2.1 = B ++ [hlt] := by rw [← hBb]; rfl
    have i3 : (imgV m vals).2.2.2.2.2.2 = C ++ [hlt] := by rw [← hCc]; rfl
    have l1 := stream_loop (pre := []) s1 (by simp; omega)
    have l2 := stream_loop (pre := A ++ [hlt]) s2 (by simp; omega)
    have l3 := stream_loop (pre := A ++ [hlt] ++ (B ++ [hlt])) s3 (by simp; omega)
    rw [List.nil_append] at l1
    have z0 : sumC [] = 0 := rfl
    have z1 : cntS [] = List.replicate 8 (0 : Int) := rfl
    rw [z0, z1] at l1
    have hloop := iterN_for (p := law19_BuildMay_l13_p (imgV m vals, 0)) (z := .inl (sumC (A ++ [hlt] ++ (B ++ [hlt]) ++ (C ++ [hlt])), (3 : Int), cntS (A ++ [hlt] ++ (B ++ [hlt]) ++ (C ++ [hlt])))) 3
      (fun k => match k with | 0 => ((0 : Int), (0 : Int), List.replicate 8 (0 : Int)) | 1 => (sumC (A ++ [hlt]), 1, cntS (A ++ [hlt])) | 2 => (sumC (A ++ [hlt] ++ (B ++ [hlt])), 2, cntS (A ++ [hlt] ++ (B ++ [hlt]))) | _ => (sumC (A ++ [hlt] ++ (B ++ [hlt]) ++ (C ++ [hlt])), 3, cntS (A ++ [hlt] ++ (B ++ [hlt]) ++ (C ++ [hlt])))) LL (LL_lt (by omega)) (fun k hk => by
        rcases (by omega : k = 0 ∨ k = 1 ∨ k = 2) with rfl | rfl | rfl
        · simp only [law19_BuildMay_l13_p, law19_BuildMay_r15_p, i1, show decide ((0 : Int) < 3) = true from rfl, show ((0 : Int) == 0) = true from rfl, cond_true, cond_false, Option.bind_some]
          rw [l1]
          rfl
        · simp only [law19_BuildMay_l13_p, law19_BuildMay_r15_p, i2, show decide ((1 : Int) < 3) = true from rfl, show ((1 : Int) == 0) = false from rfl, show ((1 : Int) == 1) = true from rfl, cond_true, cond_false, Option.bind_some]
          rw [l2]
          rfl
        · simp only [law19_BuildMay_l13_p, law19_BuildMay_r15_p, i3, show decide ((2 : Int) < 3) = true from rfl, show ((2 : Int) == 0) = false from rfl, show ((2 : Int) == 1) = false from rfl, show ((2 : Int) == 2) = true from rfl, cond_true, cond_false, Option.bind_some]
          rw [l3]
          rfl) rfl
    have hloop' : iterN (law19_BuildMay_l13_p (imgV m vals, 0)) LL ((0 : Int), (0 : Int), List.replicate 8 (0 : Int)) = _ := hloop
    rw [hloop']
    have hcnt : cntS (A ++ [hlt] ++ (B ++ [hlt]) ++ (C ++ [hlt])) = [0, 0, 0, 0, 0, 0, 0, 0] := by
      have hh : ∀ s, balI s [hlt] = 0 := fun s => by simp [balI, dS]
      have key : ∀ s, balI s (A ++ [hlt] ++ (B ++ [hlt]) ++ (C ++ [hlt])) = 0 := fun s => by
        have := hbal s
        simp only [bal3, hA, hBb, hCc] at this
        simp only [balI_append, hh]
        omega
      simp only [cntS, key]
    rw [hcnt]
    simp only [Option.bind_some, either]
    have hl27 := iterN_for (p := law19_BuildMay_l27_p (sumC (A ++ [hlt] ++ (B ++ [hlt]) ++ (C ++ [hlt])), (3 : Int), [0, 0, 0, 0, 0, 0, 0, 0])) (z := .inl (8 : Int)) 8 (fun k => (k : Int)) LL (LL_lt (by omega)) (fun k hk => by
      rcases (by omega : k = 0 ∨ k = 1 ∨ k = 2 ∨ k = 3 ∨ k = 4 ∨ k = 5 ∨ k = 6 ∨ k = 7) with rfl | rfl | rfl | rfl | rfl | rfl | rfl | rfl <;> rfl) rfl
    have hl27' : iterN (law19_BuildMay_l27_p (sumC (A ++ [hlt] ++ (B ++ [hlt]) ++ (C ++ [hlt])), (3 : Int), [0, 0, 0, 0, 0, 0, 0, 0])) LL 0 = _ := hl27
    rw [hl27']
    have hbud : bldBudget (imgV m vals, (0 : Int)).1 = some (sumC (A ++ [hlt] ++ (B ++ [hlt]) ++ (C ++ [hlt]))) := by
      unfold bldBudget
      show (bif Go.V.P.lenOk (imgV m vals) then _ else none) = _
      rw [hB.lenOk hg, cond_true, i1, i2, i3]
    simp only [Option.bind_some, law19_BuildMay_r31_p, hbud, cond_true, beq_self_eq_true]
    rfl
  · rw [hC, hE]
    simp only [Option.bind_some]
    rw [show (e != 0) = true by simpa using he]
    simp [law19_BuildMay_r6_p, law19_BuildMay_r6_q]
end
end Go.V.P
