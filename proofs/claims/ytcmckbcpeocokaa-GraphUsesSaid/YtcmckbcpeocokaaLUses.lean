/- Plain laws of layer 3: GraphUses. -/
import Derived.Test.YtcmckbcpeocokaaLLess3
import Derived.Test.YtcmckbcpeocokaaLRunIn
import Derived.Test.YtcmckbcpeocokaaGb3
import Derived.Test.YtcmckbcpeocokaaGb2
namespace Go.V.P
open Go Go.V Go.IntWalk
set_option linter.unusedVariables false
set_option linter.unusedSimpArgs false
set_option maxRecDepth 20000
theorem shown03u : law03_shown = some true := by decide +kernel
theorem gtb_set {l : List Bool} {i j : Nat} {v : Bool} (hj : j < l.length) : gt (l.set i v) (j : Int) false = if i = j then v else gt l (j : Int) false := by
  unfold gt
  rw [show ((j : Int).toNat) = j by omega, List.getD_eq_getElem?_getD, List.getD_eq_getElem?_getD, List.getElem?_set]
  by_cases h : i = j
  · subst h
    rw [if_pos rfl, if_pos hj, if_pos rfl]
    rfl
  · rw [if_neg h, if_neg h]
/-- what has been seen of v behind i nodes and k values more -/
def SeenP (g : Graph) (i k : Nat) (v : Int) : Prop := (∃ i' : Nat, i' < i ∧ v ∈ (gt g.2.1 (i' : Int) dNode).2.1 ∧ lastV g v = (i' : Int)) ∨ (v ∈ ((gt g.2.1 (i : Int) dNode).2.1.take k) ∧ lastV g v = (i : Int))
def SeenI (g : Graph) (n i k : Nat) (l : List Bool) : Prop := l.length = n ∧ ∀ v : Nat, v < n → (gt l (v : Int) false = true ↔ SeenP g i k (v : Int))
theorem GraphUses_true (g : Graph) (_ : Ts.ok tsGraph g) : law03_GraphUses g = some true := by
  obtain ⟨m, hm, hok⟩ := less_ok g
  unfold law03_GraphUses
  rw [shown03u, hm]
  simp only [Option.bind_some]
  rcases Values_eq m hok with ⟨v, hv, hV⟩ | ⟨_, e, he, hV⟩
  case inr =>
    have hc : graph_Check m = some e := by unfold graph_Check; rw [hV]; rfl
    rw [hc]
    simp only [Option.bind_some]
    rw [show (e != 0) = true by simpa using he]
    rfl
  have hc : graph_Check m = some 0 := by unfold graph_Check; rw [hV]; rfl
  obtain ⟨hlen, ⟨b1, b2, b3, _, _⟩, hin, hout⟩ := values_in hv
  have hla := Last_eq m (by omega) (by omega) (by omega) (fun n hn => (hok.2.1.2 n hn).1)
  rw [hc, hla]
  simp only [Option.bind_some, bne_self_eq_false, cond_false]
  generalize hn : m.1.length + m.2.1.length = n at *
  have hll : (lastR m).length = n := by rw [lastR_len, hn]
  have hget : ∀ j : Nat, j < n → gt (lastR m) (j : Int) 0 = lastV m (j : Int) := fun j hj => lastR_get m (by omega)
  have hnn : Int.toNat ((n : Nat) : Int) = n := by omega
  have hr6 : law03_GraphUses_r6_p m (lastR m) = false := by
    simp only [law03_GraphUses_r6_p, law03_GraphUses_r6_q, hll]
    rw [i64_in _ (by omega)]
    have : (n : Int) = (m.1.length : Int) + (m.2.1.length : Int) := by omega
    rw [this]
    simp
  have hr8 : law03_GraphUses_r8_p (lastR m) = some () := by
    simp only [law03_GraphUses_r8_p, hll]
    rw [decide_eq_true (by omega), decide_eq_true (Int.le_refl _), decide_eq_true (by unfold maxL; omega)]
    simp
  have nats : ∀ a : Int, 0 ≤ a → ∃ k : Nat, a = (k : Int) := fun a h => ⟨a.toNat, by omega⟩
  -- the values of a node
  have inner : ∀ (i : Nat) (l : List Bool), i < m.2.1.length → SeenI m n i 0 l → ∃ l', iterN (law03_GraphUses_l13_p m (lastR m) ((i : Int), l)) LL (0, l) = some (.inl (((gt m.2.1 (i : Int) dNode).2.1.length : Int), l')) ∧ SeenI m n (i + 1) 0 l' := fun i l hi hl => by
    have hmem := gt_mem hi dNode
    have hLn := (hok.2.1.2 _ hmem).1
    have hins := hin i hi
    obtain ⟨z, hz, l', hzl, hS⟩ := iterN_inv (p := law03_GraphUses_l13_p m (lastR m) ((i : Int), l)) (fun s => ∃ k : Nat, s.1 = (k : Int) ∧ k ≤ (gt m.2.1 (i : Int) dNode).2.1.length ∧ SeenI m n i k s.2) (fun s => (gt m.2.1 (i : Int) dNode).2.1.length - s.1.toNat)
      (Q := fun z => ∃ l', z = .inl (((gt m.2.1 (i : Int) dNode).2.1.length : Int), l') ∧ SeenI m n i (gt m.2.1 (i : Int) dNode).2.1.length l') (fun s hs => by
      obtain ⟨t, q⟩ := s
      obtain ⟨k, hk0, hk, hq1, hq2⟩ := hs
      simp only at hk0 hq1 hq2
      subst hk0
      have t1 : decide ((0 : Int) ≤ (i : Int)) = true := decide_eq_true (by omega)
      have t2 : decide ((i : Int) < (m.2.1.length : Int)) = true := decide_eq_true (by omega)
      simp only [law03_GraphUses_l13_p, law03_GraphUses_r13_p, law03_GraphUses_r15_p, law03_GraphUses_r16_p, law03_GraphUses_r18_p, t1, t2, cond_true, Option.bind_some, hll, hnn, hq1]
      by_cases hlt : k < (gt m.2.1 (i : Int) dNode).2.1.length
      · obtain ⟨a, ha⟩ : ∃ a, gt (gt m.2.1 (i : Int) dNode).2.1 (k : Int) 0 = a := ⟨_, rfl⟩
        have ham : a ∈ (gt m.2.1 (i : Int) dNode).2.1 := by rw [← ha]; exact gt_mem hlt 0
        have hab := hins a ham
        obtain ⟨c, rfl⟩ := nats a hab.1
        have hcn : c < n := by omega
        have hct : Int.toNat (c : Int) = c := by omega
        have hlv := lastV_in m (c : Int)
        have hge := hlv.2.2.2.1 i hi ham
        rw [decide_eq_true (by omega : (k : Int) < ((gt m.2.1 (i : Int) dNode).2.1.length : Int)), decide_eq_true (by omega : (0 : Int) ≤ (k : Int))]
        simp only [cond_true, Option.bind_some, ha, hct]
        rw [decide_eq_true (by omega : (0 : Int) ≤ (c : Int)), decide_eq_true (by omega : (c : Int) < (n : Int)), decide_eq_true hcn, hget c hcn, decide_eq_false (by omega), i64_in ((k : Int) + 1) (by omega)]
        simp only [cond_true, cond_false, Option.bind_some]
        have hnext : ∀ b : Bool, (b = true ↔ (gt q (c : Int) false = true ∨ lastV m (c : Int) = (i : Int))) → SeenI m n i (k + 1) (q.set c b) := fun b hb => by
          refine ⟨by simp [hq1], fun u hu => ?_⟩
          rw [gtb_set (by rw [hq1]; exact hu)]
          have hsn : ∀ x : Int, x ∈ (gt m.2.1 (i : Int) dNode).2.1.take (k + 1) ↔ x ∈ (gt m.2.1 (i : Int) dNode).2.1.take k ∨ x = (c : Int) := fun x => by
            rw [take_snoc hlt 0, ha]; simp
          unfold SeenP
          rw [hsn]
          have hq2u := hq2 u hu
          unfold SeenP at hq2u
          by_cases hcu : c = u
          · subst hcu
            rw [if_pos rfl, hb, hq2u]
            constructor
            · rintro ((h | h) | h)
              · exact .inl h
              · exact .inr ⟨.inl h.1, h.2⟩
              · exact .inr ⟨.inr rfl, h⟩
            · rintro (h | ⟨h | h, h'⟩)
              · exact .inl (.inl h)
              · exact .inl (.inr ⟨h, h'⟩)
              · exact .inr h'
          · rw [if_neg hcu, hq2u]
            constructor
            · rintro (h | h)
              · exact .inl h
              · exact .inr ⟨.inl h.1, h.2⟩
            · rintro (h | ⟨h | h, h'⟩)
              · exact .inl h
              · exact .inr ⟨h, h'⟩
              · exact absurd h (by omega)
        cases hg : gt q (c : Int) false with
        | true =>
          simp only [cond_true, Option.bind_some]
          exact .inl ⟨_, rfl, ⟨k + 1, by simp only; omega, by omega, hnext true (by simp [hg])⟩, by simp only; omega⟩
        | false =>
          simp only [cond_false, cond_true, Option.bind_some]
          refine .inl ⟨_, rfl, ⟨k + 1, by simp only; omega, by omega, hnext _ ?_⟩, by simp only; omega⟩
          simp [hg]
      · rw [decide_eq_false (by omega)]
        have hke : k = (gt m.2.1 (i : Int) dNode).2.1.length := by omega
        subst hke
        exact .inr ⟨_, rfl, q, rfl, hq1, hq2⟩) LL (0, l) ⟨0, rfl, by omega, hl⟩ (LL_lt (by simp only; omega))
    subst hzl
    refine ⟨l', hz, hS.1, fun u hu => ?_⟩
    rw [hS.2 u hu]
    unfold SeenP
    rw [List.take_length, List.take_zero]
    constructor
    · rintro (⟨i', h1, h2⟩ | ⟨h1, h2⟩)
      · exact .inl ⟨i', by omega, h2⟩
      · exact .inl ⟨i, by omega, h1, h2⟩
    · rintro (⟨i', h1, h2, h3⟩ | ⟨h1, _⟩)
      · by_cases hii : i' = i
        · subst hii; exact .inr ⟨h2, h3⟩
        · exact .inl ⟨i', by omega, h2, h3⟩
      · simp at h1
  have outer : ∃ l, iterN (law03_GraphUses_l10_p m (lastR m)) LL (0, List.replicate n false) = some (.inl ((m.2.1.length : Int), l)) ∧ SeenI m n m.2.1.length 0 l := by
    obtain ⟨z, hz, l', hzl, hS⟩ := iterN_inv (p := law03_GraphUses_l10_p m (lastR m)) (fun s => ∃ i : Nat, s.1 = (i : Int) ∧ i ≤ m.2.1.length ∧ SeenI m n i 0 s.2) (fun s => m.2.1.length - s.1.toNat)
      (Q := fun z => ∃ l', z = .inl ((m.2.1.length : Int), l') ∧ SeenI m n m.2.1.length 0 l') (fun s hs => by
      obtain ⟨t, q⟩ := s
      obtain ⟨i, hi0, hi, hq⟩ := hs
      simp only at hi0 hq
      subst hi0
      simp only [law03_GraphUses_l10_p]
      by_cases hlt : i < m.2.1.length
      · obtain ⟨l', h1, h2⟩ := inner i q hlt hq
        rw [decide_eq_true (by omega : (i : Int) < (m.2.1.length : Int)), h1, i64_in ((i : Int) + 1) (by omega)]
        exact .inl ⟨_, rfl, ⟨i + 1, by simp only; omega, by omega, h2⟩, by simp only; omega⟩
      · rw [decide_eq_false (by omega)]
        have hie : i = m.2.1.length := by omega
        subst hie
        exact .inr ⟨_, rfl, q, rfl, hq⟩) LL (0, List.replicate n false) ⟨0, rfl, by omega, by simp, fun u hu => by
          have : gt (List.replicate n false) (u : Int) false = false := by
            unfold gt
            rw [show ((u : Int).toNat) = u by omega, List.getD_eq_getElem?_getD, List.getElem?_replicate, if_pos hu]
            rfl
          rw [this]
          simp [SeenP]⟩ (LL_lt (by simp only; omega))
    subst hzl
    exact ⟨l', hz, hS⟩
  obtain ⟨l1, ho, hS1⟩ := outer
  have outs : ∃ l, iterN (law03_GraphUses_l20_p m (lastR m)) LL (0, l1) = some (.inl ((m.2.2.length : Int), l)) ∧ l.length = n ∧ ∀ v : Nat, v < n → (gt l (v : Int) false = true ↔ SeenP m m.2.1.length 0 (v : Int) ∨ (v : Int) ∈ m.2.2) := by
    obtain ⟨z, hz, l', hzl, hS⟩ := iterN_inv (p := law03_GraphUses_l20_p m (lastR m)) (fun s => ∃ i : Nat, s.1 = (i : Int) ∧ i ≤ m.2.2.length ∧ s.2.length = n ∧ ∀ v : Nat, v < n → (gt s.2 (v : Int) false = true ↔ SeenP m m.2.1.length 0 (v : Int) ∨ (v : Int) ∈ m.2.2.take i)) (fun s => m.2.2.length - s.1.toNat)
      (Q := fun z => ∃ l', z = .inl ((m.2.2.length : Int), l') ∧ l'.length = n ∧ ∀ v : Nat, v < n → (gt l' (v : Int) false = true ↔ SeenP m m.2.1.length 0 (v : Int) ∨ (v : Int) ∈ m.2.2)) (fun s hs => by
      obtain ⟨t, q⟩ := s
      obtain ⟨i, hi0, hi, hq1, hq2⟩ := hs
      simp only at hi0 hq1 hq2
      subst hi0
      simp only [law03_GraphUses_l20_p, law03_GraphUses_r22_p, law03_GraphUses_r24_p, hll, hnn, hq1]
      by_cases hlt : i < m.2.2.length
      · obtain ⟨a, ha⟩ : ∃ a, gt m.2.2 (i : Int) 0 = a := ⟨_, rfl⟩
        have ham : a ∈ m.2.2 := by rw [← ha]; exact gt_mem hlt 0
        have hab := hout a ham
        obtain ⟨c, rfl⟩ := nats a hab.1
        have hcn : c < n := by omega
        have hct : Int.toNat (c : Int) = c := by omega
        have hlv := (lastV_in m (c : Int)).2.2.1 ham
        rw [decide_eq_true (by omega : (i : Int) < (m.2.2.length : Int)), decide_eq_true (by omega : (0 : Int) ≤ (i : Int))]
        simp only [cond_true, Option.bind_some, ha, hct]
        rw [decide_eq_true (by omega : (0 : Int) ≤ (c : Int)), decide_eq_true (by omega : (c : Int) < (n : Int)), decide_eq_true hcn, hget c hcn, hlv, i64_in ((i : Int) + 1) (by omega)]
        simp only [cond_true, bne_self_eq_false, cond_false, Option.bind_some]
        refine .inl ⟨_, rfl, ⟨i + 1, by simp only; omega, by omega, by simp [hq1], fun u hu => ?_⟩, by simp only; omega⟩
        simp only
        rw [gtb_set (by rw [hq1]; exact hu), take_snoc hlt 0, ha]
        simp only [List.mem_append, List.mem_cons, List.not_mem_nil, or_false]
        by_cases hcu : c = u
        · subst hcu
          rw [if_pos rfl]
          simp
        · rw [if_neg hcu, hq2 u hu]
          constructor
          · rintro (h | h)
            · exact .inl h
            · exact .inr (.inl h)
          · rintro (h | h | h)
            · exact .inl h
            · exact .inr h
            · exact absurd h (by omega)
      · rw [decide_eq_false (by omega)]
        have hie : i = m.2.2.length := by omega
        subst hie
        rw [List.take_length] at hq2
        exact .inr ⟨_, rfl, q, rfl, hq1, hq2⟩) LL (0, l1) ⟨0, rfl, by omega, hS1.1, fun u hu => by
          rw [hS1.2 u hu]
          simp⟩ (LL_lt (by simp only; omega))
    subst hzl
    exact ⟨l', hz, hS⟩
  obtain ⟨l2, ho2, hl2, hS2⟩ := outs
  have last : iterN (law03_GraphUses_l26_p (lastR m) ((m.2.2.length : Int), l2)) LL 0 = some (.inl (n : Int)) :=
    iterN_for (p := law03_GraphUses_l26_p (lastR m) ((m.2.2.length : Int), l2)) (z := .inl (n : Int)) n (fun i => (i : Int)) LL (LL_lt (by omega)) (fun i hi => by
      have hlv := lastV_in m (i : Int)
      have hiff : gt l2 (i : Int) false = decide (lastV m (i : Int) ≥ 0) := by
        have hs := hS2 i hi
        unfold SeenP at hs
        rw [List.take_zero] at hs
        by_cases h0 : 0 ≤ lastV m (i : Int)
        · rw [decide_eq_true h0, hs]
          rcases hlv.2.2.2.2 h0 with h | ⟨k, k1, k2, k3⟩
          · exact .inr h
          · exact .inl (.inl ⟨k, k1, k3, k2⟩)
        · rw [decide_eq_false h0]
          cases hg : gt l2 (i : Int) false with
          | false => rfl
          | true =>
            rw [hg] at hs
            rcases hs.1 rfl with (⟨k, _, _, k3⟩ | ⟨h, _⟩) | h
            · omega
            · simp at h
            · have := hlv.2.2.1 h; omega
      simp only [law03_GraphUses_l26_p, law03_GraphUses_r28_p, hll, hnn, hl2]
      rw [decide_eq_true (by omega : (i : Int) < (n : Int)), decide_eq_true (by omega : (0 : Int) ≤ (i : Int)), decide_eq_true (by omega : Int.toNat (i : Int) < n), hget i hi, hiff, i64_in ((i : Int) + 1) (by omega)]
      simp) (by
      simp only [law03_GraphUses_l26_p, hll]
      rw [decide_eq_false (Int.lt_irrefl _)]
      rfl)
  simp only [hr6, hr8, hll, hnn, cond_false, Option.bind_some, ho, either, ho2, last]
end Go.V.P
