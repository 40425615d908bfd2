/- Plain laws of layer 17: PlaceKeeps. -/
import Derived.Test.YtlmhfffnobgipaaLPlaceF
import Derived.Test.YtlmhfffnobgipaaPl9
namespace Go.V.P
open Go Go.V Go.IntWalk
set_option linter.unusedVariables false
set_option linter.unusedSimpArgs false
set_option maxRecDepth 20000
def upto (n : Nat) : List Int := (List.range n).map fun (j : Nat) => (j : Int)
theorem upto_snoc (i : Nat) : upto (i + 1) = upto i ++ [(i : Int)] := by
  unfold upto
  rw [List.range_succ, List.map_append]; rfl
theorem mem_upto {n : Nat} {x : Int} : x ∈ upto n ↔ 0 ≤ x ∧ x < (n : Int) := by
  unfold upto
  simp only [List.mem_map, List.mem_range]
  constructor
  · rintro ⟨j, hj, rfl⟩; omega
  · intro h; exact ⟨x.toNat, by omega, by omega⟩
theorem sum_at {vals : List I4} {n : Nat} (hs : SizesOK vals n) : ∀ (v : Nat), v ≤ n → ∀ b : Int, 0 ≤ b → b < sumS vals v → ∃ u : Nat, u < v ∧ sumS vals u ≤ b ∧ b < sumS vals u + szV vals u
  | 0, _, b, h0, h1 => by simp only [sumS] at h1; omega
  | v + 1, hv, b, h0, h1 => by
    simp only [sumS] at h1
    by_cases hb : b < sumS vals v
    · obtain ⟨u, h2, h3⟩ := sum_at hs v (by omega) b h0 hb
      exact ⟨u, by omega, h3⟩
    · exact ⟨v, by omega, by omega, h1⟩
/-- all that come out lie one behind the other -/
theorem LotsOK.row {g : Graph} {vals ls : List I4} {n : Nat} (h : LotsOK g vals n ls) (hs : SizesOK vals n) (hn : g.1.length + g.2.1.length = n) (hout : ∀ v : Nat, v < n → (v : Int) ∈ g.2.2) : ∀ (k : Nat), k ≤ n → ∀ v : Nat, v < k → pV ls v = sumS vals v
  | 0, _, v, hv => absurd hv (Nat.not_lt_zero _)
  | k + 1, hk, v, hv => by
    have ih := h.row hs hn hout k (by omega)
    by_cases hvk : v < k
    · exact ih v hvk
    · have hvk : v = k := by omega
      subst hvk
      obtain ⟨_, hL, hle⟩ := h.at_ (u := v) (by omega)
      by_cases hlt : pV ls v < sumS vals v
      · obtain ⟨u, h1, h2, h3⟩ := sum_at hs v (by omega) (pV ls v) hL.1 hlt
        have ha := h.apart h1 (by omega : v < n)
        rw [(h.at_ (u := u) (by omega)).1, ih u h1] at ha
        have hsz := hs v (by omega)
        have lu := (lastV_in g (u : Int)).2.2.1 (hout u (by omega))
        have lv := liveV_in g (v : Int) (by omega) (by omega)
        have lw := liveV_in g (u : Int) (by omega) (by omega)
        exfalso
        apply ha
        unfold confl
        simp only
        refine ⟨?_, ?_, by omega, h3⟩
        · unfold liveV; simp only; omega
        · have : (liveV g (u : Int)).1 ≤ (liveV g (v : Int)).1 := by unfold liveV; simp only; omega
          omega
      · omega
theorem valuesV_outs {m : Graph} {vals : List I4} (h : valuesV m = some vals) (o : List Int) (ho : o.length ≤ 4 ∧ o.length ≠ 0) (hin : ∀ x ∈ o, 0 ≤ x ∧ x < (vals.length : Int)) : valuesV (m.1, m.2.1, o) = some vals := by
  unfold valuesV at h ⊢
  split at h
  · rename_i hf
    have hf2 : fitB (m.1, m.2.1, o) = true := by
      unfold fitB at hf ⊢
      simp only [Bool.and_eq_true, decide_eq_true_eq, Bool.not_eq_true'] at hf ⊢
      exact ⟨⟨⟨⟨⟨hf.1.1.1.1.1, hf.1.1.1.1.2⟩, ho.1⟩, hf.1.1.2⟩, ho.2⟩, hf.2⟩
    rw [if_pos hf2]
    split at h
    · rename_i z hz
      split at h
      · rename_i hw
        cases h
        simp only [hz]
        rw [if_pos ⟨hw.1, List.all_eq_true.2 fun x hx => inR_iff.2 (hin x hx)⟩]
      · cases h
    · cases h
  · cases h
theorem PlaceKeeps_true (g : Graph) (_ : Ts.ok tsGraph g) : law17_PlaceKeeps g = some true := by
  obtain ⟨m, hm, hok⟩ := less17 g
  unfold law17_PlaceKeeps
  rw [shown17, hm]
  simp only [Option.bind_some]
  rcases laid_or m hok with ⟨vals, ls, h⟩ | ⟨e, he, hE, hV, hP, hL, hT⟩
  case inr =>
    rw [hV]
    simp only [Option.bind_some]
    rw [show (e != 0) = true by simpa using he]
    rfl
  rw [h.v3, h.p]
  simp only [Option.bind_some, bne_self_eq_false, cond_false]
  have hr7 : law17_PlaceKeeps_r7_p (vals, 0) (placesL ls, 0) = false := by
    simp only [law17_PlaceKeeps_r7_p, law17_PlaceKeeps_r7_q, bne_self_eq_false, cond_false, h.vl, h.pl]
  rw [hr7]
  simp only [cond_false]
  obtain ⟨_, hb, hin, hout⟩ := values_in h.v
  have lg := h.ok.len
  have ok := h.ok
  have hs := h.s
  have hvl := h.vl
  have hpl := h.pl
  have hn := h.n
  have hli := fun (u : Nat) (hu : u < m.1.length + m.2.1.length) => liveV_in m (u : Int) (by omega) (by omega)
  obtain ⟨n, hN⟩ : ∃ n, m.1.length + m.2.1.length = n := ⟨_, rfl⟩
  rw [hN] at ok hs hvl hpl hn hli lg
  have hpv := fun (u : Nat) (hu : u < n) => placesL_get (ls := ls) (v := u) (by omega)
  have pb : ∀ u : Nat, u < n → 0 ≤ pV ls u ∧ pV ls u ≤ 100000 ∧ 1 ≤ szV vals u ∧ szV vals u ≤ 2048 := fun u hu => by
    have h1 := ok.at_ hu
    have h2 := (sumS_mono hs (v := u) (by omega)).2.1
    have h3 := hs u hu
    have h4 := h1.2.1.1
    omega
  have one : ∀ (i v : Nat), i < m.2.2.length → v < n → gt m.2.2 (i : Int) 0 = (v : Int) → iterN (law17_PlaceKeeps_l14_p m (vals, 0) (placesL ls, 0) (i : Int)) LL (((v + 1 + 0 : Nat) : Int)) = some (.inl (n : Int)) := fun i v hi hv ha =>
    iterN_for (p := law17_PlaceKeeps_l14_p m (vals, 0) (placesL ls, 0) (i : Int)) (z := .inl (n : Int)) (n - (v + 1)) (fun k => ((v + 1 + k : Nat) : Int)) LL (LL_lt (by omega)) (fun k hk => by
      obtain ⟨u, hu⟩ : ∃ u, v + 1 + k = u := ⟨_, rfl⟩
      have hu1 : v + 1 + (k + 1) = u + 1 := by omega
      simp only [hu, hu1]
      have b1 := pb u (by omega)
      have b2 := pb v hv
      have hap := ok.apart (u := v) (v := u) (by omega) (by omega)
      rw [(ok.at_ hv).1] at hap
      unfold confl at hap
      simp only at hap
      have ham : (v : Int) ∈ m.2.2 := by rw [← ha]; exact gt_mem hi 0
      have hlv := (lastV_in m (v : Int)).2.2.1 ham
      have l1 := hli u (by omega)
      have l2 := hli v hv
      have l3 : (liveV m (v : Int)).1 ≤ (liveV m (u : Int)).1 := by unfold liveV; simp only; omega
      have l4 : (liveV m (u : Int)).1 ≤ (liveV m (v : Int)).2 := by unfold liveV; simp only; omega
      simp only [law17_PlaceKeeps_l14_p, law17_PlaceKeeps_r16_p, hpl, hvl, ha, hpv u (by omega), hpv v hv, size_is]
      rw [decide_eq_true (by omega : (0 : Int) ≤ (u : Int)), decide_eq_true (by omega : (u : Int) < (n : Int)), decide_eq_true (by omega : (0 : Int) ≤ (v : Int)), decide_eq_true (by omega : (v : Int) < (n : Int)), i64_in (pV ls u + szV vals u) (by omega), i64_in (pV ls v + szV vals v) (by omega), i64_in ((u : Int) + 1) (by omega), decide_eq_false (by omega)]
      rfl) (by
      have : ((v + 1 + (n - (v + 1)) : Nat) : Int) = (n : Int) := by omega
      simp only [law17_PlaceKeeps_l14_p, hvl, this]
      rw [decide_eq_false (Int.lt_irrefl _)]
      rfl)
  have outs : iterN (law17_PlaceKeeps_l10_p m (vals, 0) (placesL ls, 0)) LL 0 = some (.inl (m.2.2.length : Int)) :=
    iterN_for (p := law17_PlaceKeeps_l10_p m (vals, 0) (placesL ls, 0)) (z := .inl (m.2.2.length : Int)) m.2.2.length (fun i => (i : Int)) LL (LL_lt (by omega)) (fun i hi => by
      obtain ⟨a, ha⟩ : ∃ a, gt m.2.2 (i : Int) 0 = a := ⟨_, rfl⟩
      have ham : a ∈ m.2.2 := by rw [← ha]; exact gt_mem hi 0
      have hab := hout a ham
      obtain ⟨c, rfl⟩ : ∃ c : Nat, a = (c : Int) := ⟨a.toNat, by omega⟩
      have h1 := one i c hi (by omega) ha
      rw [show ((c + 1 + 0 : Nat) : Int) = (c : Int) + 1 by omega] at h1
      simp only [law17_PlaceKeeps_l10_p, law17_PlaceKeeps_r12_p, ha]
      rw [decide_eq_true (by omega : (0 : Int) ≤ (i : Int)), decide_eq_true (by omega : (i : Int) < (m.2.2.length : Int)), i64_in ((c : Int) + 1) (by omega), h1, i64_in ((i : Int) + 1) (by omega)]
      rfl) (by
      simp only [law17_PlaceKeeps_l10_p]
      rw [decide_eq_false (Int.lt_irrefl _)]
      rfl)
  rw [outs]
  simp only [Option.bind_some, either, hvl]
  by_cases h4 : n ≤ 4
  case neg =>
    rw [decide_eq_true (by omega)]
    rfl
  rw [decide_eq_false (by omega)]
  simp only [cond_false]
  have sums : iterN (law17_PlaceKeeps_l24_p (vals, 0)) LL (0, 0, []) = some (sumS vals n, (n : Int), upto n) :=
    iterN_for (p := law17_PlaceKeeps_l24_p (vals, 0)) (z := (sumS vals n, (n : Int), upto n)) n (fun i => (sumS vals i, (i : Int), upto i)) LL (LL_lt (by omega)) (fun i hi => by
      have b1 := pb i hi
      have b2 := sumS_mono hs (v := i) (by omega)
      simp only [law17_PlaceKeeps_l24_p, law17_PlaceKeeps_r26_p, law17_PlaceKeeps_r27_p, hvl, size_is]
      rw [decide_eq_true (by omega : (0 : Int) ≤ (i : Int)), decide_eq_true (by omega : (i : Int) < (n : Int)), decide_eq_true (by simp only [upto, List.length_map, List.length_range, List.length_cons, List.length_nil]; unfold maxL; omega), i64_in (sumS vals i + szV vals i) (by omega), i64_in ((i : Int) + 1) (by omega), upto_snoc]
      rfl) (by
      simp only [law17_PlaceKeeps_l24_p, hvl]
      rw [decide_eq_false (Int.lt_irrefl _)]
      rfl)
  rw [sums]
  simp only [Option.bind_some]
  have hul : (upto n).length = n := by simp [upto]
  have hok2 : okGraph (m.1, m.2.1, upto n) := ⟨hok.1, hok.2.1, by simp only [hul]; omega⟩
  have hv2 := valuesV_outs h.v (upto n) ⟨by omega, by omega⟩ (fun x hx => by rw [hvl]; exact mem_upto.1 hx)
  rcases laid_or (m.1, m.2.1, upto n) hok2 with ⟨vals2, ls2, k⟩ | ⟨e, he, hE, _⟩
  case inr =>
    rcases valuesE_is (m.1, m.2.1, upto n) with ⟨v3, _, h3⟩ | ⟨h3, _⟩
    · rw [hE] at h3
      exact absurd (congrArg Prod.snd h3) he
    · rw [hv2] at h3; cases h3
  have hve : vals2 = vals := by
    have := k.v
    rw [hv2] at this
    exact (Option.some.inj this).symm
  subst hve
  have hrow := k.ok.row k.s rfl (fun v hv => mem_upto.2 ⟨by omega, by simp only at hv; omega⟩) _ (Nat.le_refl _)
  obtain ⟨t1, t2, _⟩ := k.ok.tot k.s (by have := k.n; omega) k.n.1
  have t3 := t1 (n - 1) (by simp only; omega)
  rw [hrow (n - 1) (by simp only; omega)] at t3
  have t4 : sumS vals2 n = sumS vals2 (n - 1) + szV vals2 (n - 1) := by
    obtain ⟨j, rfl⟩ : ∃ j, n = j + 1 := ⟨n - 1, by omega⟩
    rfl
  simp only [hN] at t2
  have t5 : totL ls2 = sumS vals2 n := by omega
  rw [k.t]
  simp only [Option.bind_some, law17_PlaceKeeps_r29_p, law17_PlaceKeeps_r29_q, cond_true, beq_self_eq_true]
  rw [show (totL ls2 == sumS vals2 n) = true by simpa using t5]
end Go.V.P
