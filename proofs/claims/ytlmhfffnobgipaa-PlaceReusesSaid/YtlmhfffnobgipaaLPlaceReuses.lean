/- Plain laws of layer 17: PlaceReuses. -/
import Derived.Test.YtlmhfffnobgipaaLPlaceF
import Derived.Test.YtlmhfffnobgipaaPl8
namespace Go.V.P
open Go Go.V Go.IntWalk
set_option linter.unusedVariables false
set_option linter.unusedSimpArgs false
set_option maxRecDepth 20000
/-- a node that keeps what is not below nought -/
def reluN (z : Int) (i : Nat) : Node := (8, [(i : Int)], 0, 0, 0, 0, 1, 0, z, 0, 0, 0, [], [])
theorem relu_ref (z : Int) (i : Nat) (a : I4) (ha : a.2.2.2 = z) (hz : -128 ≤ z ∧ z ≤ 127) (hm : mayB (vS a) = true) : ref03_Value (reluN z i) [a] = some ((a.1, a.2.1, a.2.2.1, z), 0) := by
  have hnode : ref03_node (reluN z i) (([a] : List I4).length : Int) = true := by
    simp [reluN, ref03_node, ref03_node_q, ref03_node_r17_p, ref03_node_r17_q, ref03_node_r16_p, ref03_node_r16_q, ref03_node_r15_p, ref03_node_r15_q, ref03_node_j13_p, ref03_node_j13_q, ref03_node_r13_p, ref03_node_r13_q, ref03_node_j10_p, ref03_node_j10_q, ref03_node_j8_p, ref03_node_j8_q, ref03_node_r9_p, ref03_node_r9_q, ref03_node_r8_p, ref03_node_r8_q, ref03_node_j5_p, ref03_node_j5_q, ref03_node_r6_p, ref03_node_r6_q, ref03_node_r4_p, ref03_node_r4_q, ref03_node_j2_p, ref03_node_j2_q, ref03_Two, ref03_Two_q, ref03_Two_r1_p, ref03_Two_r1_q, ref03_Window, ref03_Window_q, ref03_Window_r1_p, ref03_Window_r1_q, in_iff]
    omega
  have hnz : nZ (reluN z i) = z := rfl
  unfold ref03_Value
  rw [hnode]
  rcases refKeeps (reluN z i) [a] (by simp) with ⟨a1, a2⟩ | ⟨a1, a2⟩
  · rcases refMay [a] (by simp) with ⟨b1, b2⟩ | ⟨b1, b2⟩
    · rcases refOff (reluN z i) (by simp [reluN, nB]) with ⟨c1, c2⟩ | ⟨c1, c2⟩
      · have hmade : ref03_made (reluN z i) [a] = some (vS a) := rfl
        have hmany : ref03_Value_r16_p (reluN z i) [a] = some (0, 0) := rfl
        have h17 : ref03_Value_r17_p (reluN z i) (0, 0) = false := rfl
        have hmy : ref02_May (vS a) = 0 := by rw [ref02_May_eq, hm]; rfl
        rw [a2, b2, hmade, hmany, c2]
        simp only [Bool.not_true, cond_false, Option.bind_some, either, hmy, bne_self_eq_false, h17]
        rfl
      · simp [reluN, nB] at c1
    · simp [hm] at b1
  · simp [hnz, ha] at a1
theorem relu_gV (z : Int) (i : Nat) (a : I4) (ha : a.2.2.2 = z) (hz : -128 ≤ z ∧ z ≤ 127) (hm : mayB (vS a) = true) : gV (reluN z i) [a] = (a, 0) := by
  obtain ⟨x, e1, e2⟩ := Value_eq (reluN z i) [a] (by simp) (by simp [reluN, nB])
  rw [relu_ref z i a ha hz hm] at e2
  have h := (gV_eq (reluN z i) [a] (by simp) (by simp [reluN, nB])).1
  rw [e1, ← Option.some.inj e2] at h
  rw [← Option.some.inj h, ← ha]
/-- the chain -/
def chainN (z : Int) (n : Nat) : List Node := (List.range n).map (reluN z)
theorem chain_snoc (z : Int) (i : Nat) : chainN z (i + 1) = chainN z i ++ [reluN z i] := by
  unfold chainN
  rw [List.range_succ, List.map_append]; rfl
theorem run_append : ∀ (ns ms : List Node) (vals : List I4) (w : Int) (v : List I4) (x : Int), run vals w ns = .inl (v, x) → run vals w (ns ++ ms) = run v x ms
  | [], ms, vals, w, v, x, h => by cases h; rfl
  | n :: ns, ms, vals, w, v, x, h => by
    simp only [run, List.cons_append] at h ⊢
    split at h
    · rename_i h1
      rw [if_pos h1]
      split at h
      · rename_i h2
        rw [if_pos h2]
        exact run_append ns ms _ _ v x h
      · cases h
    · cases h
theorem run_chain (z : Int) (a : I4) (ha : a.2.2.2 = z) (hz : -128 ≤ z ∧ z ≤ 127) (hm : mayB (vS a) = true) : ∀ n : Nat, run [a] 0 (chainN z n) = .inl (List.replicate (n + 1) a, 0)
  | 0 => rfl
  | n + 1 => by
    rw [chain_snoc, run_append _ _ _ _ _ _ (run_chain z a ha hz hm n)]
    have hg : gt (List.replicate (n + 1) a) (n : Int) dI4 = a := by
      unfold gt
      rw [show ((n : Int).toNat) = n by omega, List.getD_eq_getElem?_getD, List.getElem?_replicate, if_pos (by omega)]
      rfl
    have hp : ((reluN z n).2.1.map fun x => gt (List.replicate (n + 1) a) x dI4) = [a] := by
      show [gt (List.replicate (n + 1) a) (n : Int) dI4] = [a]
      rw [hg]
    have hall : (reluN z n).2.1.all (inR (List.replicate (n + 1) a).length) = true := by
      show (inR (List.replicate (n + 1) a).length (n : Int) && true) = true
      rw [Bool.and_true, inR_iff, List.length_replicate]
      omega
    simp only [run]
    rw [if_pos hall, hp, relu_gV z n a ha hz hm]
    rw [if_pos rfl, ← List.replicate_succ']
    rfl
def chainG (a : I4) (n : Nat) : Graph := ([a], chainN a.2.2.2 n, [(n : Int)])
theorem chain_ok (a : I4) (n : Nat) (hn : n ≤ 12) : okGraph (chainG a n) := by
  refine ⟨by simp [chainG], ⟨by simp [chainG, chainN]; omega, fun x hx => ?_⟩, by simp [chainG]⟩
  obtain ⟨i, _, rfl⟩ := List.mem_map.1 (show x ∈ (List.range n).map (reluN a.2.2.2) from hx)
  exact ⟨by simp [reluN], by simp [reluN, nW], by simp [reluN, nB]⟩
theorem chain_vals (a : I4) (n : Nat) (hn : 1 ≤ n ∧ n ≤ 12) (hz : -128 ≤ a.2.2.2 ∧ a.2.2.2 ≤ 127) (hm : mayB (vS a) = true) : valuesV (chainG a n) = some (List.replicate (n + 1) a) := by
  have hf : fitB (chainG a n) = true := by
    have : ref03_in a.2.2.2 (-128) 127 = true := (in_iff _ _ _).2 hz
    simp [fitB, chainG, chainN, badIn, hm, this]
    omega
  unfold valuesV
  rw [if_pos hf]
  have hr : run (chainG a n).1 0 (chainG a n).2.1 = .inl (List.replicate (n + 1) a, 0) := run_chain a.2.2.2 a rfl hz hm n
  simp only [hr]
  rw [if_pos ⟨by simp, by
    show (inR (List.replicate (n + 1) a).length (n : Int) && true) = true
    rw [Bool.and_true, inR_iff, List.length_replicate]
    omega⟩]
theorem chain_in (z : Int) (n i : Nat) (hi : i < n) : gt (chainN z n) (i : Int) dNode = reluN z i := by
  unfold gt chainN
  rw [show ((i : Int).toNat) = i by omega, List.getD_eq_getElem?_getD, List.getElem?_map, List.getElem?_range hi]
  rfl
theorem chain_live (a : I4) (n v : Nat) (hv : v ≤ n) : liveV (chainG a n) (v : Int) = ((v : Int) - 1, (v : Int)) := by
  have hl := lastV_in (chainG a n) (v : Int)
  have hlen : (chainG a n).2.1.length = n := by simp [chainG, chainN]
  have h1 : (chainG a n).1.length = 1 := rfl
  rw [hlen] at hl
  have hlast : lastV (chainG a n) (v : Int) = (v : Int) := by
    by_cases hvn : v = n
    · subst hvn
      exact hl.2.2.1 (by simp [chainG])
    · have a1 := hl.2.2.2.1 v (by omega) (by show (v : Int) ∈ (gt (chainN a.2.2.2 n) (v : Int) dNode).2.1; rw [chain_in _ _ _ (by omega)]; simp [reluN])
      rcases hl.2.2.2.2 (by omega) with h | ⟨k, hk, e, hm⟩
      · simp [chainG] at h; omega
      · have hm' : (v : Int) ∈ (gt (chainN a.2.2.2 n) (k : Int) dNode).2.1 := hm
        rw [chain_in _ _ _ hk] at hm'
        simp [reluN] at hm'
        omega
  unfold liveV
  rw [hlast, h1]
  simp only [Prod.mk.injEq]
  omega
theorem mod2_cases (v : Nat) (s : Int) : ((((v : Int) % 2) * s = 0 ∧ v % 2 = 0) ∨ (((v : Int) % 2) * s = s ∧ v % 2 = 1)) := by
  rcases Nat.mod_two_eq_zero_or_one v with h | h
  · exact .inl ⟨by rw [show (v : Int) % 2 = 0 by omega, Int.zero_mul], h⟩
  · exact .inr ⟨by rw [show (v : Int) % 2 = 1 by omega, Int.one_mul], h⟩
theorem chain_at (a : I4) (n : Nat) (ls : List I4) (s : Int) (hs : 1 ≤ s) (ok : LotsOK (chainG a n) (List.replicate (n + 1) a) (n + 1) ls) (hsz : ∀ v : Nat, v ≤ n → szV (List.replicate (n + 1) a) v = s) : ∀ k : Nat, k ≤ n + 1 → ∀ v : Nat, v < k → pV ls v = ((v : Int) % 2) * s
  | 0, _, v, hv => absurd hv (Nat.not_lt_zero _)
  | k + 1, hk, v, hv => by
    have ih := chain_at a n ls s hs ok hsz k (by omega)
    by_cases hvk : v < k
    · exact ih v hvk
    · have hvk : v = k := by omega
      subst hvk
      obtain ⟨_, hL, _⟩ := ok.at_ (u := v) (by omega)
      rw [hsz v (by omega), chain_live a n v (by omega)] at hL
      refine hL.unique ?_
      have hmv := mod2_cases v s
      have get : ∀ u : Nat, u < v → gt (ls.take v) (u : Int) dI4 = ((u : Int) - 1, (u : Int), ((u : Int) % 2) * s, ((u : Int) % 2) * s + s) := fun u hu => by
        have : gt (ls.take v) (u : Int) dI4 = gt ls (u : Int) dI4 := by
          unfold gt
          rw [show ((u : Int).toNat) = u by omega, List.getD_eq_getElem?_getD, List.getD_eq_getElem?_getD, List.getElem?_take, if_pos hu]
        rw [this, (ok.at_ (u := u) (by omega)).1, chain_live a n u (by omega), ih u hu, hsz u (by omega)]
      refine ⟨by omega, fun l hl hc => ?_, fun b hb0 hb1 hf => ?_⟩
      · obtain ⟨u, hu, e⟩ := mem_gt dI4 hl
        rw [List.length_take, ok.len] at hu
        have hmu := mod2_cases u s
        rw [get u (by omega)] at e
        rw [← e] at hc
        unfold confl at hc
        simp only at hc
        omega
      · have hv1 : v % 2 = 1 := by omega
        have hm := hf (gt (ls.take v) ((v - 1 : Nat) : Int) dI4) (gt_mem (by rw [List.length_take, ok.len]; omega) dI4)
        rw [get (v - 1) (by omega)] at hm
        have hmu := mod2_cases (v - 1) s
        apply hm
        unfold confl
        simp only
        omega
theorem PlaceReuses_true (v : I4) (long : Int) (kv : Ts.ok tsI4 v) (kl : Ts.ok (.one (.int .u8)) long) : law17_PlaceReuses v long = some true := by
  have hlo : 0 ≤ long ∧ long ≤ 255 := by
    have : (0 : Int) ≤ long ∧ long ≤ 255 := kl
    exact this
  unfold law17_PlaceReuses
  rw [shown17]
  simp only [Option.bind_some]
  have hmayq : ref02_May (v.1, v.2.1, v.2.2.1) = if mayB (vS v) = true then 0 else 10 := ref02_May_eq _
  cases hm : mayB (vS v) with
  | false =>
    rw [hmayq, hm]
    rfl
  | true =>
  rw [hmayq, hm]
  simp only [if_true, bne_self_eq_false, cond_false]
  obtain ⟨z, hz⟩ : ∃ z, min (max v.2.2.2 (-128 : Int)) (127 : Int) = z := ⟨_, rfl⟩
  have hzb : -128 ≤ z ∧ z ≤ 127 := by omega
  obtain ⟨n, hn0, hn⟩ : ∃ n : Nat, IntKind.wrap .i64 ((1 : Int) + (Int.tmod (IntKind.wrap .i64 long) (12 : Int))) = (n : Int) ∧ (1 ≤ n ∧ n ≤ 12) := by
    have h1 : Int.tmod long 12 = long % 12 := Int.tmod_eq_emod_of_nonneg hlo.1
    rw [i64_in long (by omega), h1, i64_in (1 + long % 12) (by omega)]
    exact ⟨(1 + long % 12).toNat, by omega, by omega⟩
  have hr8 : ∀ s, law17_PlaceReuses_r8_p long s = decide (s.1 < (n : Int)) := fun s => by
    simp only [law17_PlaceReuses_r8_p, law17_PlaceReuses_r8_q, hn0]
  have hr18 : ∀ s, law17_PlaceReuses_r18_p long s = decide (s ≤ (n : Int)) := fun s => by
    simp only [law17_PlaceReuses_r18_p, law17_PlaceReuses_r18_q, hn0]
  have hr11 : law17_PlaceReuses_r11_p long = [(n : Int)] := by
    simp only [law17_PlaceReuses_r11_p, law17_PlaceReuses_r11_q, hn0]
  have loop : iterN (law17_PlaceReuses_l8_p v long) LL (0, []) = some ((n : Int), chainN z n) :=
    iterN_for (p := law17_PlaceReuses_l8_p v long) (z := ((n : Int), chainN z n)) n (fun i => ((i : Int), chainN z i)) LL (LL_lt (by omega)) (fun i hi => by
      simp only [law17_PlaceReuses_l8_p, law17_PlaceReuses_r10_p, hr8, hz]
      rw [decide_eq_true (by omega : (i : Int) < (n : Int)), decide_eq_true (by simp only [chainN, List.length_map, List.length_range, List.length_cons, List.length_nil]; unfold maxL; omega), i64_in ((i : Int) + 1) (by omega), chain_snoc]
      rfl) (by
      simp only [law17_PlaceReuses_l8_p, hr8]
      rw [decide_eq_false (Int.lt_irrefl _)]
      rfl)
  rw [loop, hz, hr11]
  simp only [Option.bind_some]
  obtain ⟨a, ha⟩ : ∃ a : I4, (v.1, v.2.1, v.2.2.1, z) = a := ⟨_, rfl⟩
  have hG : ([(v.1, v.2.1, v.2.2.1, z)], chainN z n, [(n : Int)]) = chainG a n := by rw [← ha]; rfl
  have haz : a.2.2.2 = z := by rw [← ha]
  have ham : mayB (vS a) = true := by rw [← ha]; exact hm
  rw [hG]
  have hvV := chain_vals a n hn (by rw [haz]; exact hzb) ham
  have hlen : (chainG a n).1.length + (chainG a n).2.1.length = n + 1 := by
    simp [chainG, chainN]; omega
  rcases laid_or (chainG a n) (chain_ok a n hn.2) with ⟨vals, ls, k⟩ | ⟨e, he, hE, _⟩
  case inr =>
    rcases valuesE_is (chainG a n) with ⟨v3, _, h3⟩ | ⟨h3, _⟩
    · rw [hE] at h3
      exact absurd (congrArg Prod.snd h3) he
    · rw [hvV] at h3; cases h3
  have hve : vals = List.replicate (n + 1) a := by
    have := k.v
    rw [hvV] at this
    exact (Option.some.inj this).symm
  have kt := k.t
  have kp := k.p
  have ok := k.ok
  have hs := k.s
  have hpl := k.pl
  rw [hlen] at ok hs hpl
  subst hve
  have hS : ∀ u : Nat, u ≤ n → szV (List.replicate (n + 1) a) u = ref02_Size (v.1, v.2.1, v.2.2.1) := fun u hu => by
    have : gt (List.replicate (n + 1) a) (u : Int) dI4 = a := by
      unfold gt
      rw [show ((u : Int).toNat) = u by omega, List.getD_eq_getElem?_getD, List.getElem?_replicate, if_pos (by omega)]
      rfl
    unfold szV
    rw [this, ← ha]
    exact (ref02_Size_eq _).symm
  obtain ⟨s, hs0⟩ : ∃ s, ref02_Size (v.1, v.2.1, v.2.2.1) = s := ⟨_, rfl⟩
  rw [hs0] at hS
  have sb := hs 0 (by omega)
  rw [hS 0 (by omega)] at sb
  have hat := chain_at a n ls s sb.1 ok hS (n + 1) (Nat.le_refl _)
  obtain ⟨t1, _, w, hw, t2⟩ := ok.tot hs (by omega) (by omega)
  have t3 := t1 1 (by omega)
  have w1 := mod2_cases 1 s
  have w2 := mod2_cases w s
  rw [hat 1 (by omega), hS 1 (by omega)] at t3
  rw [hat w hw, hS w (by omega)] at t2
  have htot : totL ls = 2 * s := by omega
  rw [kp, kt]
  simp only [Option.bind_some]
  have hr15 : law17_PlaceReuses_r15_p v long (placesL ls, 0) (totL ls, 0) = false := by
    simp only [law17_PlaceReuses_r15_p, law17_PlaceReuses_r15_q, hn0, hpl, hs0, bne_self_eq_false, cond_false]
    rw [i64_in ((n : Int) + 1) (by omega), i64_in (2 * s) (by omega), htot, show ((n + 1 : Nat) : Int) = (n : Int) + 1 by omega, bne_self_eq_false, bne_self_eq_false]
    rfl
  rw [hr15]
  simp only [cond_false]
  have last : iterN (law17_PlaceReuses_l18_p v long (placesL ls, 0)) LL 0 = some (.inl (((n + 1 : Nat) : Int))) :=
    iterN_for (p := law17_PlaceReuses_l18_p v long (placesL ls, 0)) (z := .inl (((n + 1 : Nat) : Int))) (n + 1) (fun i => (i : Int)) LL (LL_lt (by omega)) (fun i hi => by
      have hp : gt (placesL ls) (i : Int) 0 = ((i : Int) % 2) * s := by rw [placesL_get (by rw [ok.len]; exact hi), hat i hi]
      have wi := mod2_cases i s
      simp only [law17_PlaceReuses_l18_p, law17_PlaceReuses_r20_p, hr18, hpl, hp, hs0]
      rw [decide_eq_true (by omega : (i : Int) ≤ (n : Int)), decide_eq_true (by omega : (0 : Int) ≤ (i : Int)), decide_eq_true (by omega : (i : Int) < ((n + 1 : Nat) : Int)), show Int.tmod (i : Int) 2 = (i : Int) % 2 from Int.tmod_eq_emod_of_nonneg (by omega), i64_in (((i : Int) % 2) * s) (by omega), i64_in ((i : Int) + 1) (by omega), bne_self_eq_false]
      rfl) (by
      simp only [law17_PlaceReuses_l18_p, hr18]
      rw [decide_eq_false (by omega)]
      rfl)
  rw [last]
  rfl
end Go.V.P
