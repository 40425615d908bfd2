/- Plain laws of layer 16: how many rows fit best. -/
import Derived.Test.YtadljnfiehmmgaaLTile
import Derived.Test.YtadljnfiehmmgaaTi2
import Derived.Test.YtadljnfiehmmgaaTi5
import Derived.Test.YtadljnfiehmmgaaTi6
namespace Go.V.P
open Go Go.V Go.IntWalk
set_option linter.unusedVariables false
set_option linter.unusedSimpArgs false
set_option maxRecDepth 20000
theorem npu_of (x : Int) (h1 : 1 ≤ x) (h2 : x < 1 + (12 : Nat)) : halo_Npu x = some (decide (x ≠ 3 ∧ x ≠ 9 ∧ x ≠ 10 ∧ x ≠ 11)) ∧ ref15_Npu x = some (decide (x ≠ 3 ∧ x ≠ 9 ∧ x ≠ 10 ∧ x ≠ 11)) := by
  revert x; refine rng1 fun i hi => ?_
  revert i
  decide +kernel
/-- what rows take -/
def tk (n : Node) (l : List I4) (r : Int) : Int := match tile_Need n l r with
  | some z => z.1
  | none => 0
theorem tk_eq {n : Node} {l : List I4} {rows : Int} {v : I4 × Int} {m : I3} {e : Int} (h : MostAt n l rows v m e) : tk n l rows = takes m := by
  unfold tk
  rw [(need_run h).1]
theorem need_at (n : Node) (l : List I4) (z : I4) (hl : l.length < 1000000) (hB : (nB n).length < 1000000) (hv : ref03_Value n l = some (z, 0)) (r : Int) (h1 : 1 ≤ r) (h2 : r ≤ z.1) : tile_Need n l r = some (tk n l r, 0) ∧ ref16_Need n l r = some (tk n l r, 0) := by
  obtain ⟨v, m, e, h⟩ := Most_at n l r hl hB
  have : v = (z, 0) := Option.some.inj (h.val.symm.trans hv)
  subst this
  obtain ⟨h3, _⟩ := h.ok rfl ⟨h1, h2⟩
  subst h3
  have := need_run h
  rw [tk_eq h]
  exact this
/-- how many rows fit best: told of both texts -/
structure BestIs (n : Node) (l : List I4) (z : I4) (b : Int) : Prop where
  lo : 0 ≤ b
  hi : b ≤ z.1
  fit : b = 0 ∨ tk n l b ≤ 1024
  more : ∀ r, b < r → r ≤ z.1 → 1024 < tk n l r
theorem best_one {n : Node} {l : List I4} {z : I4} {a b : Int} (ha : BestIs n l z a) (hb : BestIs n l z b) : a = b := by
  by_cases h1 : a < b
  · have := ha.more b h1 hb.hi
    have := hb.fit
    have := ha.lo
    omega
  · by_cases h2 : b < a
    · have := hb.more a h2 ha.hi
      have := ha.fit
      have := hb.lo
      omega
    · omega
theorem best_run (n : Node) (l : List I4) (z : I4) (hl : l.length < 1000000) (hB : (nB n).length < 1000000) (hv : ref03_Value n l = some (z, 0)) :
    ∃ b, tile_Best n l = some (b, 0) ∧ ref16_Best n l = some (b, 0) ∧ 0 ≤ b ∧ b ≤ z.1 ∧ (halo_Npu n.1 = some true → BestIs n l z b) ∧ (halo_Npu n.1 = some false → b = 0) := by
  have h := value_ok hl hB hv
  have hz := mayB_iff.1 h.may
  simp only [vS] at hz
  obtain ⟨v, e1, e2⟩ := Value_eq n l hl hB
  have : v = (z, 0) := Option.some.inj (e2.symm.trans hv)
  subst this
  obtain ⟨f1, _⟩ := nodeF n _ h.node
  obtain ⟨np1, np2⟩ := npu_of n.1 f1.1 (by omega)
  unfold tile_Best ref16_Best
  rw [e1, e2]
  simp only [Option.bind_some, bne_self_eq_false, cond_false, tile_Best_r2_p, np1]
  by_cases hp : n.1 ≠ 3 ∧ n.1 ≠ 9 ∧ n.1 ≠ 10 ∧ n.1 ≠ 11
  · rw [decide_eq_true hp] at np1 np2 ⊢
    simp only [Bool.not_true, cond_false]
    have ha : ∃ y : Int ⊕ Int, iterN (tile_Best_l5_p n l) LL z.1 = some y ∧ BestIs n l z (either (fun _ => 0) (fun b => b) y) := by
      refine iterN_inv (fun s : Int => 0 ≤ s ∧ s ≤ z.1 ∧ ∀ r, s < r → r ≤ z.1 → 1024 < tk n l r) (fun s => s.toNat) (fun s hs => ?_) LL z.1 ⟨by omega, by omega, fun r h1 h2 => by omega⟩ (LL_lt (by omega))
      obtain ⟨a1, a2, a3⟩ := hs
      unfold tile_Best_l5_p
      by_cases hc : s > 0
      · rw [decide_eq_true hc, (need_at n l z hl hB hv s (by omega) a2).1]
        simp only [cond_true, Option.bind_some]
        by_cases ht : tk n l s ≤ 1024
        · rw [decide_eq_true ht]
          exact .inr ⟨_, rfl, by show 0 ≤ s; omega, a2, .inr ht, a3⟩
        · rw [decide_eq_false ht]
          refine .inl ⟨_, rfl, ?_, ?_⟩
          · rw [i64_in (s - 1) (by omega)]
            refine ⟨by omega, by omega, fun r h1 h2 => ?_⟩
            by_cases hr : r = s
            · subst hr; omega
            · exact a3 r (by omega) h2
          · rw [i64_in (s - 1) (by omega)]; omega
      · rw [decide_eq_false hc]
        exact .inr ⟨_, rfl, by show (0 : Int) ≤ 0; omega, by show (0 : Int) ≤ z.1; omega, .inl rfl, fun r h1 h2 => a3 r (by simp only [either] at h1; omega) h2⟩
    have hb : ∃ y : Int × Int, iterN (ref16_Best_l6_p n l (z, 0)) LL (0, 1) = some y ∧ BestIs n l z y.1 := by
      refine iterN_inv (fun s : Int × Int => 0 ≤ s.1 ∧ s.1 < s.2 ∧ 1 ≤ s.2 ∧ s.2 ≤ z.1 + 1 ∧ (s.1 = 0 ∨ tk n l s.1 ≤ 1024) ∧ ∀ r, s.1 < r → r < s.2 → 1024 < tk n l r) (fun s => (z.1 + 1 - s.2).toNat) (fun s hs => ?_) LL (0, 1) ⟨by simp, by simp, by simp, by simp only; omega, .inl rfl, fun r h1 h2 => by simp only at h1 h2; omega⟩ (LL_lt (by simp only; omega))
      obtain ⟨a1, a2, a3, a4, a5, a6⟩ := hs
      unfold ref16_Best_l6_p ref16_Best_r6_p
      rw [np2]
      by_cases hc : s.2 ≤ z.1
      · have t1 := i64_in (s.2 + 1) (by omega)
        simp only [decide_eq_true hc, cond_true, Option.bind_some, ref16_Best_j8_p, (need_at n l z hl hB hv s.2 a3 hc).2, t1]
        by_cases ht : tk n l s.2 ≤ 1024
        · rw [decide_eq_true ht]
          refine .inl ⟨_, rfl, ⟨by show 0 ≤ s.2; omega, by show s.2 < s.2 + 1; omega, by show 1 ≤ s.2 + 1; omega, by show s.2 + 1 ≤ z.1 + 1; omega, .inr ht, fun r h1 h2 => ?_⟩, by simp only; omega⟩
          simp only [cond_true] at h1 h2
          omega
        · rw [decide_eq_false ht]
          refine .inl ⟨_, rfl, ⟨a1, by show s.1 < s.2 + 1; omega, by show 1 ≤ s.2 + 1; omega, by show s.2 + 1 ≤ z.1 + 1; omega, a5, fun r h1 h2 => ?_⟩, by simp only; omega⟩
          simp only [cond_false] at h1 h2
          by_cases hr : r = s.2
          · subst hr; omega
          · exact a6 r h1 (by omega)
      · rw [decide_eq_false hc]
        exact .inr ⟨_, rfl, a1, by omega, a5, fun r h1 h2 => a6 r h1 (by omega)⟩
    obtain ⟨y, y1, y2⟩ := ha
    obtain ⟨x, x1, x2⟩ := hb
    have hx := best_one x2 y2
    rw [y1, x1]
    refine ⟨x.1, ?_, rfl, x2.lo, x2.hi, fun _ => x2, fun h => (by cases h)⟩
    rw [hx]
    cases y <;> rfl
  · rw [decide_eq_false hp] at np1 np2 ⊢
    have : iterN (ref16_Best_l6_p n l (z, 0)) LL (0, 1) = some (0, 1) := iterN_for (p := ref16_Best_l6_p n l (z, 0)) (z := (0, 1)) 0 (fun i => (0, 1)) LL (LL_lt (by omega)) (fun i hi => absurd hi (by omega)) (by
      unfold ref16_Best_l6_p ref16_Best_r6_p
      rw [np2]
      cases decide (((0, 1) : Int × Int).2 ≤ ((z, 0) : I4 × Int).1.1) <;> rfl)
    rw [this]
    refine ⟨0, rfl, rfl, by omega, by omega, fun h => (by cases h), fun _ => rfl⟩
theorem best_bad (n : Node) (l : List I4) (v : I4 × Int) (hl : l.length < 1000000) (hB : (nB n).length < 1000000) (hv : ref03_Value n l = some v) (h0 : v.2 ≠ 0) : tile_Best n l = some (0, v.2) ∧ ref16_Best n l = some (0, v.2) := by
  obtain ⟨w, e1, e2⟩ := Value_eq n l hl hB
  have : w = v := Option.some.inj (e2.symm.trans hv)
  subst this
  unfold tile_Best ref16_Best
  rw [e1, e2]
  simp only [Option.bind_some, tile_Best_r2_p]
  rw [show (w.2 != 0) = true by simpa using h0]
  exact ⟨rfl, rfl⟩
theorem TileAll_true (n : Node) (l : List I4) (rows : Int) (_ : Ts.ok tsNode n) (_ : Ts.ok (.one (.sl tsI4)) l) (_ : Ts.ok (.one (.int .i64)) rows) : law16_TileAll n l rows = some true := by
  obtain ⟨m, em, hm⟩ := few16_ok n
  obtain ⟨q, ek, hk⟩ := some16_ok l
  obtain ⟨v, x, e, h⟩ := Most_at m q rows hk hm.2.2
  have hn := need_run h
  have hb := bufs_run h
  have hbest : ∃ y, tile_Best m q = some y ∧ ref16_Best m q = some y := by
    by_cases hv : v.2 = 0
    · obtain ⟨z, v2⟩ := v
      replace hv : v2 = 0 := hv
      subst hv
      obtain ⟨b, b1, b2, _⟩ := best_run m q z hk hm.2.2 h.val
      exact ⟨_, b1, b2⟩
    · have := best_bad m q v hk hm.2.2 h.val hv
      exact ⟨_, this.1, this.2⟩
  obtain ⟨y, y1, y2⟩ := hbest
  unfold law16_TileAll
  simp only [shown16, em, ek, hn.1, hn.2, hb.1, hb.2, y1, y2, Option.bind_some, law16_TileAll_r10_p, law16_TileAll_r10_q, beq_self_eq_true, cond_true, Bool.and_self]
end Go.V.P
