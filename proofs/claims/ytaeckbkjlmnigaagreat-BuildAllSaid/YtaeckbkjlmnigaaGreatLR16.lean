/- Plain laws of layer 16, the reference's own: where the tiles lie, how many rows fit. -/
import Derived.Test.YtaeckbkjlmnigaaGreatLBTile
import Derived.Test.YtaeckbkjlmnigaaGreatBa2
import Derived.Test.YtaeckbkjlmnigaaGreatBa2
namespace Go.V.P
open Go Go.V Go.IntWalk
set_option linter.unusedVariables false
set_option linter.unusedSimpArgs false
set_option maxRecDepth 20000
theorem rbufs_run {n : Node} {l : List I4} {rows : Int} {v : I4 × Int} {m : I3} {e : Int} (h : MostAt n l rows v m e) : ref16_Bufs n l rows = some (bufs m e) := by
  have b0 := h.b0
  have b1 := h.b1
  have b2 := h.b2
  unfold ref16_Bufs bufs
  rw [(need_run h).2]
  simp only [Option.bind_some, h.ref, ref16_Bufs_r9_p, ref16_Bufs_r9_q]
  by_cases he : e = 0
  · subst he
    simp only [bne_self_eq_false, cond_false, if_true]
    by_cases hc : 1024 < takes m
    · rw [decide_eq_true (show takes m > 1024 from hc), if_pos hc]; rfl
    · rw [decide_eq_false (show ¬ takes m > 1024 from hc), if_neg hc]
      simp only [cond_false, Option.bind_some]
      rw [i64_in (2 * m.1) (by omega), i64_in (2 * m.2.1) (by omega), i64_in (2 * m.1 + m.2.1) (by omega), i64_in (2 * m.1 + 2 * m.2.1) (by omega), i64_in (2 * m.1 + 2 * m.2.1 + m.2.2) (by omega)]
  · rw [show (e != 0) = true by simpa using he, if_neg he]
    rfl
theorem rbest_run (n : Node) (l : List I4) (z : I4) (hl : l.length < 1000000) (hB : (nB n).length < 1000000) (hv : ref03_Value n l = some (z, 0)) : ref16_Best n l = tile_Best n l := by
  obtain ⟨b, hb, lo, hi, c1, c2⟩ := best_run n l z hl hB hv
  rw [hb]
  have h := value_ok hl hB hv
  have hz := mayB_iff.1 h.may
  simp only [vS] at hz
  obtain ⟨f1, _⟩ := nodeF n _ h.node
  obtain ⟨np1, np2⟩ := npu_of n.1 f1.1 (by omega)
  unfold ref16_Best
  rw [hv]
  simp only [Option.bind_some, bne_self_eq_false, cond_false]
  by_cases hp : n.1 ≠ 3 ∧ n.1 ≠ 9 ∧ n.1 ≠ 10 ∧ n.1 ≠ 11
  · rw [decide_eq_true hp] at np1 np2
    have hb : ∃ y : Int × Int, iterN (ref16_Best_l6_p n l (z, 0)) LL (0, 1) = some y ∧ BestIs n l z y.1 := by
      refine iterN_inv (fun s : Int × Int => 0 ≤ s.1 ∧ s.1 < s.2 ∧ 1 ≤ s.2 ∧ s.2 ≤ z.1 + 1 ∧ (s.1 = 0 ∨ tk n l s.1 ≤ 1024) ∧ ∀ r, s.1 < r → r < s.2 → 1024 < tk n l r) (fun s => (z.1 + 1 - s.2).toNat) (fun s hs => ?_) LL (0, 1) ⟨by simp, by simp, by simp, by simp only; omega, .inl rfl, fun r h1 h2 => by simp only at h1 h2; omega⟩ (LL_lt (by simp only; omega))
      obtain ⟨a1, a2, a3, a4, a5, a6⟩ := hs
      unfold ref16_Best_l6_p ref16_Best_r6_p
      rw [np2]
      by_cases hc : s.2 ≤ z.1
      · have t1 := i64_in (s.2 + 1) (by omega)
        simp only [decide_eq_true hc, cond_true, Option.bind_some, ref16_Best_j8_p, (need_at n l z hl hB hv s.2 a3 hc).2, t1]
        by_cases ht : tk n l s.2 ≤ 1024
        · rw [decide_eq_true ht]
          refine .inl ⟨_, rfl, ⟨by show 0 ≤ s.2; omega, by show s.2 < s.2 + 1; omega, by show 1 ≤ s.2 + 1; omega, by show s.2 + 1 ≤ z.1 + 1; omega, .inr ht, fun r h1 h2 => ?_⟩, by simp only; omega⟩
          simp only [cond_true] at h1 h2
          omega
        · rw [decide_eq_false ht]
          refine .inl ⟨_, rfl, ⟨a1, by show s.1 < s.2 + 1; omega, by show 1 ≤ s.2 + 1; omega, by show s.2 + 1 ≤ z.1 + 1; omega, a5, fun r h1 h2 => ?_⟩, by simp only; omega⟩
          simp only [cond_false] at h1 h2
          by_cases hr : r = s.2
          · subst hr; omega
          · exact a6 r h1 (by omega)
      · rw [decide_eq_false hc]
        exact .inr ⟨_, rfl, a1, by omega, a5, fun r h1 h2 => a6 r h1 (by omega)⟩
    obtain ⟨x, x1, x2⟩ := hb
    rw [x1, best_one (c1 np1) x2]
    rfl
  · rw [decide_eq_false hp] at np1 np2
    have : iterN (ref16_Best_l6_p n l (z, 0)) LL (0, 1) = some (0, 1) := iterN_for (p := ref16_Best_l6_p n l (z, 0)) (z := (0, 1)) 0 (fun i => (0, 1)) LL (LL_lt (by omega)) (fun i hi => absurd hi (by omega)) (by
      unfold ref16_Best_l6_p ref16_Best_r6_p
      rw [np2]
      cases decide (((0, 1) : Int × Int).2 ≤ ((z, 0) : I4 × Int).1.1) <;> rfl)
    rw [this, c2 np1]
    rfl
end Go.V.P
