/- Plain laws of layer 16: TileFits, TileApart, TileSizes. -/
import Derived.Test.YtadljnfiehmmgaaLTile2
import Derived.Test.YtadljnfiehmmgaaTi6
import Derived.Test.YtadljnfiehmmgaaTi6
import Derived.Test.YtadljnfiehmmgaaTi6
namespace Go.V.P
open Go Go.V Go.IntWalk
set_option linter.unusedVariables false
set_option linter.unusedSimpArgs false
set_option maxRecDepth 20000
theorem one_mod (x h : Int) (kx : 0 ≤ x ∧ x ≤ 255) (h1 : 1 ≤ h) (h2 : h ≤ 16) : IntKind.wrap .i64 (1 + Int.tmod (IntKind.wrap .i64 x) h) = 1 + x % h ∧ 1 ≤ 1 + x % h ∧ 1 + x % h ≤ h := by
  rw [i64_in x (by omega), Int.tmod_eq_emod_of_nonneg kx.1]
  have := Int.emod_nonneg x (show h ≠ 0 by omega)
  have := Int.emod_lt_of_pos x (show 0 < h by omega)
  rw [i64_in _ (by omega)]
  omega
theorem Most_of (n : Node) (l : List I4) (z : I4) (hl : l.length < 1000000) (hB : (nB n).length < 1000000) (hv : ref03_Value n l = some (z, 0)) (r : Int) (h1 : 1 ≤ r) (h2 : r ≤ z.1) : ∃ m L, MostAt n l r (z, 0) m 0 ∧ MostOK n l z r L m := by
  obtain ⟨v, m, e, h⟩ := Most_at n l r hl hB
  have : v = (z, 0) := Option.some.inj (h.val.symm.trans hv)
  subst this
  obtain ⟨h3, L, h4⟩ := h.ok rfl ⟨h1, h2⟩
  subst h3
  exact ⟨m, L, h, h4⟩
theorem TileFits_true (n : Node) (l : List I4) (_ : Ts.ok tsNode n) (_ : Ts.ok (.one (.sl tsI4)) l) : law16_TileFits n l = some true := by
  obtain ⟨m, em, hm⟩ := few16_ok n
  obtain ⟨q, ek, hk⟩ := some16_ok l
  obtain ⟨v, e1, e2⟩ := Value_eq m q hk hm.2.2
  unfold law16_TileFits
  by_cases hv : v.2 = 0
  · obtain ⟨z, v2⟩ := v
    replace hv : v2 = 0 := hv
    subst hv
    have h := value_ok hk hm.2.2 e2
    have hz := mayB_iff.1 h.may
    simp only [vS] at hz
    obtain ⟨f1, _⟩ := nodeF m _ h.node
    obtain ⟨np1, np2⟩ := npu_of m.1 f1.1 (by omega)
    obtain ⟨b, b1, b2, b3, b4, b5, b6⟩ := best_run m q z hk hm.2.2 e2
    rw [np1] at b5 b6
    simp only [shown16, em, ek, e2, b1, Option.bind_some, bne_self_eq_false, cond_false, law16_TileFits_r8_p, np2]
    rw [decide_eq_false (by omega), decide_eq_false (by omega)]
    simp only [cond_false]
    generalize hp : decide (m.1 ≠ 3 ∧ m.1 ≠ 9 ∧ m.1 ≠ 10 ∧ m.1 ≠ 11) = p at *
    have hloop : ∃ y, iterN (law16_TileFits_l11_p m q (z, 0) (b, 0)) LL 1 = some y ∧ ∃ w : Int, y = .inl w := by
      refine iterN_inv (fun s : Int => 1 ≤ s ∧ s ≤ z.1 + 1) (fun s => (z.1 + 1 - s).toNat) (fun s hs => ?_) LL 1 ⟨by omega, by omega⟩ (LL_lt (by omega))
      unfold law16_TileFits_l11_p law16_TileFits_r11_p
      rw [np2]
      by_cases hc : s ≤ z.1
      · rw [decide_eq_true hc]
        simp only [cond_true, Option.bind_some]
        cases p with
        | false => exact .inr ⟨_, rfl, _, rfl⟩
        | true =>
          obtain ⟨x, L, hx, hM⟩ := Most_of m q z hk hm.2.2 e2 s hs.1 hc
          have hB := b5 rfl
          simp only [(need_run hx).1, (bufs_run hx).1, Option.bind_some, cond_true]
          have t := tk_eq hx
          have t1 := i64_in (s + 1) (by omega)
          have hr : law16_TileFits_r16_p (b, 0) s (takes x, 0) (bufs x 0) = false := by
            have g1 : s = b → takes x ≤ 1024 := fun hsb => by
              subst hsb
              rcases hB.fit with h | h
              · omega
              · omega
            have g2 : s > b → ¬ takes x ≤ 1024 := fun hsb => by
              have := hB.more s hsb hc
              omega
            simp only [law16_TileFits_r16_p, law16_TileFits_r16_q, bne_self_eq_false, cond_false]
            unfold bufs
            rw [if_pos rfl]
            by_cases hf : takes x ≤ 1024
            · have hgt : ¬ s > b := fun h => g2 h hf
              rw [if_neg (by omega), decide_eq_true hf, decide_eq_false hgt]
              simp
            · have hne : ¬ s = b := fun h => hf (g1 h)
              rw [if_pos (by omega), decide_eq_false hf, show (s == b) = false by simpa using hne]
              simp
          rw [hr, t1]
          exact .inl ⟨_, rfl, by omega, by omega⟩
      · rw [decide_eq_false hc]
        exact .inr ⟨_, rfl, _, rfl⟩
    obtain ⟨y, y1, w, rfl⟩ := hloop
    rw [y1]
    cases p with
    | true => rfl
    | false =>
      rw [b6 rfl]
      rfl
  · have hb := best_bad m q v hk hm.2.2 e2 hv
    simp only [shown16, em, ek, e2, hb.1, Option.bind_some]
    rw [show (v.2 != 0) = true by simpa using hv]
    simp only [cond_true, law16_TileFits_r7_p, law16_TileFits_r7_q, beq_self_eq_true]
theorem TileApart_true (n : Node) (l : List I4) (at_ : Int) (_ : Ts.ok tsNode n) (_ : Ts.ok (.one (.sl tsI4)) l) (kt : Ts.ok (.one (.int .u8)) at_) : law16_TileApart n l at_ = some true := by
  have ht : 0 ≤ at_ ∧ at_ ≤ 255 := kt
  obtain ⟨m, em, hm⟩ := few16_ok n
  obtain ⟨q, ek, hk⟩ := some16_ok l
  obtain ⟨v, e1, e2⟩ := Value_eq m q hk hm.2.2
  unfold law16_TileApart
  simp only [shown16, em, ek, e2, Option.bind_some]
  by_cases hv : v.2 = 0
  · obtain ⟨z, v2⟩ := v
    replace hv : v2 = 0 := hv
    subst hv
    have h := value_ok hk hm.2.2 e2
    have hz := mayB_iff.1 h.may
    simp only [vS] at hz
    obtain ⟨p1, p2, p3⟩ := one_mod at_ z.1 ht (by omega) (by omega)
    have hr7 : law16_TileApart_r7_p (z, 0) = some () := by
      simp only [law16_TileApart_r7_p]
      rw [show (z.1 == 0) = false by simp only [beq_eq_false_iff_ne]; omega]
      rfl
    obtain ⟨x, L, hx, hM⟩ := Most_of m q z hk hm.2.2 e2 _ p2 p3
    have b0 := hx.b0
    have b1 := hx.b1
    have b2 := hx.b2
    simp only [bne_self_eq_false, cond_false, hr7, p1, (bufs_run hx).1, hx.ref, Option.bind_some]
    have htk : takes x = 2 * (x.1 + x.2.1 + x.2.2) := rfl
    by_cases hf : 1024 < takes x
    · unfold bufs
      rw [if_pos rfl, if_pos hf]
      rfl
    · have hbu : bufs x 0 = ((0, x.1, 2 * x.1, 2 * x.1 + x.2.1, 2 * x.1 + 2 * x.2.1, 2 * x.1 + 2 * x.2.1 + x.2.2, takes x), 0) := by
        unfold bufs
        rw [if_pos rfl, if_neg hf]
      rw [hbu]
      have hl : iterN (law16_TileApart_l15_p ((0, x.1, 2 * x.1, 2 * x.1 + x.2.1, 2 * x.1 + 2 * x.2.1, 2 * x.1 + 2 * x.2.1 + x.2.2, takes x), 0) (x, 0)) LL 0 = some (.inl 6) := iterN_for (p := law16_TileApart_l15_p ((0, x.1, 2 * x.1, 2 * x.1 + x.2.1, 2 * x.1 + 2 * x.2.1, 2 * x.1 + 2 * x.2.1 + x.2.2, takes x), 0) (x, 0)) (z := .inl 6) 6 (fun i => (i : Int)) LL (LL_lt (by omega)) (fun i hi => by
        have : i = 0 ∨ i = 1 ∨ i = 2 ∨ i = 3 ∨ i = 4 ∨ i = 5 := by omega
        have hh : ∀ a b : Int, IntKind.wrap .i64 a = b → (b != IntKind.wrap .i64 a) = false := fun a b h => by rw [h]; simp
        rcases this with rfl | rfl | rfl | rfl | rfl | rfl
        · have e : law16_TileApart_r17_p ((0, x.1, 2 * x.1, 2 * x.1 + x.2.1, 2 * x.1 + 2 * x.2.1, 2 * x.1 + 2 * x.2.1 + x.2.2, takes x), 0) (x, 0) ((0 : Nat) : Int) = some (x.1 != IntKind.wrap .i64 (0 + x.1)) := rfl
          rw [hh (0 + x.1) (x.1) (by have := i64_in (0 + x.1) (by omega); omega)] at e
          simp only [law16_TileApart_l15_p, e]
          rfl
        · have e : law16_TileApart_r17_p ((0, x.1, 2 * x.1, 2 * x.1 + x.2.1, 2 * x.1 + 2 * x.2.1, 2 * x.1 + 2 * x.2.1 + x.2.2, takes x), 0) (x, 0) ((1 : Nat) : Int) = some (2 * x.1 != IntKind.wrap .i64 (x.1 + x.1)) := rfl
          rw [hh (x.1 + x.1) (2 * x.1) (by have := i64_in (x.1 + x.1) (by omega); omega)] at e
          simp only [law16_TileApart_l15_p, e]
          rfl
        · have e : law16_TileApart_r17_p ((0, x.1, 2 * x.1, 2 * x.1 + x.2.1, 2 * x.1 + 2 * x.2.1, 2 * x.1 + 2 * x.2.1 + x.2.2, takes x), 0) (x, 0) ((2 : Nat) : Int) = some (2 * x.1 + x.2.1 != IntKind.wrap .i64 (2 * x.1 + x.2.1)) := rfl
          rw [hh (2 * x.1 + x.2.1) (2 * x.1 + x.2.1) (by have := i64_in (2 * x.1 + x.2.1) (by omega); omega)] at e
          simp only [law16_TileApart_l15_p, e]
          rfl
        · have e : law16_TileApart_r17_p ((0, x.1, 2 * x.1, 2 * x.1 + x.2.1, 2 * x.1 + 2 * x.2.1, 2 * x.1 + 2 * x.2.1 + x.2.2, takes x), 0) (x, 0) ((3 : Nat) : Int) = some (2 * x.1 + 2 * x.2.1 != IntKind.wrap .i64 (2 * x.1 + x.2.1 + x.2.1)) := rfl
          rw [hh (2 * x.1 + x.2.1 + x.2.1) (2 * x.1 + 2 * x.2.1) (by have := i64_in (2 * x.1 + x.2.1 + x.2.1) (by omega); omega)] at e
          simp only [law16_TileApart_l15_p, e]
          rfl
        · have e : law16_TileApart_r17_p ((0, x.1, 2 * x.1, 2 * x.1 + x.2.1, 2 * x.1 + 2 * x.2.1, 2 * x.1 + 2 * x.2.1 + x.2.2, takes x), 0) (x, 0) ((4 : Nat) : Int) = some (2 * x.1 + 2 * x.2.1 + x.2.2 != IntKind.wrap .i64 (2 * x.1 + 2 * x.2.1 + x.2.2)) := rfl
          rw [hh (2 * x.1 + 2 * x.2.1 + x.2.2) (2 * x.1 + 2 * x.2.1 + x.2.2) (by have := i64_in (2 * x.1 + 2 * x.2.1 + x.2.2) (by omega); omega)] at e
          simp only [law16_TileApart_l15_p, e]
          rfl
        · have e : law16_TileApart_r17_p ((0, x.1, 2 * x.1, 2 * x.1 + x.2.1, 2 * x.1 + 2 * x.2.1, 2 * x.1 + 2 * x.2.1 + x.2.2, takes x), 0) (x, 0) ((5 : Nat) : Int) = some (takes x != IntKind.wrap .i64 (2 * x.1 + 2 * x.2.1 + x.2.2 + x.2.2)) := rfl
          rw [hh (2 * x.1 + 2 * x.2.1 + x.2.2 + x.2.2) (takes x) (by have := i64_in (2 * x.1 + 2 * x.2.1 + x.2.2 + x.2.2) (by omega); omega)] at e
          simp only [law16_TileApart_l15_p, e]
          rfl) rfl
      rw [hl]
      have hle : decide (takes x ≤ 1024) = true := decide_eq_true (by omega)
      show Option.bind (some (decide (takes x ≤ 1024))) _ = _
      rw [hle]
      rfl
  · rw [show (v.2 != 0) = true by simpa using hv]
    rfl
theorem TileSizes_true (n : Node) (l : List I4) (at_ : Int) (_ : Ts.ok tsNode n) (_ : Ts.ok (.one (.sl tsI4)) l) (kt : Ts.ok (.one (.int .u8)) at_) : law16_TileSizes n l at_ = some true := by
  have ht : 0 ≤ at_ ∧ at_ ≤ 255 := kt
  obtain ⟨m, em, hm⟩ := few16_ok n
  obtain ⟨q, ek, hk⟩ := some16_ok l
  obtain ⟨v, e1, e2⟩ := Value_eq m q hk hm.2.2
  unfold law16_TileSizes
  simp only [shown16, em, ek, e2, Option.bind_some]
  by_cases hv : v.2 = 0
  · obtain ⟨z, v2⟩ := v
    replace hv : v2 = 0 := hv
    subst hv
    have h := value_ok hk hm.2.2 e2
    have hz := mayB_iff.1 h.may
    simp only [vS] at hz
    obtain ⟨p1, p2, p3⟩ := one_mod at_ z.1 ht (by omega) (by omega)
    have hr9 : law16_TileSizes_r9_p (z, 0) = some () := by
      simp only [law16_TileSizes_r9_p]
      rw [show (z.1 == 0) = false by simp only [beq_eq_false_iff_ne]; omega]
      rfl
    obtain ⟨x, L, hx, hM⟩ := Most_of m q z hk hm.2.2 e2 _ p2 p3
    have b0 := hx.b0
    have b1 := hx.b1
    have b2 := hx.b2
    -- one row too much, and none
    have hbad : ∀ r : Int, ¬ (1 ≤ r ∧ r ≤ z.1) → tile_Need m q r = some (0, 1) ∧ tile_Bufs m q r = some ((0, 0, 0, 0, 0, 0, 0), 1) := fun r hr => by
      obtain ⟨v, y, e, hy⟩ := Most_at m q r hk hm.2.2
      have : v = (z, 0) := Option.some.inj (hy.val.symm.trans e2)
      subst this
      obtain ⟨c1, c2⟩ := hy.out rfl hr
      subst c1 c2
      exact ⟨(need_run hy).1, (bufs_run hy).1⟩
    rw [i64_in (z.1 + 1) (by omega)]
    simp only [bne_self_eq_false, cond_false, hr9, p1, (need_run hx).1, (bufs_run hx).1, hx.ref, (hbad (z.1 + 1) (by omega)).1, (hbad 0 (by omega)).2, Option.bind_some, law16_TileSizes_r16_p, law16_TileSizes_r16_q, cond_true, beq_self_eq_true]
    have htk : takes x = 2 * (x.1 + x.2.1 + x.2.2) := rfl
    rw [i64_in (x.1 + x.2.1) (by omega), i64_in (x.1 + x.2.1 + x.2.2) (by omega), i64_in _ (by omega), ← htk]
    have hmod : (Int.tmod (takes x) 2 == 0) = true := by
      rw [htk, Int.mul_tmod_right]; rfl
    rw [hmod]
    unfold bufs
    rw [if_pos rfl]
    by_cases hf : 1024 < takes x
    · rw [if_pos hf, decide_eq_false (by omega)]
      simp
    · rw [if_neg hf, decide_eq_true (by omega)]
      simp
  · obtain ⟨w, x, e, hx⟩ := Most_at m q 1 hk hm.2.2
    have : w = v := Option.some.inj (hx.val.symm.trans e2)
    subst this
    obtain ⟨c1, c2⟩ := hx.bad hv
    subst c1 c2
    rw [show (w.2 != 0) = true by simpa using hv]
    simp only [cond_true, (need_run hx).1, (bufs_run hx).1, Option.bind_some, law16_TileSizes_r8_p, law16_TileSizes_r8_q, beq_self_eq_true]
    unfold bufs
    rw [if_neg hv]
    simp
end Go.V.P
