/- Walks by hand: bytes that are laid down one behind the other, in room of one's own. -/
import Derived.Test.YtaeckbkjlmnigaaV5
import Derived.Test.YtaeckbkjlmnigaaProg
import Derived.WalkKit
namespace Go.V.P
open Go Go.RowKit Go.V Go.Proofs
set_option linter.unusedVariables false
set_option linter.unusedSimpArgs false
def Mine (base : Nat) (B : Option Nat) (w : World) (v : Value) (n : Nat) : Prop :=
  ∃ A c, v = .slice A n c ∧ n ≤ c ∧ (c ≠ 0 → ∃ b arr ty, A = some ⟨b, 0, none⟩ ∧ w.heap[b]? = some (.cells arr ty (0, 0)) ∧ arr.size = c ∧ base ≤ b ∧ B ≠ some b)
def Stays (base : Nat) (B : Option Nat) (w w' : World) : Prop := Below base w w' ∧ ∀ b, B = some b → b < w.heap.size → w'.heap[b]? = w.heap[b]?
theorem Stays.refl (base : Nat) (B : Option Nat) (w : World) : Stays base B w w := ⟨Below.refl _ _, fun _ _ _ => rfl⟩
theorem Stays.trans {base : Nat} {B : Option Nat} {w w1 w2 : World} (h : Stays base B w w1) (k : Stays base B w1 w2) : Stays base B w w2 :=
  ⟨h.1.trans k.1, fun b hb hl => (k.2 b hb (Nat.lt_of_lt_of_le hl h.1.size)).trans (h.2 b hb hl)⟩
theorem Stays.alloc {base : Nat} {B : Option Nat} (w : World) (o : Obj) (hb : base ≤ w.heap.size) : Stays base B w (w.alloc o) := ⟨(Below.refl _ _).alloc hb _, fun b _ hl => Below.heap_alloc w o b hl⟩
theorem Mine.alloc {base : Nat} {B : Option Nat} {w : World} {v : Value} {n : Nat} (h : Mine base B w v n) (o : Obj) : Mine base B (w.alloc o) v n := by
  obtain ⟨A, c, rfl, hn, hc⟩ := h
  refine ⟨A, c, rfl, hn, fun h0 => ?_⟩
  obtain ⟨b, arr, ty, e1, e2, e3⟩ := hc h0
  exact ⟨b, arr, ty, e1, (Below.heap_alloc w o b (heap_lt_of e2)).trans e2, e3⟩
theorem mine_snoc {P : Program} {base : Nat} {B : Option Nat} {w : World} {v : Value} {n t e : Nat} {i : TypeInfo} {z x : Value} (hu : P.underlying t = some (.slice e)) (hi : P.info? e = some i) (hs : i.size = 1) (hby : i.bytes ≤ 65536) (hz : i.zero = some z) (hzs : z.cells.size = 1)
    (hx : x.oneCell' = true) (h : Mine base B w v n) (hb : base ≤ w.heap.size) (hB : ∀ b, B = some b → b < w.heap.size) (hn : n + 1 ≤ 2147483648) :
    ∃ v' w', (Builtin.append_ #[t, t] t #[v, .slice (some ⟨w.heap.size, 0, none⟩) 1 1]).run P (w.alloc (.cells #[x] e)) = .ok v' w' ∧ Mine base B w' v' (n + 1) ∧ Stays base B w w' := by
  have hxc : ∀ (j : Nat) u, [x][j]? = some u → (w.alloc (.cells #[x] e)).cell? ((⟨w.heap.size, 0, none⟩ : Addr).add j) = some u := fun j u h => by
    cases j with
    | zero =>
      simp at h
      subst h
      show (match (w.alloc (.cells #[x] e)).heap[w.heap.size]? with | some (.cells c _ _) => c[0 + 0]? | _ => none) = _
      rw [heap_alloc_new]
      rfl
    | succ j => simp at h
  have hM := h.alloc (.cells #[x] e)
  obtain ⟨A, c, rfl, hnc, hc⟩ := h
  have hS := Stays.alloc (base := base) (B := B) w (.cells #[x] e) hb
  by_cases hroom : n + 1 ≤ c
  · obtain ⟨b, arr, ty, rfl, e2, e3, e4, e5⟩ := hc (by omega)
    have hbl := heap_lt_of e2
    have e2' : (w.alloc (.cells #[x] e)).heap[b]? = some (.cells arr ty (0, 0)) := (Below.heap_alloc w _ b hbl).trans e2
    have hr := run_append_room' (P := P) (w := w.alloc (.cells #[x] e)) t t e ty i hu hi b n c arr e2' (some ⟨w.heap.size, 0, none⟩) 1 1 [x] (by simp [hs])
      (fun _ => ⟨w.heap.size, 0, rfl, fun j u hj => by have := hxc j u hj; rwa [add_none] at this⟩) (fun u hu => by simp at hu; subst hu; exact hx) (by omega) (by simp [hs]; omega)
    refine ⟨_, _, hr, ⟨some ⟨b, 0, none⟩, c, rfl, by omega, fun _ => ⟨b, _, ty, rfl, setRow_heap _ b arr _ ty _ e2', ?_, e4, e5⟩⟩, ?_⟩
    · simp [hs]; omega
    · refine hS.trans ⟨⟨rfl, rfl, rfl, by simp, fun k hk => setRow_other _ b k _ (by omega)⟩, fun b2 hb2 hl => setRow_other _ b b2 _ (fun q => e5 (q ▸ hb2))⟩
  · obtain ⟨olds, ho1, ho2⟩ : ∃ olds : List Value, olds.length = n ∧ (0 < n → ∃ ad, A = some ad ∧ ∀ (j : Nat) u, olds[j]? = some u → (w.alloc (.cells #[x] e)).cell? (ad.add j) = some u) := by
      by_cases h0 : n = 0
      · exact ⟨[], by simp [h0], fun h => absurd h (by omega)⟩
      · obtain ⟨b, arr, ty, rfl, e2, e3, e4, e5⟩ := hc (by omega)
        have hbl := heap_lt_of e2
        have e2' : (w.alloc (.cells #[x] e)).heap[b]? = some (.cells arr ty (0, 0)) := (Below.heap_alloc w _ b hbl).trans e2
        refine ⟨arr.toList.take n, by simp; omega, fun _ => ⟨_, rfl, fun j u hj => ?_⟩⟩
        rw [List.getElem?_take] at hj
        split at hj
        · rw [add_none]
          simp only [World.cell?, e2', Nat.zero_add]
          simpa using hj
        · cases hj
    have hge := grownCap_ge (w.alloc (.cells #[x] e)) (n + 1) c e
    have hfit : Builtin.nextslicecap (n + 1) c * i.bytes ≤ 281474976710656 := growslice_fits (by omega) (by
      have : (n + 1) * i.bytes ≤ 2147483648 * 65536 := Nat.mul_le_mul hn hby
      omega)
    obtain ⟨cells, hcs, hrun⟩ : ∃ cells : Array Value, cells.size = grownCap (w.alloc (.cells #[x] e)) (n + 1) c e ∧ (Builtin.append_ #[t, t] t #[.slice A n c, .slice (some ⟨w.heap.size, 0, none⟩) 1 1]).run P (w.alloc (.cells #[x] e)) =
        .ok (.slice (some ⟨(w.alloc (.cells #[x] e)).heap.size, 0, none⟩) (n + 1) (grownCap (w.alloc (.cells #[x] e)) (n + 1) c e)) ((w.alloc (.cells #[x] e)).drew.alloc (.cells cells e)) := by
      cases hA : A with
      | some ad =>
        refine ⟨_, ?_, run_append_grow (P := P) _ t t e i z hu hi hz ad n c olds (by rw [ho1, hs, Nat.mul_one]) (fun j u hj => ?_) ⟨w.heap.size, 0, none⟩ 1 1 [x] (by simp [hs]) hxc (by omega) (by omega) hfit⟩
        · simp [size_zeroCells, hzs, ho1]; omega
        · have h0 : 0 < n := by have := (List.getElem?_eq_some_iff.1 hj).1; omega
          obtain ⟨ad2, q1, q2⟩ := ho2 h0
          rw [hA] at q1
          cases q1
          exact q2 j u hj
      | none =>
        have hc0 : c = 0 := by
          by_cases q : c = 0
          · exact q
          · obtain ⟨b, arr, ty, q1, _⟩ := hc q
            rw [hA] at q1
            cases q1
        have hn0 : n = 0 := by omega
        subst hc0
        subst hn0
        have h1 := run_append_nil (P := P) (w.alloc (.cells #[x] e)) t t e i z hu hi hz ⟨w.heap.size, 0, none⟩ 1 1 [x] (by simp [hs]) hxc (by omega) (by omega) (by omega)
        refine ⟨_, ?_, h1⟩
        simp [size_zeroCells, hzs]
        simp at hge
        omega
    refine ⟨_, _, hrun, ⟨_, _, rfl, hge, fun _ => ⟨_, cells, e, rfl, ?_, hcs, ?_, ?_⟩⟩, ?_⟩
    · have := heap_alloc_new ((w.alloc (.cells #[x] e)).drew) (.cells cells e)
      simpa using this
    · simp; omega
    · intro q
      have := hB _ q
      simp at this
      omega
    · refine hS.trans ⟨⟨rfl, rfl, rfl, by simp, fun k hk => ?_⟩, fun b2 hb2 hl => ?_⟩
      · exact Below.heap_alloc ((w.alloc (.cells #[x] e)).drew) _ k (by simp; omega)
      · exact Below.heap_alloc ((w.alloc (.cells #[x] e)).drew) _ b2 hl
end Go.V.P
