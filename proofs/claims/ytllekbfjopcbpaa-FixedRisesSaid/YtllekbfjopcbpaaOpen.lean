/- Arguments, opened: an array of three integers. -/
import Derived.Test.YtllekbfjopcbpaaUse
import Derived.Carry
namespace Go
section
variable {H : Type} {enc : TypeId × Value → H} {P : Program} {w : World} {base : Nat} {spare : Nat → Bool} {held : Bool} {m : Nat} {t : TypeId}
theorem trod_int1 {k : IntKind} {c : Value} {x : DataW H × List MemPlace} (ht : P.underlying t = some (.int k)) (h : DataW.trod enc P w base spare held m t [c] = some x) : ∃ n, c = .int k n := by
  cases m with
  | zero => simp [DataW.trod] at h
  | succ m =>
    unfold DataW.trod at h
    rw [ht] at h
    split at h <;> simp_all
theorem open_arr3 {r : Reach} {b0 : Nat} {e : TypeId} {k : IntKind} {v : Value} {d : DataW H} {ps : List MemPlace} (ht : P.underlying t = some (.array 3 e)) (he : P.underlying e = some (.int k)) (hc : P.cellsOf t = 3) (hce : P.cellsOf e = 1)
    (hv : Value.okWide P w r b0 t v) (h : DataW.Trod enc P w base spare held t v d ps) : ∃ x y z, v = .agg #[.int k x, .int k y, .int k z] := by
  unfold Value.okWide at hv
  rw [ht] at hv
  obtain ⟨cs, rfl, hs, _⟩ := hv
  obtain ⟨fuel, h⟩ := h
  obtain ⟨xs, m, _, _, _, hl, hi⟩ := DataW.trod_array ht h
  rw [hc] at hs
  have hcells : (Value.agg cs).cells = cs := rfl
  rw [hcells] at hi
  match cs, hs with
  | ⟨[a, b, c]⟩, _ =>
    match xs, hl with
    | [x0, x1, x2], _ =>
      have h0 := hi 0 (by omega)
      have h1 := hi 1 (by omega)
      have h2 := hi 2 (by omega)
      simp only [hce] at h0 h1 h2
      obtain ⟨n0, rfl⟩ := trod_int1 (c := a) he (by simpa using h0)
      obtain ⟨n1, rfl⟩ := trod_int1 (c := b) he (by simpa using h1)
      obtain ⟨n2, rfl⟩ := trod_int1 (c := c) he (by simpa using h2)
      exact ⟨n0, n1, n2, rfl⟩
end
end Go
