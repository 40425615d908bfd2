/- What is asked of the tables, as a check that runs. -/
import Derived.Test.YtelfooangijedaaSound
namespace Go.V
open Go.RowKit
set_option linter.unusedVariables false

def zeroB1 : D → Value → Bool
  | .g (.int k) x, .int k' y => decide (k = k') && decide (x = y)
  | .g .bool x, .bool y => x == y
  | .g (.sl _) [], .slice none 0 0 => true
  | .nilFn, .nilFunc => true
  | .nilPtr, .pointer none => true
  | .undef, .int _ _ => true
  | .undef, .bool _ => true
  | .undef, .string _ => true
  | _, _ => false
def zeroB : List D → List Value → Bool
  | [], [] => true
  | d :: ds, v :: vs => zeroB1 d v && zeroB ds vs
  | _, _ => false
theorem zeroB1_sound {w : World} {γ : Gh} {d : D} {v : Value} (h : zeroB1 d v = true) : rdD w γ d v ∧ d.strip = d := by
  unfold zeroB1 at h
  split at h
  · simp only [Bool.and_eq_true, decide_eq_true_eq] at h
    obtain ⟨rfl, rfl⟩ := h
    exact ⟨by simp only [rdD, rdT], rfl⟩
  · have := eq_of_beq h
    subst this
    exact ⟨by simp only [rdD, rdT], rfl⟩
  · refine ⟨?_, rfl⟩
    simp only [rdD, rdT]
    exact ⟨none, 0, rfl, Nat.le_refl _, fun i hi => absurd hi (by simp)⟩
  · exact ⟨by simp only [rdD], rfl⟩
  · exact ⟨by simp only [rdD], rfl⟩
  · exact ⟨by simp only [rdD]; trivial, rfl⟩
  · exact ⟨by simp only [rdD]; trivial, rfl⟩
  · exact ⟨by simp only [rdD]; trivial, rfl⟩
  · cases h
theorem zeroB_sound {w : World} {γ : Gh} : ∀ {ds : List D} {vs : List Value}, zeroB ds vs = true → rdL w γ ds vs ∧ ds.map D.strip = ds
  | [], [], _ => ⟨by simp only [rdL], rfl⟩
  | d :: ds, v :: vs, h => by
    simp only [zeroB, Bool.and_eq_true] at h
    obtain ⟨h1, h2⟩ := zeroB1_sound (w := w) (γ := γ) h.1
    obtain ⟨h3, h4⟩ := zeroB_sound (w := w) (γ := γ) h.2
    exact ⟨by simp only [rdL]; exact ⟨h1, h3⟩, by rw [List.map_cons, h2, h4]⟩
  | [], _ :: _, h => by cases h
  | _ :: _, [], h => by cases h
def notTup : TD → Bool
  | .tup _ => false
  | _ => true
theorem notTup_sound {d : TD} (h : notTup d = true) (ts : List Nat) : d ≠ .tup ts := by rintro rfl; cases h
def elemB (E : Env) (e : Nat) : Bool := match E.ti e with
  | some te => notTup te.d
  | none => true
theorem elemB_sound {E : Env} {e : Nat} (h : elemB E e = true) : ∀ te, E.ti e = some te → ∀ ts, te.d ≠ .tup ts := fun te hte ts => by
  unfold elemB at h
  rw [hte] at h
  exact notTup_sound h ts
def fieldsB (E : Env) (fields : Array Field) : Nat → List (Nat × Nat) → Bool
  | _, [] => true
  | i, (off, ft) :: fs => (match fields[i]? with
    | some f => f.offset.beq off && Nat.beq f.type ft && elemB E ft && (match E.P.info? ft with
      | some i => !(i.size.beq 0)
      | none => false)
    | none => false) && fieldsB E fields (i + 1) fs
theorem fieldsB_sound {E : Env} {fields : Array Field} : ∀ {fs : List (Nat × Nat)} {j : Nat}, fieldsB E fields j fs = true → ∀ (i off ft : Nat), fs[i]? = some (off, ft) → ∃ f, fields[j + i]? = some f ∧ f.offset = off ∧ f.type = ft ∧
    (∀ te, E.ti ft = some te → ∀ ts, te.d ≠ .tup ts) ∧ ∃ i, E.P.info? ft = some i ∧ i.size ≠ 0
  | [], j, _, i, off, ft, hi => by simp at hi
  | (o, t) :: fs, j, h, i, off, ft, hi => by
    simp only [fieldsB, Bool.and_eq_true] at h
    cases i with
    | zero =>
      simp only [List.getElem?_cons_zero, Option.some.injEq, Prod.mk.injEq] at hi
      obtain ⟨rfl, rfl⟩ := hi
      have h1 := h.1
      split at h1
      · rename_i f hf
        simp only [Bool.and_eq_true, nbeq] at h1
        obtain ⟨⟨⟨a1, a2⟩, a3⟩, a4⟩ := h1
        split at a4
        · rename_i x hx
          exact ⟨f, by simpa using hf, a1, a2, elemB_sound a3, x, hx, by simpa [nbeq_false] using a4⟩
        · cases a4
      · cases h1
    | succ i =>
      obtain ⟨f, h1, h2⟩ := fieldsB_sound h.2 i off ft (by simpa using hi)
      exact ⟨f, by rw [show j + (i + 1) = j + 1 + i by omega]; exact h1, h2⟩
def descB (E : Env) (t : Nat) (d : TD) : Bool := match d, E.P.underlying t with
  | .int k, some (.int k') => decide (k = k')
  | .bool, some .bool => true
  | .slice e, some (.slice e') => Nat.beq e e' && elemB E e
  | .array n e, some (.array n' e') => Nat.beq n n' && Nat.beq e e' && elemB E e
  | .struct fs, some (.struct fields) => fs.length.beq fields.size && fieldsB E fields 0 fs
  | .ptr e, some (.pointer e') => Nat.beq e e'
  | .func, some (.func _ _ _) => true
  | .tup _, _ => true
  | _, _ => false
def infoB (E : Env) (t : Nat) (ti : TI) : Bool := match E.P.info? t with
  | some i => i.size.beq ti.size && i.bytes.ble 65536 && (match i.zero with
    | some z => z.cells.size.beq ti.size && zeroB ti.zero z.cells.toList
    | none => false)
  | none => false
def tiB (E : Env) (t : Nat) (ti : TI) : Bool := (ti.agg == isAggD ti.d) && (!(notTup ti.d) || infoB E t ti) && descB E t ti.d && (notTup ti.d || ti.gl.isNone)
theorem tiB_sound {E : Env} {t : Nat} {ti : TI} (h : tiB E t ti = true) : TiOK E t ti := by
  simp only [tiB, Bool.and_eq_true, Bool.or_eq_true, Bool.not_eq_true'] at h
  obtain ⟨⟨⟨h1, h2⟩, h3⟩, h4⟩ := h
  refine ⟨eq_of_beq h1, fun hn => ?_, ?_, fun ts hts => ?_⟩
  · have hi : infoB E t ti = true := h2.resolve_left fun e => by
      cases hd : ti.d <;> first | exact hn _ hd | (rw [hd] at e; cases e)
    unfold infoB at hi
    split at hi
    · rename_i i hi'
      simp only [Bool.and_eq_true, nbeq] at hi
      obtain ⟨⟨a1, a2⟩, a3⟩ := hi
      split at a3
      · rename_i z hz
        simp only [Bool.and_eq_true, nbeq] at a3
        exact ⟨i, hi', a1, Nat.le_of_ble_eq_true a2, z, hz, a3.1, fun w γ => (zeroB_sound a3.2).1, (zeroB_sound (w := default) (γ := ⟨[], fun _ => none, fun _ => none, 0⟩) a3.2).2⟩
      · cases a3
    · cases hi
  · generalize hd : ti.d = d at h3
    unfold descB at h3
    split at h3
    · rename_i k k' hu; simp only [decide_eq_true_eq] at h3; subst h3; exact hu
    · rename_i hu; exact hu
    · rename_i e e' hu; simp only [Bool.and_eq_true, nbeq] at h3; obtain ⟨rfl, h3⟩ := h3; exact ⟨hu, elemB_sound h3⟩
    · rename_i n e n' e' hu; simp only [Bool.and_eq_true, nbeq] at h3; obtain ⟨⟨rfl, rfl⟩, h3⟩ := h3; exact ⟨hu, elemB_sound h3⟩
    · rename_i fs fields hu
      simp only [Bool.and_eq_true, nbeq] at h3
      exact ⟨fields, hu, h3.1, fun i off ft hi => by have := fieldsB_sound h3.2 i off ft hi; rwa [Nat.zero_add] at this⟩
    · rename_i e e' hu; simp only [nbeq] at h3; subst h3; exact hu
    · rename_i a b c hu; exact ⟨a, b, c, hu⟩
    · trivial
    · cases h3
  · rcases h4 with h4 | h4
    · rw [hts] at h4; cases h4
    · simpa using h4
def tabB (E : Env) : List (Nat × TI) → Bool
  | [] => true
  | (t, ti) :: l => tiB E t ti && tabB E l
theorem tabB_sound {E : Env} : ∀ {l : List (Nat × TI)}, tabB E l = true → ∀ t ti, look l t = some ti → TiOK E t ti
  | [], _, t, ti, h => by simp [look] at h
  | (s, q) :: l, h, t, ti, hl => by
    simp only [tabB, Bool.and_eq_true] at h
    simp only [look] at hl
    cases hb : Nat.beq s t with
    | true => rw [hb] at hl; cases hl; obtain rfl := nbeq.1 hb; exact tiB_sound h.1
    | false => rw [hb] at hl; exact tabB_sound h.2 t ti hl
def fnsB : List Func → Bool
  | [] => true
  | fn :: l => (fn.body.isNone || !(fn.name == "runtime.NumGoroutine")) && fnsB l
theorem fnsB_sound : ∀ {l : List Func}, fnsB l = true → ∀ (f : Nat) fn, l[f]? = some fn → fn.body.isSome = true → (fn.name == "runtime.NumGoroutine") = false
  | [], _, f, fn, h, _ => by simp at h
  | x :: l, h, 0, fn, hi, hb => by
    simp only [fnsB, Bool.and_eq_true, Bool.or_eq_true, Bool.not_eq_true'] at h
    simp at hi
    subst hi
    rcases h.1 with h1 | h1
    · cases hx : x.body with
      | none => rw [hx] at hb; cases hb
      | some c => rw [hx] at h1; cases h1
    · exact h1
  | x :: l, h, f + 1, fn, hi, hb => by
    simp only [fnsB, Bool.and_eq_true] at h
    exact fnsB_sound h.2 f fn (by simpa using hi) hb
theorem envOK {E : Env} (h1 : tabB E E.tab = true) (h2 : E.P.follows .mixedOrders = true) (h3 : fnsB E.P.funcs.toList = true) (h4 : E.eqs = []) : EnvOK E :=
  ⟨fun t ti ht => tabB_sound h1 t ti ht, h2, fun f fn hf hb => fnsB_sound h3 f fn (by simpa using hf) hb, fun t ht => by rw [h4] at ht; cases ht⟩
end Go.V
