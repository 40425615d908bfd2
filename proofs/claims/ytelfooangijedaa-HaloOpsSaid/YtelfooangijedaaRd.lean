/- What typed data mean in the machine's memory; what is kept when memory grows. -/
import Derived.Test.YtelfooangijedaaVal
import Derived.Below
namespace Go.V
open Go.RowKit

/-- What is noted beside the memory: the boxes; how much of a block may be read; the slices with spare room of their own; where the call's own memory begins. -/
structure Hdr where
  A : Option Addr
  n : Nat
  c : Nat
  sz : Nat
structure Gh where
  bx : List Nat
  rd : Nat → Option Nat
  ow : Tok → Option Hdr
  base : Nat

def Gh.may (γ : Gh) (b i : Nat) : Prop := match γ.rd b with
  | none => True
  | some n => i < n

def Value.scalar : Value → Prop
  | .agg _ => False
  | .tuple _ => False
  | _ => True

section
variable (w : World) (γ : Gh)
mutual
def rdT : (t : T) → t.den → Value → Prop
  | .int k, x, v => v = .int k x
  | .bool, x, v => v = .bool x
  | .sl e, xs, v => ∃ A c, v = .slice A (List.length xs) c ∧ List.length xs ≤ c ∧
      ∀ i (h : i < List.length xs), ∃ b o, A = some ⟨b, o, none⟩ ∧ rdTs e (xs[i]'h) b (o + i * e.size)
def rdTs : (e : Ts) → e.den → Nat → Nat → Prop
  | .one t, x, b, o => ∃ u, w.cell? ⟨b, o, none⟩ = some u ∧ γ.may b o ∧ rdT t x u
  | .cons t ts, x, b, o => (∃ u, w.cell? ⟨b, o, none⟩ = some u ∧ γ.may b o ∧ rdT t x.1 u) ∧ rdTs ts x.2 b (o + 1)
end
mutual
def rdD : D → Value → Prop
  | .g t x, v => rdT w γ t x v
  | .ow e xs _, v => rdT w γ (.sl e) xs v
  | .fn f caps, v => ∃ vs, v = .func (.func f) #[] vs ∧ rdL caps vs.toList
  | .nilFn, v => v = .nilFunc
  | .nilPtr, v => v = .pointer none
  | .cell c, v => ∃ b o, v = .pointer (some ⟨b, o, none⟩) ∧ rdC c b o
  | .ref i off, v => ∃ b, γ.bx[i]? = some b ∧ v = .pointer (some ⟨b, off, none⟩)
  | .undef, v => Value.scalar v
def rdL : List D → List Value → Prop
  | [], [] => True
  | d :: ds, v :: vs => rdD d v ∧ rdL ds vs
  | _, _ => False
def rdC : List D → Nat → Nat → Prop
  | [], _, _ => True
  | d :: ds, b, o => (∃ u, w.cell? ⟨b, o, none⟩ = some u ∧ γ.may b o ∧ rdD d u) ∧ rdC ds b (o + 1)
end
mutual
def rdR : R → Value → Prop
  | .one d, v => rdD w γ d v
  | .agg ds, v => ∃ vs, v = .agg vs ∧ rdL w γ ds vs.toList
  | .tup rs, v => ∃ vs, v = .tuple vs ∧ rdRs rs vs.toList
  | .undef, _ => True
  | .skip, v => v = Go.undef
def rdRs : List R → List Value → Prop
  | [], [] => True
  | r :: rs, v :: vs => rdR r v ∧ rdRs rs vs
  | _, _ => False
end
end

/-- What may be read stays; the boxes stay (there may be more); below the base nothing turns. -/
structure Ext (γ : Gh) (w : World) (γ' : Gh) (w' : World) : Prop where
  bx : ∀ (i b : Nat), γ.bx[i]? = some b → γ'.bx[i]? = some b
  base : γ'.base = γ.base
  size : w.heap.size ≤ w'.heap.size
  cells : ∀ b i u, γ.may b i → w.cell? ⟨b, i, none⟩ = some u → w'.cell? ⟨b, i, none⟩ = some u ∧ γ'.may b i
  low : Below γ.base w w'
  rdlow : ∀ b, b < γ.base → γ'.rd b = γ.rd b

theorem Ext.refl (γ : Gh) (w : World) : Ext γ w γ w := ⟨fun _ _ h => h, rfl, Nat.le_refl _, fun _ _ _ h1 h2 => ⟨h2, h1⟩, Below.refl _ _, fun _ _ => rfl⟩
theorem Ext.trans {γ γ1 γ2 : Gh} {w w1 w2 : World} (h : Ext γ w γ1 w1) (k : Ext γ1 w1 γ2 w2) : Ext γ w γ2 w2 :=
  ⟨fun i b hb => k.bx i b (h.bx i b hb), k.base.trans h.base, Nat.le_trans h.size k.size,
   fun b i u h1 h2 => let ⟨c1, c2⟩ := h.cells b i u h1 h2; k.cells b i u c2 c1,
   h.low.trans (h.base ▸ k.low), fun b hb => (k.rdlow b (h.base.symm ▸ hb)).trans (h.rdlow b hb)⟩

section
variable {w w' : World} {γ γ' : Gh}
/-- only what concerns reading -/
structure Sees (γ : Gh) (w : World) (γ' : Gh) (w' : World) : Prop where
  cells : ∀ b i u, γ.may b i → w.cell? ⟨b, i, none⟩ = some u → w'.cell? ⟨b, i, none⟩ = some u ∧ γ'.may b i
mutual
theorem rdT_mono (h : Sees γ w γ' w') : (t : T) → (x : t.den) → (v : Value) → rdT w γ t x v → rdT w' γ' t x v
  | .int _, _, _, hv => hv
  | .bool, _, _, hv => hv
  | .sl e, xs, v, hv => by
    simp only [rdT] at hv ⊢
    obtain ⟨A, c, rfl, hc, hi⟩ := hv
    refine ⟨A, c, rfl, hc, fun i hlt => ?_⟩
    obtain ⟨b, o, hA, hr⟩ := hi i hlt
    exact ⟨b, o, hA, rdTs_mono h e _ b _ hr⟩
theorem rdTs_mono (h : Sees γ w γ' w') : (e : Ts) → (x : e.den) → (b o : Nat) → rdTs w γ e x b o → rdTs w' γ' e x b o
  | .one t, x, b, o, hv => by
    simp only [rdTs] at hv ⊢
    obtain ⟨u, h1, h2, h3⟩ := hv
    exact ⟨u, (h.cells b o u h2 h1).1, (h.cells b o u h2 h1).2, rdT_mono h t x u h3⟩
  | .cons t ts, x, b, o, hv => by
    simp only [rdTs] at hv ⊢
    obtain ⟨⟨u, h1, h2, h3⟩, h4⟩ := hv
    exact ⟨⟨u, (h.cells b o u h2 h1).1, (h.cells b o u h2 h1).2, rdT_mono h t x.1 u h3⟩, rdTs_mono h ts x.2 b (o + 1) h4⟩
end
mutual
theorem rdD_mono (h : Sees γ w γ' w') (hb : ∀ (i b : Nat), γ.bx[i]? = some b → γ'.bx[i]? = some b) : (d : D) → (v : Value) → rdD w γ d v → rdD w' γ' d v
  | .g t x, v, hv => by simp only [rdD] at hv ⊢; exact rdT_mono h t x v hv
  | .ow e xs _, v, hv => by simp only [rdD] at hv ⊢; exact rdT_mono h (.sl e) xs v hv
  | .fn f caps, v, hv => by
    simp only [rdD] at hv ⊢
    obtain ⟨vs, rfl, hl⟩ := hv
    exact ⟨vs, rfl, rdL_mono h hb caps _ hl⟩
  | .nilFn, v, hv => by simpa only [rdD] using hv
  | .nilPtr, v, hv => by simpa only [rdD] using hv
  | .cell c, v, hv => by
    simp only [rdD] at hv ⊢
    obtain ⟨b, o, rfl, hc⟩ := hv
    exact ⟨b, o, rfl, rdC_mono h hb c b o hc⟩
  | .ref i off, v, hv => by
    simp only [rdD] at hv ⊢
    obtain ⟨b, h1, rfl⟩ := hv
    exact ⟨b, hb i b h1, rfl⟩
  | .undef, v, hv => by simpa only [rdD] using hv
theorem rdL_mono (h : Sees γ w γ' w') (hb : ∀ (i b : Nat), γ.bx[i]? = some b → γ'.bx[i]? = some b) : (ds : List D) → (vs : List Value) → rdL w γ ds vs → rdL w' γ' ds vs
  | [], [], hv => by simp only [rdL]
  | d :: ds, v :: vs, hv => by
    simp only [rdL] at hv ⊢
    exact ⟨rdD_mono h hb d v hv.1, rdL_mono h hb ds vs hv.2⟩
  | [], _ :: _, hv => by simp only [rdL] at hv
  | _ :: _, [], hv => by simp only [rdL] at hv
theorem rdC_mono (h : Sees γ w γ' w') (hb : ∀ (i b : Nat), γ.bx[i]? = some b → γ'.bx[i]? = some b) : (ds : List D) → (b o : Nat) → rdC w γ ds b o → rdC w' γ' ds b o
  | [], _, _, _ => by simp only [rdC]
  | d :: ds, b, o, hv => by
    simp only [rdC] at hv ⊢
    obtain ⟨⟨u, h1, h2, h3⟩, h4⟩ := hv
    exact ⟨⟨u, (h.cells b o u h2 h1).1, (h.cells b o u h2 h1).2, rdD_mono h hb d u h3⟩, rdC_mono h hb ds b (o + 1) h4⟩
end
mutual
theorem rdR_mono (h : Sees γ w γ' w') (hb : ∀ (i b : Nat), γ.bx[i]? = some b → γ'.bx[i]? = some b) : (r : R) → (v : Value) → rdR w γ r v → rdR w' γ' r v
  | .one d, v, hv => by simp only [rdR] at hv ⊢; exact rdD_mono h hb d v hv
  | .agg ds, v, hv => by
    simp only [rdR] at hv ⊢
    obtain ⟨vs, rfl, hl⟩ := hv
    exact ⟨vs, rfl, rdL_mono h hb ds _ hl⟩
  | .tup rs, v, hv => by
    simp only [rdR] at hv ⊢
    obtain ⟨vs, rfl, hl⟩ := hv
    exact ⟨vs, rfl, rdRs_mono h hb rs _ hl⟩
  | .undef, v, hv => by simp only [rdR]
  | .skip, v, hv => by simpa only [rdR] using hv
theorem rdRs_mono (h : Sees γ w γ' w') (hb : ∀ (i b : Nat), γ.bx[i]? = some b → γ'.bx[i]? = some b) : (rs : List R) → (vs : List Value) → rdRs w γ rs vs → rdRs w' γ' rs vs
  | [], [], hv => by simp only [rdRs]
  | r :: rs, v :: vs, hv => by
    simp only [rdRs] at hv ⊢
    exact ⟨rdR_mono h hb r v hv.1, rdRs_mono h hb rs vs hv.2⟩
  | [], _ :: _, hv => by simp only [rdRs] at hv
  | _ :: _, [], hv => by simp only [rdRs] at hv
end
theorem Ext.sees (h : Ext γ w γ' w') : Sees γ w γ' w' := ⟨h.cells⟩

theorem rdT_scalar : {t : T} → {x : t.den} → {v : Value} → rdT w γ t x v → Value.scalar v
  | .int _, _, _, h => by simp only [rdT] at h; subst h; trivial
  | .bool, _, _, h => by simp only [rdT] at h; subst h; trivial
  | .sl _, _, _, h => by simp only [rdT] at h; obtain ⟨A, c, rfl, _⟩ := h; trivial
theorem rdD_scalar {d : D} {v : Value} (h : rdD w γ d v) : Value.scalar v := by
  cases d <;> simp only [rdD] at h
  case g t x => exact rdT_scalar h
  case ow e xs k => exact rdT_scalar (t := .sl e) h
  case fn f caps => obtain ⟨vs, rfl, _⟩ := h; trivial
  case nilFn => subst h; trivial
  case nilPtr => subst h; trivial
  case cell c => obtain ⟨b, o, rfl, _⟩ := h; trivial
  case ref i off => obtain ⟨b, _, rfl⟩ := h; trivial
  case undef => exact h
theorem rdL_length : {ds : List D} → {vs : List Value} → rdL w γ ds vs → ds.length = vs.length
  | [], [], _ => rfl
  | _ :: ds, _ :: vs, h => by simp only [rdL] at h; simp [rdL_length h.2]
  | [], _ :: _, h => by simp only [rdL] at h
  | _ :: _, [], h => by simp only [rdL] at h
theorem rdL_scalar : {ds : List D} → {vs : List Value} → rdL w γ ds vs → ∀ v ∈ vs, Value.scalar v
  | [], [], _, _, hm => by cases hm
  | _ :: ds, v :: vs, h, u, hm => by
    simp only [rdL] at h
    rcases List.mem_cons.1 hm with rfl | hm
    · exact rdD_scalar h.1
    · exact rdL_scalar h.2 u hm
  | [], _ :: _, h, _, _ => by simp only [rdL] at h
  | _ :: _, [], h, _, _ => by simp only [rdL] at h
theorem rdD_strip {d : D} {v : Value} : rdD w γ d.strip v ↔ rdD w γ d v := by
  cases d <;> simp only [D.strip, rdD]
/-- a change of names alone -/
def NameOnly (f : D → D) : Prop := ∀ d, (f d).strip = d.strip
theorem rdD_name {f : D → D} (hf : NameOnly f) {d : D} {v : Value} : rdD w γ (f d) v ↔ rdD w γ d v := by
  rw [← rdD_strip, hf d, rdD_strip]
theorem rdL_map {f : D → D} (hf : NameOnly f) : {ds : List D} → {vs : List Value} → (rdL w γ (ds.map f) vs ↔ rdL w γ ds vs)
  | [], [] => by simp only [List.map_nil]
  | d :: ds, v :: vs => by simp only [List.map_cons, rdL, rdD_name hf, rdL_map hf]
  | [], _ :: _ => by simp only [List.map_nil]
  | _ :: _, [] => by simp only [List.map_cons, rdL]
mutual
theorem rdR_map {f : D → D} (hf : NameOnly f) : (r : R) → (v : Value) → (rdR w γ (r.map f) v ↔ rdR w γ r v)
  | .one d, v => by simp only [R.map, rdR, rdD_name hf]
  | .agg ds, v => by simp only [R.map, rdR, rdL_map hf]
  | .tup rs, v => by
    simp only [R.map, rdR]
    constructor
    · rintro ⟨vs, h1, h2⟩; exact ⟨vs, h1, (rdRs_map hf rs _).1 h2⟩
    · rintro ⟨vs, h1, h2⟩; exact ⟨vs, h1, (rdRs_map hf rs _).2 h2⟩
  | .undef, v => by simp only [R.map]
  | .skip, v => by simp only [R.map]
theorem rdRs_map {f : D → D} (hf : NameOnly f) : (rs : List R) → (vs : List Value) → (rdRs w γ (R.mapL f rs) vs ↔ rdRs w γ rs vs)
  | [], vs => by simp only [R.mapL]
  | r :: rs, [] => by simp only [R.mapL, rdRs]
  | r :: rs, v :: vs => by simp only [R.mapL, rdRs, rdR_map hf r v, rdRs_map hf rs vs]
end
theorem nameOnly_strip : NameOnly D.strip := fun d => by cases d <;> rfl
theorem nameOnly_kill (l : List Tok) : NameOnly (D.kill l) := fun d => by
  cases d <;> try rfl
  case ow e xs k => simp only [D.kill]; cases tokIn k l <;> rfl
theorem nameOnly_rename (a b : Tok) : NameOnly (D.rename a b) := fun d => by
  cases d <;> try rfl
  case ow e xs k => simp only [D.rename]; cases k.beq a <;> cases k.beq b <;> rfl
theorem nameOnly_noS : NameOnly D.noS := fun d => by
  cases d <;> try rfl
  case ow e xs k => cases k <;> rfl
theorem nameOnly_onlyH : NameOnly D.onlyH := fun d => by
  cases d <;> try rfl
  case ow e xs k => cases k <;> rfl
end
end Go.V
