/- How a state of the evaluator stands to a frame and a memory of the machine; what is kept. -/
import Derived.Test.YtelfooangijedaaRd
namespace Go.V
open Go.RowKit

section
variable (γ : Gh) (dead : List Tok) (C : List Nat)
def tkD : D → Value → Prop
  | .ow e _ k, v => (tokIn k dead = true ∨ ∃ h, γ.ow k = some h ∧ v = .slice h.A h.n h.c ∧ h.sz = e.size) ∧ (∀ t, k = .s t → t ∈ C)
  | _, _ => True
def tkL : List D → List Value → Prop
  | d :: ds, v :: vs => tkD γ dead C d v ∧ tkL ds vs
  | _, _ => True
mutual
def tkR : R → Value → Prop
  | .one d, v => tkD γ dead C d v
  | .tup rs, .tuple vs => tkRs rs vs.toList
  | _, _ => True
def tkRs : List R → List Value → Prop
  | r :: rs, v :: vs => tkR r v ∧ tkRs rs vs
  | _, _ => True
end
end

/-- A slice with spare room of its own. -/
def Owned (γ : Gh) (w : World) (h : Hdr) : Prop :=
  h.n ≤ h.c ∧ (h.c ≠ 0 → ∃ b arr ty, h.A = some ⟨b, 0, none⟩ ∧ w.heap[b]? = some (.cells arr ty (0, 0)) ∧ arr.size = h.c * h.sz ∧ γ.rd b = some (h.n * h.sz) ∧ γ.base ≤ b ∧ b ∉ γ.bx)
def Hdr.apart (h h' : Hdr) : Prop := h.c ≠ 0 → h'.c ≠ 0 → ∀ b b' : Nat, h.A = some ⟨b, 0, none⟩ → h'.A = some ⟨b', 0, none⟩ → b ≠ b'
structure OwOK (γ : Gh) (w : World) : Prop where
  own : ∀ k h, γ.ow k = some h → Owned γ w h
  inj : ∀ k k' h h', γ.ow k = some h → γ.ow k' = some h' → k ≠ k' → h.apart h'

structure BoxL (γ : Gh) (dead : List Tok) (C : List Nat) (w : World) (b : Nat) (ds : List D) : Prop where
  ex : ∃ arr ty, w.heap[b]? = some (.cells arr ty (0, 0)) ∧ rdL w γ ds arr.toList ∧ tkL γ dead C ds arr.toList
  rd : γ.rd b = some 0
  base : γ.base ≤ b
/-- a box lies open to be written, or it is given up: nothing of it is known, and it is written no more -/
def BoxOK (γ : Gh) (dead : List Tok) (C : List Nat) (w : World) (b : Nat) (ds : List D) : Prop :=
  BoxL γ dead C w b ds ∨ (ds = [] ∧ γ.base ≤ b ∧ b < w.heap.size)
structure HeapOK (γ : Gh) (h : Heap) (dead : List Tok) (C : List Nat) (w : World) : Prop where
  len : h.length = γ.bx.length
  box : ∀ (i : Nat) ds b, h[i]? = some ds → γ.bx[i]? = some b → BoxOK γ dead C w b ds
  nodup : γ.bx.Nodup

structure Sim (γ : Gh) (st : St) (C : List Nat) (a : Act) (w : World) : Prop where
  dfr : a.defers = []
  sz : a.tmps.size = st.nt
  regs : ∀ s r, look st.regs s = some r → rdR w γ r (a.tmps.getD s Go.undef) ∧ tkR γ st.dead C r (a.tmps.getD s Go.undef)
  heap : HeapOK γ st.heap st.dead C w
  own : OwOK γ w
  fresh : ∀ b, w.heap.size ≤ b → γ.rd b = none
  base : γ.base ≤ w.heap.size

theorem nbeq {a b : Nat} : Nat.beq a b = true ↔ a = b := ⟨Nat.eq_of_beq_eq_true, fun h => h ▸ Nat.beq_refl a⟩
theorem nbeq_false {a b : Nat} : Nat.beq a b = false ↔ a ≠ b := by
  cases h : Nat.beq a b with
  | true => simp [nbeq.1 h]
  | false => simp; intro e; rw [nbeq.2 e] at h; cases h
theorem nblt {a b : Nat} : Nat.blt a b = true ↔ a < b := by simp only [Nat.blt]; exact ⟨fun h => Nat.le_of_ble_eq_true h, fun h => Nat.ble_eq_true_of_le h⟩
theorem look_setR {r : R} : ∀ (l : List (Nat × R)) (t s : Nat), look (setR l t r) s = if s = t then some r else look l s
  | [], t, s => by
    simp only [setR, look]
    by_cases h : t = s
    · subst h; simp
    · have : (Nat.beq t s) = false := nbeq_false.2 h
      rw [this]; simp [Ne.symm h]
  | (u, q) :: l, t, s => by
    simp only [setR]
    cases h1 : Nat.beq u t with
    | true =>
      obtain rfl : u = t := nbeq.1 h1
      simp only [cond_true, look]
      by_cases h : u = s
      · subst h; simp
      · have : (Nat.beq u s) = false := nbeq_false.2 h
        rw [this]; simp [Ne.symm h]
    | false =>
      have hne : u ≠ t := nbeq_false.1 h1
      simp only [cond_false]
      cases h2 : Nat.blt t u with
      | true =>
        simp only [cond_true, look]
        by_cases h : t = s
        · subst h; simp
        · have : (Nat.beq t s) = false := nbeq_false.2 h
          rw [this]; simp [Ne.symm h]
      | false =>
        simp only [cond_false, look]
        by_cases h : u = s
        · subst h; simp [hne]
        · have : (Nat.beq u s) = false := nbeq_false.2 h
          rw [this]
          simp only [cond_false]
          exact look_setR l t s

theorem heap_lt_of {w : World} {b : Nat} {o : Obj} (h : w.heap[b]? = some o) : b < w.heap.size := (Array.getElem?_eq_some_iff.1 h).1
theorem cell_lt {w : World} {b i : Nat} {u : Value} (h : w.cell? ⟨b, i, none⟩ = some u) : b < w.heap.size := World.block_lt_of_cell? w _ h
theorem cell_block {w w' : World} {b i : Nat} (h : w'.heap[b]? = w.heap[b]?) : w'.cell? ⟨b, i, none⟩ = w.cell? ⟨b, i, none⟩ := by
  simp only [World.cell?, h]
theorem may_congr {γ γ' : Gh} {b i : Nat} (h : γ'.rd b = γ.rd b) : γ'.may b i ↔ γ.may b i := by simp only [Gh.may, h]

/-- New blocks alone; a new slice with spare room at most. -/
structure Grow (γ : Gh) (w : World) (γ' : Gh) (w' : World) (dst : Nat) : Prop where
  below : Below w.heap.size w w'
  bx : γ'.bx = γ.bx
  base : γ'.base = γ.base
  rd : ∀ b, b < w.heap.size → γ'.rd b = γ.rd b
  fresh : ∀ b, w'.heap.size ≤ b → γ'.rd b = none
  ow : ∀ k, k ≠ .s dst → γ'.ow k = γ.ow k
  new : ∀ h, γ'.ow (.s dst) = some h → Owned γ' w' h ∧ (h.c ≠ 0 → ∀ b o s, h.A = some ⟨b, o, s⟩ → w.heap.size ≤ b)

theorem Grow.ext {γ γ' : Gh} {w w' : World} {dst : Nat} (h : Grow γ w γ' w' dst) (hb : γ.base ≤ w.heap.size) : Ext γ w γ' w' where
  bx := fun i b hi => by rw [h.bx]; exact hi
  base := h.base
  size := h.below.size
  cells := fun b i u h1 h2 => by
    have hlt := cell_lt h2
    exact ⟨(cell_block (h.below.block b hlt)).trans h2, (may_congr (h.rd b hlt)).2 h1⟩
  low := h.below.mono hb
  rdlow := fun b hlt => h.rd b (Nat.lt_of_lt_of_le hlt hb)

theorem Owned.keep {γ γ' : Gh} {w w' : World} {h : Hdr} (ho : Owned γ w h) (hbx : γ'.bx = γ.bx) (hbase : γ'.base = γ.base)
    (hh : ∀ b, h.c ≠ 0 → h.A = some ⟨b, 0, none⟩ → b < w.heap.size → w'.heap[b]? = w.heap[b]? ∧ γ'.rd b = γ.rd b) : Owned γ' w' h := by
  refine ⟨ho.1, fun hc => ?_⟩
  obtain ⟨b, arr, ty, hA, hheap, hs, hr, hb, hn⟩ := ho.2 hc
  obtain ⟨e1, e2⟩ := hh b hc hA (heap_lt_of hheap)
  exact ⟨b, arr, ty, hA, e1.trans hheap, hs, e2.trans hr, hbase ▸ hb, hbx ▸ hn⟩

theorem tkD_mono {γ γ' : Gh} {dead dead' : List Tok} {C C' : List Nat} (hC : ∀ t, t ∈ C → t ∈ C') (hd : ∀ k, tokIn k dead = true → tokIn k dead' = true)
    (ho : ∀ k, (∀ t, k = .s t → t ∈ C) → tokIn k dead = false → tokIn k dead' = true ∨ γ'.ow k = γ.ow k) {d : D} {v : Value} (h : tkD γ dead C d v) : tkD γ' dead' C' d v := by
  cases d <;> simp only [tkD] at h ⊢
  case ow e xs k =>
    obtain ⟨h1, h2⟩ := h
    refine ⟨?_, fun t ht => hC t (h2 t ht)⟩
    cases hk : tokIn k dead with
    | true => exact .inl (hd k hk)
    | false =>
      rcases ho k h2 hk with h' | h'
      · exact .inl h'
      · rcases h1 with h1 | h1
        · rw [hk] at h1; cases h1
        · exact .inr (by rw [h']; exact h1)
theorem tkL_mono {γ γ' : Gh} {dead dead' : List Tok} {C C' : List Nat} (hC : ∀ t, t ∈ C → t ∈ C') (hd : ∀ k, tokIn k dead = true → tokIn k dead' = true)
    (ho : ∀ k, (∀ t, k = .s t → t ∈ C) → tokIn k dead = false → tokIn k dead' = true ∨ γ'.ow k = γ.ow k) : {ds : List D} → {vs : List Value} → tkL γ dead C ds vs → tkL γ' dead' C' ds vs
  | d :: ds, v :: vs, h => by
    simp only [tkL] at h ⊢
    exact ⟨tkD_mono hC hd ho h.1, tkL_mono hC hd ho h.2⟩
  | [], _, _ => by simp only [tkL]
  | _ :: _, [], _ => by simp only [tkL]
mutual
theorem tkR_mono {γ γ' : Gh} {dead dead' : List Tok} {C C' : List Nat} (hC : ∀ t, t ∈ C → t ∈ C') (hd : ∀ k, tokIn k dead = true → tokIn k dead' = true)
    (ho : ∀ k, (∀ t, k = .s t → t ∈ C) → tokIn k dead = false → tokIn k dead' = true ∨ γ'.ow k = γ.ow k) : (r : R) → (v : Value) → tkR γ dead C r v → tkR γ' dead' C' r v
  | .one d, v, h => by simp only [tkR] at h ⊢; exact tkD_mono hC hd ho h
  | .tup rs, v, h => by
    cases v <;> simp only [tkR] at h ⊢
    exact tkRs_mono hC hd ho rs _ h
  | .agg _, _, _ => by simp only [tkR]
  | .undef, _, _ => by simp only [tkR]
  | .skip, _, _ => by simp only [tkR]
theorem tkRs_mono {γ γ' : Gh} {dead dead' : List Tok} {C C' : List Nat} (hC : ∀ t, t ∈ C → t ∈ C') (hd : ∀ k, tokIn k dead = true → tokIn k dead' = true)
    (ho : ∀ k, (∀ t, k = .s t → t ∈ C) → tokIn k dead = false → tokIn k dead' = true ∨ γ'.ow k = γ.ow k) : (rs : List R) → (vs : List Value) → tkRs γ dead C rs vs → tkRs γ' dead' C' rs vs
  | r :: rs, v :: vs, h => by
    simp only [tkRs] at h ⊢
    exact ⟨tkR_mono hC hd ho r v h.1, tkRs_mono hC hd ho rs vs h.2⟩
  | [], _, _ => by simp only [tkRs]
  | _ :: _, [], _ => by simp only [tkRs]
end

/-- A slot is written, where it is one. -/
theorem getD_put {tmps : Array Value} {t s : Nat} {v : Value} (ht : t < tmps.size) : (tmps.setIfInBounds t v).getD s Go.undef = if s = t then v else tmps.getD s Go.undef := by
  simp only [Array.getD_eq_getD_getElem?, Array.getElem?_setIfInBounds]
  by_cases h : t = s
  · subst h; simp [ht]
  · simp [h, Ne.symm h]

/-- an operation that leaves the boxes and the old names alone -/
theorem Sim.grow {γ γ' : Gh} {st : St} {C : List Nat} {a : Act} {w w' : World} {dst : Nat} (h : Sim γ st C a w) (hC : dst ∉ C) (hg : Grow γ w γ' w' dst) :
    (∀ s r, look st.regs s = some r → rdR w' γ' r (a.tmps.getD s Go.undef) ∧ tkR γ' st.dead C r (a.tmps.getD s Go.undef)) ∧
    HeapOK γ' st.heap st.dead C w' ∧ OwOK γ' w' := by
  have he := hg.ext h.base
  have hsame : ∀ k, (∀ t, k = .s t → t ∈ C) → tokIn k st.dead = false → tokIn k st.dead = true ∨ γ'.ow k = γ.ow k := fun k hk _ =>
    .inr (hg.ow k (fun e => hC (hk dst e)))
  have hCC : ∀ t, t ∈ C → t ∈ C := fun _ ht => ht
  refine ⟨fun s r hr => ?_, ⟨?_, fun i ds b hi hb => ?_, ?_⟩, ⟨fun k hd hk => ?_, fun k k' hd hd' hk hk' hne => ?_⟩⟩
  · obtain ⟨h1, h2⟩ := h.regs s r hr
    exact ⟨rdR_mono he.sees he.bx r _ h1, tkR_mono hCC (fun _ x => x) hsame r _ h2⟩
  · rw [hg.bx]; exact h.heap.len
  · rw [hg.bx] at hb
    rcases h.heap.box i ds b hi hb with ⟨⟨arr, ty, e1, e2, e3⟩, e4, e5⟩ | ⟨g1, g2, g3⟩
    · have hlt := heap_lt_of e1
      exact .inl ⟨⟨arr, ty, (hg.below.block b hlt).trans e1, rdL_mono he.sees he.bx _ _ e2, tkL_mono hCC (fun _ x => x) hsame e3⟩, (hg.rd b hlt).trans e4, hg.base ▸ e5⟩
    · exact .inr ⟨g1, hg.base ▸ g2, Nat.lt_of_lt_of_le g3 hg.below.size⟩
  · rw [hg.bx]; exact h.heap.nodup
  · by_cases hkd : k = .s dst
    · subst hkd; exact (hg.new hd hk).1
    · rw [hg.ow k hkd] at hk
      exact (h.own.own k hd hk).keep hg.bx hg.base fun b _ _ hlt => ⟨hg.below.block b hlt, hg.rd b hlt⟩
  · intro hc hc' b b' hA hA'
    by_cases hkd : k = .s dst
    · subst hkd
      have h1 := (hg.new hd hk).2 hc b 0 none hA
      have hk'd : k' ≠ .s dst := fun e => hne e.symm
      rw [hg.ow k' hk'd] at hk'
      obtain ⟨b2, arr, ty, e1, e2, _⟩ := (h.own.own k' hd' hk').2 hc'
      have hb2 : b2 = b' := by rw [e1] at hA'; simpa using hA'
      have := heap_lt_of e2
      omega
    · by_cases hk'd : k' = .s dst
      · subst hk'd
        have h1 := (hg.new hd' hk').2 hc' b' 0 none hA'
        rw [hg.ow k hkd] at hk
        obtain ⟨b2, arr, ty, e1, e2, _⟩ := (h.own.own k hd hk).2 hc
        have hb2 : b2 = b := by rw [e1] at hA; simpa using hA
        have := heap_lt_of e2
        omega
      · rw [hg.ow k hkd] at hk
        rw [hg.ow k' hk'd] at hk'
        exact h.own.inj k k' hd hd' hk hk' hne hc hc' b b' hA hA'

theorem HeapOK.more {γ : Gh} {h : Heap} {dead : List Tok} {C C' : List Nat} {w : World} (hh : HeapOK γ h dead C w) (hC : ∀ t, t ∈ C → t ∈ C') : HeapOK γ h dead C' w :=
  ⟨hh.len, fun i ds b hi hb => by
    rcases hh.box i ds b hi hb with ⟨⟨arr, ty, e1, e2, e3⟩, e4, e5⟩ | g
    · exact .inl ⟨⟨arr, ty, e1, e2, tkL_mono hC (fun _ x => x) (fun _ _ _ => .inr rfl) e3⟩, e4, e5⟩
    · exact .inr g, hh.nodup⟩
theorem Sim.more {γ : Gh} {st : St} {C C' : List Nat} {a : Act} {w : World} (h : Sim γ st C a w) (hC : ∀ t, t ∈ C → t ∈ C') : Sim γ st C' a w :=
  ⟨h.dfr, h.sz, fun s r hr => ⟨(h.regs s r hr).1, tkR_mono hC (fun _ x => x) (fun _ _ _ => .inr rfl) r _ (h.regs s r hr).2⟩, h.heap.more hC, h.own, h.fresh, h.base⟩
/-- the slots that have been named behind an operation -/
def addC (o : Option Nat) (C : List Nat) : List Nat := match o with
  | some t => t :: C
  | none => C
/-- What is written into its slot. -/
theorem Sim.put {γ : Gh} {st st' : St} {C : List Nat} {a : Act} {w : World} {o : Option Nat} {r : R} {v : Value} (h : Sim γ st C a w) (hp : st.put o r = some st')
    (hr : ∀ t, o = some t → rdR w γ r v ∧ tkR γ st.dead C r v) : Sim γ st' C (a.put o v) w := by
  cases o with
  | none =>
    simp only [St.put, Option.some.injEq] at hp
    subst hp
    exact h
  | some t =>
    simp only [St.put] at hp
    cases hb : Nat.blt t st.nt with
    | false => rw [hb] at hp; simp at hp
    | true =>
      rw [hb] at hp
      simp only [cond_true, Option.some.injEq] at hp
      subst hp
      have ht : t < a.tmps.size := by rw [h.sz]; exact nblt.1 hb
      obtain ⟨r1, r2⟩ := hr t rfl
      refine ⟨h.dfr, by simpa [Act.put] using h.sz, fun s q hq => ?_, h.heap, h.own, h.fresh, h.base⟩
      simp only [Act.put]
      rw [getD_put ht]
      rw [look_setR] at hq
      by_cases hs : s = t
      · rw [if_pos hs] at hq ⊢
        cases hq
        exact ⟨r1, r2⟩
      · rw [if_neg hs] at hq ⊢
        exact h.regs s q hq
end Go.V
