/- Slices that are built, cut, and calls that only compute. -/
import Derived.Test.YtelfooangijedaaOps4
namespace Go.V
open Go.RowKit

section
variable {E : Env} {P : Program} {γ : Gh} {dead : List Tok} {C : List Nat} {a : Act} {w : World} {dst : Nat}

theorem T.cast_self {t : T} (h : T.beq t t = true) (x : t.den) : T.cast h x = x := rfl
theorem Ts.size_pos (e : Ts) : 0 < e.size := by cases e <;> simp [Ts.size]
theorem leaves_length : ∀ (e : Ts) (x : e.den), (e.leaves x).length = e.size
  | .one _, _ => rfl
  | .cons t ts, x => by simp [Ts.leaves, Ts.size, leaves_length ts]
theorem unLeaf_spec {t : T} {d : D} {x : t.den} (h : unLeaf t d = some x) : d = .g t x := by
  cases d <;> simp only [unLeaf, reduceCtorEq] at h
  case g u y =>
    split at h
    · rename_i hb
      obtain rfl := T.eq_of_beq hb
      cases h
      rfl
    · cases h
theorem unleaves_spec : ∀ {e : Ts} {ds : List D} {x : e.den}, unleaves e ds = some x → e.leaves x = ds
  | .one t, [d], x, h => by
    simp only [unleaves] at h
    rw [unLeaf_spec h]
    rfl
  | .one t, [], x, h => by simp [unleaves] at h
  | .one t, _ :: _ :: _, x, h => by simp [unleaves] at h
  | .cons t ts, [], x, h => by simp [unleaves] at h
  | .cons t ts, d :: l, x, h => by
    simp only [unleaves] at h
    split at h
    · rename_i y r hy hr
      cases h
      rw [unLeaf_spec hy, ← unleaves_spec hr]
      rfl
    · cases h

/-- A new slice with room of its own. -/
def Gh.own (γ : Gh) (dst b : Nat) (h : Hdr) : Gh :=
  { γ with ow := fun k => if k = .s dst then some h else γ.ow k, rd := fun i => if i = b then some (h.n * h.sz) else γ.rd i }
theorem Grow.own (hf : ∀ b, w.heap.size ≤ b → γ.rd b = none) (hbx : ∀ (i b : Nat), γ.bx[i]? = some b → b < w.heap.size) (hb : γ.base ≤ w.heap.size) {n c sz : Nat} {arr : Array Value} {ty : Nat} (hn : n ≤ c) (hs : arr.size = c * sz) :
    Grow γ w (γ.own dst w.heap.size ⟨some ⟨w.heap.size, 0, none⟩, n, c, sz⟩) (w.alloc (.cells arr ty)) dst where
  below := (Below.refl _ _).alloc (Nat.le_refl _) _
  bx := rfl
  base := rfl
  rd := fun b hb => by simp only [Gh.own]; rw [if_neg (by omega)]
  fresh := fun b hb => by
    simp at hb
    simp only [Gh.own]
    rw [if_neg (by omega)]
    exact hf b (by omega)
  ow := fun k hk => by simp [Gh.own, hk]
  new := fun h hh => by
    simp only [Gh.own, if_true, Option.some.injEq] at hh
    subst hh
    refine ⟨⟨hn, fun _ => ⟨w.heap.size, arr, ty, rfl, heap_alloc_new w _, hs, by simp [Gh.own], hb, fun hm => ?_⟩⟩, fun _ b o s hA => ?_⟩
    · obtain ⟨i, hi, he⟩ := List.mem_iff_getElem.1 hm
      have := hbx i w.heap.size (by
        have hi' : i < γ.bx.length := hi
        rw [List.getElem?_eq_getElem hi']; exact congrArg some he)
      omega
    · cases hA; exact Nat.le_refl _
theorem sees_own {n c sz : Nat} {o : Obj} : Sees γ w (γ.own dst w.heap.size ⟨some ⟨w.heap.size, 0, none⟩, n, c, sz⟩) (w.alloc o) :=
  ⟨fun b i u h1 h2 => by
    have hlt := cell_lt h2
    refine ⟨by rw [World.cell?_alloc_lt _ _ _ hlt]; exact h2, (may_congr ?_).2 h1⟩
    simp only [Gh.own]
    rw [if_neg (by omega)]⟩
theorem HeapOK.lt {h : Heap} (hh : HeapOK γ h dead C w) : ∀ (i b : Nat), γ.bx[i]? = some b → b < w.heap.size := by
  intro i b hb
  have hlt : i < h.length := by rw [hh.len]; exact (List.getElem?_eq_some_iff.1 hb).1
  rcases hh.box i _ b (List.getElem?_eq_getElem hlt) hb with ⟨⟨arr, ty, e1, _⟩, _, _⟩ | ⟨_, _, g⟩
  · exact heap_lt_of e1
  · exact g

theorem rdTs_of_rdC : ∀ {ts : Ts} {x : ts.den} {b o : Nat}, rdC w γ (ts.leaves x) b o → rdTs w γ ts x b o
  | .one t, x, b, o, h => by
    simp only [Ts.leaves, rdC, rdD] at h
    simp only [rdTs]
    exact h.1
  | .cons t ts, x, b, o, h => by
    simp only [Ts.leaves, rdC, rdD] at h
    simp only [rdTs]
    exact ⟨h.1, rdTs_of_rdC h.2⟩
/-- leaves that lie in a new block -/
theorem rdC_at {γ' : Gh} {vs : Array Value} {ty : Nat} (hs : Sees γ w γ' (w.alloc (.cells vs ty))) (hb : γ'.bx = γ.bx) : ∀ {ds : List D} {o : Nat}, (∀ (j : Nat) d, ds[j]? = some d → γ'.may w.heap.size (o + j) ∧ ∃ v, vs[o + j]? = some v ∧ rdD w γ d v) →
    rdC (w.alloc (.cells vs ty)) γ' ds w.heap.size o
  | [], o, _ => by simp [rdC]
  | d :: ds, o, h => by
    simp only [rdC]
    obtain ⟨h1, v, h2, h3⟩ := h 0 d rfl
    refine ⟨⟨v, by rw [World.cell?_alloc_new]; simpa using h2, by simpa using h1, rdD_mono hs (fun i b hi => by rw [hb]; exact hi) d v h3⟩, rdC_at hs hb fun j d' hd => ?_⟩
    have := h (j + 1) d' (by simpa using hd)
    rwa [show o + (j + 1) = o + 1 + j by omega] at this

theorem fillD_seq {sz : Nat} : ∀ (ps : List (Nat × R)) (k : Nat) (ds : List D), (∀ (m : Nat) x, ps[m]? = some x → x.1 = k + m ∧ x.2.lays = true ∧ x.2.leaves.length = sz) → 0 < sz → (k + ps.length) * sz ≤ ds.length →
    ∃ ds', fillD (fun i => some (i * sz, sz)) ds ps = some ds' ∧ ds'.length = ds.length ∧ (∀ p, p < k * sz → ds'[p]? = ds[p]?) ∧
      ∀ (m : Nat) x, ps[m]? = some x → ∀ j, j < sz → ds'[(k + m) * sz + j]? = x.2.leaves[j]?
  | [], k, ds, _, _, _ => ⟨ds, rfl, rfl, fun _ _ => rfl, fun m x h => by simp at h⟩
  | (i, r) :: ps, k, ds, h, h0, hl => by
    obtain ⟨e1, e2, e3⟩ := h 0 (i, r) rfl
    simp only [Nat.add_zero] at e1 e2 e3
    subst e1
    have hfit : i * sz + sz ≤ ds.length := by
      have : (i + 1) * sz ≤ (i + ((i, r) :: ps).length) * sz := Nat.mul_le_mul_right _ (by simp)
      rw [Nat.add_mul] at this
      omega
    have hput : ∀ (l : List D) (ds : List D) (off : Nat), off + l.length ≤ ds.length → ∃ ds1, putAt ds off l = some ds1 := by
      intro l ds off
      induction ds generalizing off l with
      | nil => intro hh; cases l with
        | nil => exact ⟨[], by cases off <;> rfl⟩
        | cons _ _ => simp at hh
      | cons d ds ih =>
        intro hh
        cases l with
        | nil => exact ⟨d :: ds, by cases off <;> rfl⟩
        | cons v l =>
          cases off with
          | zero => obtain ⟨q, hq⟩ := ih l 0 (by simp at hh ⊢; omega); exact ⟨v :: q, by simp [putAt, hq]⟩
          | succ off => obtain ⟨q, hq⟩ := ih (v :: l) off (by simp at hh ⊢; omega); exact ⟨d :: q, by simp [putAt, hq]⟩
    obtain ⟨ds1, hds1⟩ := hput r.leaves ds (i * sz) (by rw [e3]; exact hfit)
    obtain ⟨p1, _, p3⟩ := putAt_spec hds1
    obtain ⟨ds', q1, q2, q3, q4⟩ := fillD_seq ps (i + 1) ds1 (fun m x hx => by
      obtain ⟨f1, f2, f3⟩ := h (m + 1) x (by simpa using hx)
      exact ⟨by rw [f1]; omega, f2, f3⟩) h0 (by rw [p1]; simp at hl; rw [show i + 1 + ps.length = i + (ps.length + 1) by omega]; exact hl)
    refine ⟨ds', ?_, by rw [q2, p1], fun p hp => ?_, fun m x hx j hj => ?_⟩
    · have c1 : Nat.beq r.leaves.length sz = true := nbeq.2 e3
      have c2 : Nat.blt 0 sz = true := nblt.2 h0
      simp [fillD, e2, c1, c2, hds1, q1]
    · rw [q3 p (by rw [Nat.add_mul]; omega), p3 p, if_neg (by omega)]
    · cases m with
      | zero =>
        simp at hx
        subst hx
        simp only [Nat.add_zero]
        rw [q3 _ (by rw [Nat.add_mul]; omega), p3 _, if_pos (by rw [e3]; omega)]
        congr 1
        omega
      | succ m =>
        have := q4 m x (by simpa using hx) j hj
        rwa [show i + 1 + m = i + (m + 1) by omega] at this

theorem idxOk_spec : ∀ {l : List (Nat × Operand)} {k : Nat}, effK.idxOk k l = true → ∀ (m : Nat) p, l[m]? = some p → p.1 = k + m
  | [], k, _, m, p, hp => by simp at hp
  | q :: l, k, h, m, p, hp => by
    simp only [effK.idxOk, Bool.and_eq_true] at h
    cases m with
    | zero => simp at hp; subst hp; exact nbeq.1 h.1
    | succ m => have := idxOk_spec h.2 m p (by simpa using hp); omega
theorem scalar_of_zero {z : Value} {zero : List D} (hz : rdL w γ zero z.cells.toList) : ∀ v ∈ z.cells.toList, Value.scalar v := rdL_scalar hz

theorem q_buildSlice {o : Oper} {t n : Nat} {e : Ts} {parts : Array (Nat × Operand)} {xs : List e.den} {lk : Nat → Option R} {ty : Nat} {hp : Heap} (hE : EnvOK E) (hop : o.op = .buildSlice t n parts)
    (hf : ∀ b, w.heap.size ≤ b → γ.rd b = none) (hbase : γ.base ≤ w.heap.size) (hh : HeapOK γ hp dead C w) (hl : LkOK lk γ dead C a w) (hs : slOK E t e = true) (hidx : effK.idxOk 0 parts.toList = true)
    (hps : mapO (fun p => match evalO E ty lk p.2 with | some r => unleaves e r.leaves | none => none) parts.toList = some xs) (hn : xs.length = n) (hsz : n * e.size ≤ 16777216) :
    Quiet E.P o a γ dead C w (.one (.ow e xs (.s (dstOf o)))) := by
  obtain ⟨et, info, hu, hinfo, hisz, _, z, hz, hzs⟩ := slOK_spec hE hs
  have e1 : (sizeOf et).run E.P w = .ok e.size w := by simp [sizeOf, typeInfo, hinfo, hisz]
  have e2 : (zeroValue et).run E.P w = .ok z w := by simp [zeroValue, typeInfo, hinfo, hz]
  obtain ⟨hlen, hget⟩ := mapO_some hps
  have hpos := Ts.size_pos e
  -- the parts
  obtain ⟨ps, hps1, hps2⟩ : ∃ ps : List (Nat × R), mapO (fun p => match evalO E ty lk p.2 with | some r => some (p.1, r) | none => none) parts.toList = some ps ∧
      ∀ (m : Nat) x, ps[m]? = some x → x.1 = 0 + m ∧ x.2.lays = true ∧ ∃ y, xs[m]? = some y ∧ x.2.leaves = e.leaves y := by
    have key : ∀ (l : List (Nat × Operand)) (k : Nat) (ys : List e.den), effK.idxOk k l = true → mapO (fun p => match evalO E ty lk p.2 with | some r => unleaves e r.leaves | none => none) l = some ys →
        ∃ ps : List (Nat × R), mapO (fun p => match evalO E ty lk p.2 with | some r => some (p.1, r) | none => none) l = some ps ∧
          ∀ (m : Nat) x, ps[m]? = some x → x.1 = k + m ∧ x.2.lays = true ∧ ∃ y, ys[m]? = some y ∧ x.2.leaves = e.leaves y := by
      intro l
      induction l with
      | nil => intro k ys _ _; exact ⟨[], rfl, fun m x h => by simp at h⟩
      | cons p l ih =>
        intro k ys hi hm
        simp only [effK.idxOk, Bool.and_eq_true] at hi
        simp only [mapO] at hm
        split at hm
        · rename_i y hy
          split at hm
          · rename_i ys' hys
            cases hm
            split at hy
            · rename_i r hr
              obtain ⟨ps, h1, h2⟩ := ih (k + 1) ys' hi.2 hys
              refine ⟨(p.1, r) :: ps, by simp [mapO, hr, h1], fun m x hx => ?_⟩
              cases m with
              | zero =>
                simp at hx
                subst hx
                have hlv := unleaves_spec hy
                refine ⟨nbeq.1 hi.1, ?_, y, rfl, hlv.symm⟩
                have hne : r.leaves ≠ [] := fun h0 => by
                  have := leaves_length e y
                  rw [hlv, h0] at this
                  simp at this
                  omega
                cases r <;> first | rfl | exact absurd rfl hne
              | succ m =>
                obtain ⟨f1, f2, y', f3, f4⟩ := h2 m x (by simpa using hx)
                exact ⟨by rw [f1]; omega, f2, y', by simpa using f3, f4⟩
            · cases hy
          · cases hm
        · cases hm
    exact key _ 0 xs hidx hps
  have hpslen : ps.length = n := by rw [← (mapO_some hps1).1, hlen, hn]
  -- the cells ahead of the parts
  let cells0 : Array Value := (Array.range (n * e.size)).map fun i => z.cells[i % z.cells.size]!
  have hzsc : ∀ v ∈ z.cells.toList, Value.scalar v := by
    intro v hv
    obtain ⟨et', i', hu', hi', hs'⟩ := slOK_spec hE hs
    unfold slOK at hs
    split at hs
    · rename_i et2 _ _ _ _ ht2
      split at hs
      · rename_i te hte
        have hd := (hE.ti _ _ ht2).desc
        simp only at hd
        rw [hd.1] at hu
        cases hu
        obtain ⟨i2, q1, _, _, z2, q2, _, q3, _⟩ := (hE.ti _ _ hte).info (hd.2 te hte)
        rw [hinfo] at q1
        cases q1
        rw [hz] at q2
        cases q2
        exact rdL_scalar (q3 w γ) v hv
      · cases hs
    · cases hs
  have hr0 : rdL w γ (List.replicate (n * e.size) D.undef) cells0.toList := by
    refine rdL_of_get (by simp [cells0]) fun i d v hd hv => ?_
    have hlt : i < n * e.size := by
      have := (List.getElem?_eq_some_iff.1 hd).1
      simpa using this
    have : d = .undef := by simp [hlt] at hd; exact hd.symm
    subst this
    simp only [rdD]
    have hv' : cells0[i]? = some v := by simpa using hv
    simp only [cells0, Array.getElem?_map] at hv'
    have hm : i % z.cells.size < z.cells.size := Nat.mod_lt _ (by omega)
    simp [hlt, hm] at hv'
    exact hzsc v (by rw [← hv']; simp)
  obtain ⟨ds', g1, g2, _, g4⟩ := fillD_seq (sz := e.size) ps 0 (List.replicate (n * e.size) D.undef) (fun m x hx => by
    obtain ⟨f1, f2, y, _, f4⟩ := hps2 m x hx
    exact ⟨f1, f2, by rw [f4]; exact leaves_length e y⟩) hpos (by rw [hpslen]; simp)
  obtain ⟨cells, c1, c2⟩ := fill_sound (place := fun i => some (i * e.size, e.size)) (fun i x hx => hx) (parts_sound hl hps1) hr0 g1
  have hcs : cells.size = n * e.size := by
    have := rdL_length c2
    rw [g2] at this
    simpa using this.symm
  have hrun : (Instr.buildSlice t n (parts.map fun x => (x.1, a.eval x.2))).run E.P w = .ok (.slice (some ⟨w.heap.size, 0, none⟩) n n) (w.alloc (.cells cells et)) := by
    have h24 : ¬ 16777216 < n * e.size := by omega
    by_cases h0 : n * e.size = 0
    · have hn0 : n = 0 := by
        rcases Nat.mul_eq_zero.1 h0 with h | h
        · exact h
        · omega
      have hps0 : ps = [] := List.eq_nil_of_length_eq_zero (by omega)
      have hpp : parts.toList = [] := List.eq_nil_of_length_eq_zero (by rw [hlen, hn, hn0])
      have hcz : cells = #[] := by apply Array.eq_empty_of_size_eq_zero; omega
      subst hcz
      simp [Instr.buildSlice, run_underlying hu, e1, hn0, hpp, Instr.fill, newRow]
      rw [Array.range_zero']; simp
    · simp [Instr.buildSlice, run_underlying hu, e1, h24, h0, e2]
      have : Instr.fill (fun i => some (i * e.size, e.size)) (Array.map (fun x => z.cells[x % z.cells.size]!) (Array.range (n * e.size))) (List.map (fun x => (x.fst, a.eval x.snd)) parts.toList) = some cells := c1
      simp [this, newRow]
  have hbx := hh.lt
  refine .mk (v := .slice (some ⟨w.heap.size, 0, none⟩) n n) (w' := w.alloc (.cells cells et)) (γ' := γ.own (dstOf o) w.heap.size ⟨some ⟨w.heap.size, 0, none⟩, n, n, e.size⟩) (by simp [execOp, hop, hrun]) (Grow.own hf hbx hbase (Nat.le_refl _) hcs) ?_ ?_
  · simp only [rdR, rdD, rdT]
    refine ⟨_, n, by rw [hn], by rw [hn]; exact Nat.le_refl _, fun i hi => ⟨w.heap.size, 0, rfl, rdTs_of_rdC (rdC_at sees_own rfl fun j d hd => ?_)⟩⟩
    have hj : j < e.size := by
      have := (List.getElem?_eq_some_iff.1 hd).1
      rwa [leaves_length] at this
    have hin : i < n := by rw [← hn]; exact hi
    have hlt : i * e.size + j < n * e.size := by
      have : (i + 1) * e.size ≤ n * e.size := Nat.mul_le_mul_right _ hin
      rw [Nat.add_mul] at this
      omega
    refine ⟨by simp [Gh.may, Gh.own]; omega, ?_⟩
    have hips : i < ps.length := by omega
    obtain ⟨_, _, y, f3, f4⟩ := hps2 i ps[i] (by simp [hips])
    have hy : xs[i] = y := by
      have := List.getElem?_eq_getElem hi
      rw [this] at f3
      cases f3
      rfl
    have h4 := g4 i ps[i] (by simp [hips]) j hj
    rw [f4, ← hy, hd] at h4
    obtain ⟨v, hv1, hv2⟩ := rdL_get c2 h4
    exact ⟨v, by simpa using hv1, hv2⟩
  · simp only [tkR, tkD]
    exact ⟨.inr ⟨⟨some ⟨w.heap.size, 0, none⟩, n, n, e.size⟩, if_pos rfl, rfl, rfl⟩, fun t ht => by cases ht; simp⟩

/-! ### A slice with no room: nil, or cut to nothing -/
def Gh.ownNone (γ : Gh) (dst : Nat) (h : Hdr) : Gh := { γ with ow := fun k => if k = .s dst then some h else γ.ow k }
theorem Grow.ownNone (hf : ∀ b, w.heap.size ≤ b → γ.rd b = none) {h : Hdr} (hc : h.c = 0) (hn : h.n = 0) : Grow γ w (γ.ownNone dst h) w dst where
  below := Below.refl _ _
  bx := rfl
  base := rfl
  rd := fun _ _ => rfl
  fresh := hf
  ow := fun k hk => by simp [Gh.ownNone, hk]
  new := fun h' hh => by
    simp only [Gh.ownNone, if_true, Option.some.injEq] at hh
    subst hh
    exact ⟨⟨by omega, fun h0 => absurd hc h0⟩, fun h0 => absurd hc h0⟩
theorem q_nil {o : Oper} {e : Ts} (hop : o.op = .move (.const (.slice none 0 0)) ∨ o.op = .assign (.const (.slice none 0 0))) (hf : ∀ b, w.heap.size ≤ b → γ.rd b = none) : Quiet P o a γ dead C w (.one (.ow e [] (.s (dstOf o)))) := by
  refine .mk (v := .slice none 0 0) (w' := w) (γ' := γ.ownNone (dstOf o) ⟨none, 0, 0, e.size⟩) (by rcases hop with h | h <;> simp [execOp, h, Act.eval]) (Grow.ownNone hf rfl rfl) ?_ ?_
  · simp only [rdR, rdD, rdT]
    exact ⟨none, 0, rfl, Nat.le_refl _, fun i hi => absurd hi (by simp)⟩
  · simp only [tkR, tkD]
    exact ⟨.inr ⟨⟨none, 0, 0, e.size⟩, if_pos rfl, rfl, rfl⟩, fun t ht => by cases ht; simp⟩

theorem sub_rdT {e : Ts} {xs : List e.den} {A : Option Addr} {c l u : Nat} (h : ∀ i (h : i < xs.length), ∃ b o, A = some ⟨b, o, none⟩ ∧ rdTs w γ e xs[i] b (o + i * e.size)) (hlu : l ≤ u) (hu : u ≤ xs.length) (hc : u ≤ c) {A' : Option Addr}
    (hA : u - l ≠ 0 → A' = A.map (·.add (l * e.size))) : rdT w γ (.sl e) ((xs.take u).drop l) (.slice A' (u - l) (c - l)) := by
  have hlen : ((xs.take u).drop l).length = u - l := by simp; omega
  simp only [rdT]
  refine ⟨A', c - l, by rw [hlen], by rw [hlen]; omega, fun i hi => ?_⟩
  rw [hlen] at hi
  obtain ⟨b, o, e1, e2⟩ := h (l + i) (by omega)
  refine ⟨b, o + l * e.size, by rw [hA (by omega), e1]; simp [add_none], ?_⟩
  have e3 : ((xs.take u).drop l)[i]'(by rw [hlen]; exact hi) = xs[l + i]'(by omega) := by simp
  rw [e3]
  rwa [show o + l * e.size + i * e.size = o + (l + i) * e.size by rw [Nat.add_mul]; omega]

theorem slLo_sound {lo : Option Operand} {lk : Nat → Option R} {l : Int} (hl : LkOK lk γ dead C a w) (h : effK.sliceLo lo lk E = some l) : (lo = none ∧ l = 0) ∨ ∃ x k, lo = some x ∧ a.eval x = .int k l := by
  unfold effK.sliceLo at h
  split at h
  · cases h; exact .inl ⟨rfl, rfl⟩
  · split at h
    · rename_i hx
      cases h
      exact .inr ⟨_, _, rfl, evalO_int hl hx⟩
    · cases h
theorem slHi_sound {n : Nat} {hi : Option Operand} {lk : Nat → Option R} {l : Int} (hl : LkOK lk γ dead C a w) (h : effK.sliceHi n hi lk E = some l) : (hi = none ∧ l = n) ∨ ∃ x k, hi = some x ∧ a.eval x = .int k l := by
  unfold effK.sliceHi at h
  split at h
  · cases h; exact .inl ⟨rfl, rfl⟩
  · split at h
    · rename_i hx
      cases h
      exact .inr ⟨_, _, rfl, evalO_int hl hx⟩
    · cases h
theorem q_slice {o : Oper} {t : Nat} {x : Operand} {lo hi : Option Operand} {d : D} {e : Ts} {xs : List e.den} {l u : Int} {lk : Nat → Option R} (hE : EnvOK E) (hop : o.op = .slice t x lo hi none) (hf : ∀ b, w.heap.size ≤ b → γ.rd b = none)
    (hl : LkOK lk γ dead C a w) (hs : slOK E t e = true) (hd : rdD w γ d (a.eval x)) (has : asSl d = some ⟨e, xs⟩) (h1 : effK.sliceLo lo lk E = some l) (h2 : effK.sliceHi xs.length hi lk E = some u) (h0 : 0 ≤ l) (hlu : l ≤ u) (hu : u ≤ xs.length) :
    Quiet E.P o a γ dead C w (.one (.g (.sl e) ((xs.take u.toNat).drop l.toNat))) := by
  obtain ⟨et, info, hun, hinfo, hsz, _⟩ := slOK_spec hE hs
  have h3 := asSl_sound has hd
  simp only [rdT] at h3
  obtain ⟨A, cp, hv, hle, hr⟩ := h3
  have e1 : (sizeOf et).run E.P w = .ok e.size w := by simp [sizeOf, typeInfo, hinfo, hsz]
  have hb : ∀ (vlo vhi : Option Value), (vlo = none ∧ l = 0 ∨ ∃ k, vlo = some (.int k l)) → (vhi = none ∧ u = xs.length ∨ ∃ k, vhi = some (.int k u)) →
      (Instr.sliceBounds true xs.length cp vlo vhi none).run E.P w = .ok (l.toNat, u.toNat, cp) w := by
    rintro vlo vhi (⟨rfl, rfl⟩ | ⟨k, rfl⟩) (⟨rfl, rfl⟩ | ⟨k', rfl⟩)
    · simp [Instr.sliceBounds]
    · have : u ≤ cp := by omega
      simp [Instr.sliceBounds, Instr.sliceBound, asIntOf, hlu, this]
    · have : l ≤ (xs.length : Int) := by omega
      simp [Instr.sliceBounds, Instr.sliceBound, asIntOf, h0, this]
    · have c1 : u ≤ cp := by omega
      have c2 : 0 ≤ u := by omega
      have c3 : l ≤ ((u.toNat : Nat) : Int) := by omega
      have c4 : l ≤ max u 0 := by omega
      simp [Instr.sliceBounds, Instr.sliceBound, asIntOf, h0, c1, c2, c4]
  have hlo := slLo_sound hl h1
  have hhi := slHi_sound hl h2
  have hbr := hb (lo.map a.eval) (hi.map a.eval) (by
    rcases hlo with ⟨rfl, rfl⟩ | ⟨y, k, rfl, hy⟩
    · exact .inl ⟨rfl, rfl⟩
    · exact .inr ⟨k, by simp [hy]⟩) (by
    rcases hhi with ⟨rfl, rfl⟩ | ⟨y, k, rfl, hy⟩
    · exact .inl ⟨rfl, rfl⟩
    · exact .inr ⟨k, by simp [hy]⟩)
  have hrd := sub_rdT (A' := if cp = l.toNat then A else A.map (·.add (l.toNat * e.size))) (l := l.toNat) (u := u.toNat) (c := cp) hr (by omega) (by omega) (by omega) (by
    intro hne
    have : ¬ cp = l.toNat := by omega
    rw [if_neg this])
  refine q_plain (v := .slice (if cp = l.toNat then A else A.map (·.add (l.toNat * e.size))) (u.toNat - l.toNat) (cp - l.toNat)) hf ?_ (by simp only [rdD]; exact hrd) rfl
  simp [execOp, hop, hv, Instr.sliceAt, run_underlying hun, Instr.slice, hbr, e1]
theorem q_sliceNone {o : Oper} {t : Nat} {x m : Operand} {lo hi : Option Operand} {d : D} {e : Ts} {xs : List e.den} {km : IntKind} {lk : Nat → Option R} (hE : EnvOK E) (hop : o.op = .slice t x lo hi (some m)) (hf : ∀ b, w.heap.size ≤ b → γ.rd b = none)
    (hl : LkOK lk γ dead C a w) (hs : slOK E t e = true) (hd : rdD w γ d (a.eval x)) (has : asSl d = some ⟨e, xs⟩) (h1 : effK.sliceLo lo lk E = some 0) (h2 : effK.sliceHi xs.length hi lk E = some 0) (hm : a.eval m = .int km 0) (hsome : hi.isSome = true) :
    Quiet E.P o a γ dead C w (.one (.ow e [] (.s (dstOf o)))) := by
  obtain ⟨et, info, hun, hinfo, hsz, _⟩ := slOK_spec hE hs
  have h3 := asSl_sound has hd
  simp only [rdT] at h3
  obtain ⟨A, cp, hv, hle, hr⟩ := h3
  have e1 : (sizeOf et).run E.P w = .ok e.size w := by simp [sizeOf, typeInfo, hinfo, hsz]
  have hlo := slLo_sound hl h1
  have hhi := slHi_sound hl h2
  have hbr : (Instr.sliceBounds true xs.length cp (lo.map a.eval) (hi.map a.eval) (some (.int km 0))).run E.P w = .ok (0, 0, 0) w := by
    rcases hhi with ⟨rfl, _⟩ | ⟨y, k, rfl, hy⟩
    · simp at hsome
    · rcases hlo with ⟨rfl, _⟩ | ⟨y', k', rfl, hy'⟩
      · simp [Instr.sliceBounds, Instr.sliceBound, asIntOf, hy]
      · simp [Instr.sliceBounds, Instr.sliceBound, asIntOf, hy, hy']
  refine .mk (v := .slice A 0 0) (w' := w) (γ' := γ.ownNone (dstOf o) ⟨A, 0, 0, e.size⟩) (by simp [execOp, hop, hv, Instr.sliceAt, run_underlying hun, Instr.slice, hm, hbr, e1]) (Grow.ownNone hf rfl rfl) ?_ ?_
  · simp only [rdR, rdD, rdT]
    exact ⟨A, 0, rfl, Nat.le_refl _, fun i hi => absurd hi (by simp)⟩
  · simp only [tkR, tkD]
    exact ⟨.inr ⟨⟨A, 0, 0, e.size⟩, if_pos rfl, rfl, rfl⟩, fun t ht => by cases ht; simp⟩
end
end Go.V
