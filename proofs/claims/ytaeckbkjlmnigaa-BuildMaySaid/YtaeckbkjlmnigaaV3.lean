/- V3: Ops5, Ops6, Ops7, Ops8, Ops9, one behind the other. -/
import Derived.Test.YtaeckbkjlmnigaaV2
import Derived.Laws.MakeOwn
namespace Go.V
open Go.RowKit
section
variable {E : Env} {P : Program} {γ : Gh} {dead : List Tok} {C : List Nat} {a : Act} {w : World} {dst : Nat}
theorem T.cast_self {t : T} (h : T.beq t t = true) (x : t.den) : T.cast h x = x := rfl
theorem Ts.size_pos (e : Ts) : 0 < e.size := by cases e <;> simp [Ts.size]
theorem leaves_length : ∀ (e : Ts) (x : e.den), (e.leaves x).length = e.size
  | .one _, _ => rfl
  | .cons t ts, x => by simp [Ts.leaves, Ts.size, leaves_length ts]
theorem unLeaf_spec {t : T} {d : D} {x : t.den} (h : unLeaf t d = some x) : d = .g t x := by
  cases d <;> simp only [unLeaf, reduceCtorEq] at h
  case g u y =>
    split at h
    · rename_i hb
      obtain rfl := T.eq_of_beq hb
      cases h
      rfl
    · cases h
theorem unleaves_spec : ∀ {e : Ts} {ds : List D} {x : e.den}, unleaves e ds = some x → e.leaves x = ds
  | .one t, [d], x, h => by
    simp only [unleaves] at h
    rw [unLeaf_spec h]
    rfl
  | .one t, [], x, h => by simp [unleaves] at h
  | .one t, _ :: _ :: _, x, h => by simp [unleaves] at h
  | .cons t ts, [], x, h => by simp [unleaves] at h
  | .cons t ts, d :: l, x, h => by
    simp only [unleaves] at h
    split at h
    · rename_i y r hy hr
      cases h
      rw [unLeaf_spec hy, ← unleaves_spec hr]
      rfl
    · cases h
def Gh.own (γ : Gh) (dst b : Nat) (h : Hdr) : Gh :=
  { γ with ow := fun k => if k = .s dst then some h else γ.ow k, rd := fun i => if i = b then some (h.n * h.sz) else γ.rd i }
theorem Grow.own (hf : ∀ b, w.heap.size ≤ b → γ.rd b = none) (hbx : ∀ (i b : Nat), γ.bx[i]? = some b → b < w.heap.size) (hb : γ.base ≤ w.heap.size) {n c sz : Nat} {arr : Array Value} {ty : Nat} (hn : n ≤ c) (hs : arr.size = c * sz) :
    Grow γ w (γ.own dst w.heap.size ⟨some ⟨w.heap.size, 0, none⟩, n, c, sz⟩) (w.alloc (.cells arr ty)) dst where
  below := (Below.refl _ _).alloc (Nat.le_refl _) _
  bx := rfl
  nb := rfl
  base := rfl
  rd := fun b hb => by simp only [Gh.own]; rw [if_neg (by omega)]
  fresh := fun b hb => by
    simp at hb
    simp only [Gh.own]
    rw [if_neg (by omega)]
    exact hf b (by omega)
  ow := fun k hk => by simp [Gh.own, hk]
  new := fun h hh => by
    simp only [Gh.own, if_true, Option.some.injEq] at hh
    subst hh
    refine ⟨⟨hn, fun _ => ⟨w.heap.size, arr, ty, rfl, heap_alloc_new w _, hs, by simp [Gh.own], hb, fun hm => ?_⟩⟩, fun _ b o s hA => ?_⟩
    · obtain ⟨i, hi, he⟩ := List.mem_iff_getElem.1 hm
      have := hbx i w.heap.size (by
        have hi' : i < γ.bx.length := hi
        rw [List.getElem?_eq_getElem hi']; exact congrArg some he)
      omega
    · cases hA; exact Nat.le_refl _
theorem sees_own {n c sz : Nat} {o : Obj} : Sees γ w (γ.own dst w.heap.size ⟨some ⟨w.heap.size, 0, none⟩, n, c, sz⟩) (w.alloc o) :=
  ⟨fun b i u h1 h2 => by
    have hlt := cell_lt h2
    refine ⟨by rw [World.cell?_alloc_lt _ _ _ hlt]; exact h2, (may_congr ?_).2 h1⟩
    simp only [Gh.own]
    rw [if_neg (by omega)]⟩
theorem HeapOK.lt {h : Heap} (hh : HeapOK γ h dead C w) : ∀ (i b : Nat), γ.bx[i]? = some b → b < w.heap.size := by
  intro i b hb
  have hlt : i < h.length := by rw [hh.len]; exact (List.getElem?_eq_some_iff.1 hb).1
  rcases hh.box i _ b (List.getElem?_eq_getElem hlt) hb with ⟨⟨arr, ty, e1, _⟩, _, _⟩ | g
  · exact heap_lt_of e1
  · exact g.2.1
theorem rdTs_of_rdC : ∀ {ts : Ts} {x : ts.den} {b o : Nat}, rdC w γ (ts.leaves x) b o → rdTs w γ ts x b o
  | .one t, x, b, o, h => by
    simp only [Ts.leaves, rdC, rdD] at h
    simp only [rdTs]
    exact h.1
  | .cons t ts, x, b, o, h => by
    simp only [Ts.leaves, rdC, rdD] at h
    simp only [rdTs]
    exact ⟨h.1, rdTs_of_rdC h.2⟩
theorem rdC_at {γ' : Gh} {vs : Array Value} {ty : Nat} (hs : Sees γ w γ' (w.alloc (.cells vs ty))) (hb : γ'.bx = γ.bx) : ∀ {ds : List D} {o : Nat}, (∀ (j : Nat) d, ds[j]? = some d → γ'.may w.heap.size (o + j) ∧ ∃ v, vs[o + j]? = some v ∧ rdD w γ d v) →
    rdC (w.alloc (.cells vs ty)) γ' ds w.heap.size o
  | [], o, _ => by simp [rdC]
  | d :: ds, o, h => by
    simp only [rdC]
    obtain ⟨h1, v, h2, h3⟩ := h 0 d rfl
    refine ⟨⟨v, by rw [World.cell?_alloc_new]; simpa using h2, by simpa using h1, rdD_mono hs (fun i b hi => by rw [hb]; exact hi) d v h3⟩, rdC_at hs hb fun j d' hd => ?_⟩
    have := h (j + 1) d' (by simpa using hd)
    rwa [show o + (j + 1) = o + 1 + j by omega] at this
theorem fillD_seq {sz : Nat} : ∀ (ps : List (Nat × R)) (k : Nat) (ds : List D), (∀ (m : Nat) x, ps[m]? = some x → x.1 = k + m ∧ x.2.lays = true ∧ x.2.leaves.length = sz) → 0 < sz → (k + ps.length) * sz ≤ ds.length →
    ∃ ds', fillD (fun i => some (i * sz, sz)) ds ps = some ds' ∧ ds'.length = ds.length ∧ (∀ p, p < k * sz → ds'[p]? = ds[p]?) ∧
      ∀ (m : Nat) x, ps[m]? = some x → ∀ j, j < sz → ds'[(k + m) * sz + j]? = x.2.leaves[j]?
  | [], k, ds, _, _, _ => ⟨ds, rfl, rfl, fun _ _ => rfl, fun m x h => by simp at h⟩
  | (i, r) :: ps, k, ds, h, h0, hl => by
    obtain ⟨e1, e2, e3⟩ := h 0 (i, r) rfl
    simp only [Nat.add_zero] at e1 e2 e3
    subst e1
    have hfit : i * sz + sz ≤ ds.length := by
      have : (i + 1) * sz ≤ (i + ((i, r) :: ps).length) * sz := Nat.mul_le_mul_right _ (by simp)
      rw [Nat.add_mul] at this
      omega
    have hput : ∀ (l : List D) (ds : List D) (off : Nat), off + l.length ≤ ds.length → ∃ ds1, putAt ds off l = some ds1 := by
      intro l ds off
      induction ds generalizing off l with
      | nil => intro hh; cases l with
        | nil => exact ⟨[], by cases off <;> rfl⟩
        | cons _ _ => simp at hh
      | cons d ds ih =>
        intro hh
        cases l with
        | nil => exact ⟨d :: ds, by cases off <;> rfl⟩
        | cons v l =>
          cases off with
          | zero => obtain ⟨q, hq⟩ := ih l 0 (by simp at hh ⊢; omega); exact ⟨v :: q, by simp [putAt, hq]⟩
          | succ off => obtain ⟨q, hq⟩ := ih (v :: l) off (by simp at hh ⊢; omega); exact ⟨d :: q, by simp [putAt, hq]⟩
    obtain ⟨ds1, hds1⟩ := hput r.leaves ds (i * sz) (by rw [e3]; exact hfit)
    obtain ⟨p1, _, p3⟩ := putAt_spec hds1
    obtain ⟨ds', q1, q2, q3, q4⟩ := fillD_seq ps (i + 1) ds1 (fun m x hx => by
      obtain ⟨f1, f2, f3⟩ := h (m + 1) x (by simpa using hx)
      exact ⟨by rw [f1]; omega, f2, f3⟩) h0 (by rw [p1]; simp at hl; rw [show i + 1 + ps.length = i + (ps.length + 1) by omega]; exact hl)
    refine ⟨ds', ?_, by rw [q2, p1], fun p hp => ?_, fun m x hx j hj => ?_⟩
    · have c1 : Nat.beq r.leaves.length sz = true := nbeq.2 e3
      have c2 : Nat.blt 0 sz = true := nblt.2 h0
      simp [fillD, e2, c1, c2, hds1, q1]
    · rw [q3 p (by rw [Nat.add_mul]; omega), p3 p, if_neg (by omega)]
    · cases m with
      | zero =>
        simp at hx
        subst hx
        simp only [Nat.add_zero]
        rw [q3 _ (by rw [Nat.add_mul]; omega), p3 _, if_pos (by rw [e3]; omega)]
        congr 1
        omega
      | succ m =>
        have := q4 m x (by simpa using hx) j hj
        rwa [show i + 1 + m = i + (m + 1) by omega] at this
theorem idxOk_spec : ∀ {l : List (Nat × Operand)} {k : Nat}, effB.idxOk k l = true → ∀ (m : Nat) p, l[m]? = some p → p.1 = k + m
  | [], k, _, m, p, hp => by simp at hp
  | q :: l, k, h, m, p, hp => by
    simp only [effB.idxOk, Bool.and_eq_true] at h
    cases m with
    | zero => simp at hp; subst hp; exact nbeq.1 h.1
    | succ m => have := idxOk_spec h.2 m p (by simpa using hp); omega
theorem scalar_of_zero {z : Value} {zero : List D} (hz : rdL w γ zero z.cells.toList) : ∀ v ∈ z.cells.toList, Value.scalar v := rdL_scalar hz
theorem q_buildSlice {o : Oper} {t n : Nat} {e : Ts} {parts : Array (Nat × Operand)} {xs : List e.den} {lk : Nat → Option R} {ty : Nat} {hp : Heap} (hE : EnvOK E) (hop : o.op = .buildSlice t n parts)
    (hf : ∀ b, w.heap.size ≤ b → γ.rd b = none) (hbase : γ.base ≤ w.heap.size) (hh : HeapOK γ hp dead C w) (hl : LkOK lk γ dead C a w) (hs : slOK E t e = true) (hidx : effB.idxOk 0 parts.toList = true)
    (hps : mapO (fun p => match evalO E ty lk p.2 with | some r => unleaves e r.leaves | none => none) parts.toList = some xs) (hn : xs.length = n) (hsz : n * e.size ≤ 16777216) :
    Quiet E.P o a γ dead C w (.one (.ow e xs (.s (dstOf o)))) := by
  obtain ⟨et, info, hu, hinfo, hisz, _, z, hz, hzs⟩ := slOK_spec hE hs
  have e1 : (sizeOf et).run E.P w = .ok e.size w := by simp [sizeOf, typeInfo, hinfo, hisz]
  have e2 : (zeroValue et).run E.P w = .ok z w := by simp [zeroValue, typeInfo, hinfo, hz]
  obtain ⟨hlen, hget⟩ := mapO_some hps
  have hpos := Ts.size_pos e
  -- the parts
  obtain ⟨ps, hps1, hps2⟩ : ∃ ps : List (Nat × R), mapO (fun p => match evalO E ty lk p.2 with | some r => some (p.1, r) | none => none) parts.toList = some ps ∧
      ∀ (m : Nat) x, ps[m]? = some x → x.1 = 0 + m ∧ x.2.lays = true ∧ ∃ y, xs[m]? = some y ∧ x.2.leaves = e.leaves y := by
    have key : ∀ (l : List (Nat × Operand)) (k : Nat) (ys : List e.den), effB.idxOk k l = true → mapO (fun p => match evalO E ty lk p.2 with | some r => unleaves e r.leaves | none => none) l = some ys →
        ∃ ps : List (Nat × R), mapO (fun p => match evalO E ty lk p.2 with | some r => some (p.1, r) | none => none) l = some ps ∧
          ∀ (m : Nat) x, ps[m]? = some x → x.1 = k + m ∧ x.2.lays = true ∧ ∃ y, ys[m]? = some y ∧ x.2.leaves = e.leaves y := by
      intro l
      induction l with
      | nil => intro k ys _ _; exact ⟨[], rfl, fun m x h => by simp at h⟩
      | cons p l ih =>
        intro k ys hi hm
        simp only [effB.idxOk, Bool.and_eq_true] at hi
        simp only [mapO] at hm
        split at hm
        · rename_i y hy
          split at hm
          · rename_i ys' hys
            cases hm
            split at hy
            · rename_i r hr
              obtain ⟨ps, h1, h2⟩ := ih (k + 1) ys' hi.2 hys
              refine ⟨(p.1, r) :: ps, by simp [mapO, hr, h1], fun m x hx => ?_⟩
              cases m with
              | zero =>
                simp at hx
                subst hx
                have hlv := unleaves_spec hy
                refine ⟨nbeq.1 hi.1, ?_, y, rfl, hlv.symm⟩
                have hne : r.leaves ≠ [] := fun h0 => by
                  have := leaves_length e y
                  rw [hlv, h0] at this
                  simp at this
                  omega
                cases r <;> first | rfl | exact absurd rfl hne
              | succ m =>
                obtain ⟨f1, f2, y', f3, f4⟩ := h2 m x (by simpa using hx)
                exact ⟨by rw [f1]; omega, f2, y', by simpa using f3, f4⟩
            · cases hy
          · cases hm
        · cases hm
    exact key _ 0 xs hidx hps
  have hpslen : ps.length = n := by rw [← (mapO_some hps1).1, hlen, hn]
  -- the cells ahead of the parts
  let cells0 : Array Value := (Array.range (n * e.size)).map fun i => z.cells[i % z.cells.size]!
  have hzsc : ∀ v ∈ z.cells.toList, Value.scalar v := by
    intro v hv
    obtain ⟨et', i', hu', hi', hs'⟩ := slOK_spec hE hs
    unfold slOK at hs
    split at hs
    · rename_i et2 _ _ _ _ ht2
      split at hs
      · rename_i te hte
        have hd := (hE.ti _ _ ht2).desc
        simp only at hd
        rw [hd.1] at hu
        cases hu
        obtain ⟨i2, q1, _, _, z2, q2, _, q3, _⟩ := (hE.ti _ _ hte).info (hd.2 te hte)
        rw [hinfo] at q1
        cases q1
        rw [hz] at q2
        cases q2
        exact rdL_scalar (q3 w γ) v hv
      · cases hs
    · cases hs
  have hr0 : rdL w γ (List.replicate (n * e.size) D.undef) cells0.toList := by
    refine rdL_of_get (by simp [cells0]) fun i d v hd hv => ?_
    have hlt : i < n * e.size := by
      have := (List.getElem?_eq_some_iff.1 hd).1
      simpa using this
    have : d = .undef := by simp [hlt] at hd; exact hd.symm
    subst this
    simp only [rdD]
    have hv' : cells0[i]? = some v := by simpa using hv
    simp only [cells0, Array.getElem?_map] at hv'
    have hm : i % z.cells.size < z.cells.size := Nat.mod_lt _ (by omega)
    simp [hlt, hm] at hv'
    exact hzsc v (by rw [← hv']; simp)
  obtain ⟨ds', g1, g2, _, g4⟩ := fillD_seq (sz := e.size) ps 0 (List.replicate (n * e.size) D.undef) (fun m x hx => by
    obtain ⟨f1, f2, y, _, f4⟩ := hps2 m x hx
    exact ⟨f1, f2, by rw [f4]; exact leaves_length e y⟩) hpos (by rw [hpslen]; simp)
  obtain ⟨cells, c1, c2⟩ := fill_sound (place := fun i => some (i * e.size, e.size)) (fun i x hx => hx) (parts_sound hl hps1) hr0 g1
  have hcs : cells.size = n * e.size := by
    have := rdL_length c2
    rw [g2] at this
    simpa using this.symm
  have hrun : (Instr.buildSlice t n (parts.map fun x => (x.1, a.eval x.2))).run E.P w = .ok (.slice (some ⟨w.heap.size, 0, none⟩) n n) (w.alloc (.cells cells et)) := by
    have h24 : ¬ 16777216 < n * e.size := by omega
    by_cases h0 : n * e.size = 0
    · have hn0 : n = 0 := by
        rcases Nat.mul_eq_zero.1 h0 with h | h
        · exact h
        · omega
      have hps0 : ps = [] := List.eq_nil_of_length_eq_zero (by omega)
      have hpp : parts.toList = [] := List.eq_nil_of_length_eq_zero (by rw [hlen, hn, hn0])
      have hcz : cells = #[] := by apply Array.eq_empty_of_size_eq_zero; omega
      subst hcz
      simp [Instr.buildSlice, run_underlying hu, e1, hn0, hpp, Instr.fill, newRow]
      rw [Array.range_zero']; simp
    · simp [Instr.buildSlice, run_underlying hu, e1, h24, h0, e2]
      have : Instr.fill (fun i => some (i * e.size, e.size)) (Array.map (fun x => z.cells[x % z.cells.size]!) (Array.range (n * e.size))) (List.map (fun x => (x.fst, a.eval x.snd)) parts.toList) = some cells := c1
      simp [this, newRow]
  have hbx := hh.lt
  refine .mk (v := .slice (some ⟨w.heap.size, 0, none⟩) n n) (w' := w.alloc (.cells cells et)) (γ' := γ.own (dstOf o) w.heap.size ⟨some ⟨w.heap.size, 0, none⟩, n, n, e.size⟩) (by simp [execOp, hop, hrun]) (Grow.own hf hbx hbase (Nat.le_refl _) hcs) ?_ ?_
  · simp only [rdR, rdD, rdT]
    refine ⟨_, n, by rw [hn], by rw [hn]; exact Nat.le_refl _, fun i hi => ⟨w.heap.size, 0, rfl, rdTs_of_rdC (rdC_at sees_own rfl fun j d hd => ?_)⟩⟩
    have hj : j < e.size := by
      have := (List.getElem?_eq_some_iff.1 hd).1
      rwa [leaves_length] at this
    have hin : i < n := by rw [← hn]; exact hi
    have hlt : i * e.size + j < n * e.size := by
      have : (i + 1) * e.size ≤ n * e.size := Nat.mul_le_mul_right _ hin
      rw [Nat.add_mul] at this
      omega
    refine ⟨by simp [Gh.may, Gh.own]; omega, ?_⟩
    have hips : i < ps.length := by omega
    obtain ⟨_, _, y, f3, f4⟩ := hps2 i ps[i] (by simp [hips])
    have hy : xs[i] = y := by
      have := List.getElem?_eq_getElem hi
      rw [this] at f3
      cases f3
      rfl
    have h4 := g4 i ps[i] (by simp [hips]) j hj
    rw [f4, ← hy, hd] at h4
    obtain ⟨v, hv1, hv2⟩ := rdL_get c2 h4
    exact ⟨v, by simpa using hv1, hv2⟩
  · simp only [tkR, tkD]
    exact ⟨.inr ⟨⟨some ⟨w.heap.size, 0, none⟩, n, n, e.size⟩, if_pos rfl, rfl, rfl⟩, fun t ht => by cases ht; simp⟩
theorem q_makeSlice {o : Oper} {t et : Nat} {ti te : TI} {l c : Operand} {e : Ts} {z : e.den} {lk : Nat → Option R} {ty1 ty2 : Nat} {k1 k2 : IntKind} {n m : Int} {hp : Heap} (hE : EnvOK E) (hop : o.op = .makeSlice t l c)
    (hf : ∀ b, w.heap.size ≤ b → γ.rd b = none) (hbase : γ.base ≤ w.heap.size) (hh : HeapOK γ hp dead C w) (hl : LkOK lk γ dead C a w) (hs : slOK E t e = true) (ht : E.ti t = some ti) (hd : ti.d = .slice et) (hte : E.ti et = some te) (hz : unleaves e te.zero = some z)
    (h1 : evalO E ty1 lk l = some (.one (.g (.int k1) n))) (h2 : evalO E ty2 lk c = some (.one (.g (.int k2) m))) (h0 : 0 ≤ n) (hnm : n ≤ m) (hm : m ≤ (maxL : Int)) :
    Quiet E.P o a γ dead C w (.one (.ow e (List.replicate n.toNat z) (.s (dstOf o)))) := by
  have hds := (hE.ti _ _ ht).desc
  rw [hd] at hds
  simp only at hds
  obtain ⟨hu, hnt⟩ := hds
  obtain ⟨info, hinfo, hsz, hby, zv, hzv, hzs, hrd, _⟩ := (hE.ti _ _ hte).info (hnt te hte)
  obtain ⟨et2, i2, hu2, hinfo2, hisz2, _⟩ := slOK_spec hE hs
  rw [hu] at hu2
  cases hu2
  rw [hinfo] at hinfo2
  cases hinfo2
  have hte2 : te.size = e.size := hsz.symm.trans hisz2
  have hpos := Ts.size_pos e
  have hM : (maxL : Int) = 2147483648 := rfl
  have hrun := run_make (P := E.P) w t et info zv hu hinfo hzv k1 k2 n m h0 hnm (by
    have a1 : (info.bytes : Int) * m ≤ 65536 * 2147483648 := Int.mul_le_mul (by omega) (by omega) (by omega) (by omega)
    omega) (by omega)
  have hcs : (madeCells zv.cells (m.toNat * info.size)).size = m.toNat * e.size := by rw [size_madeCells, hisz2]
  have hbx := hh.lt
  refine .mk (v := .slice (some ⟨w.heap.size, 0, none⟩) n.toNat m.toNat) (w' := w.alloc (.cells (madeCells zv.cells (m.toNat * info.size)) et)) (γ' := γ.own (dstOf o) w.heap.size ⟨some ⟨w.heap.size, 0, none⟩, n.toNat, m.toNat, e.size⟩) (by simp [execOp, hop, evalO_int hl h1, evalO_int hl h2, hrun]) (Grow.own hf hbx hbase (by omega) hcs) ?_ ?_
  · simp only [rdR, rdD, rdT]
    refine ⟨_, m.toNat, by rw [List.length_replicate], by rw [List.length_replicate]; omega, fun i hi => ⟨w.heap.size, 0, rfl, rdTs_of_rdC (rdC_at sees_own rfl fun j d hd => ?_)⟩⟩
    rw [List.length_replicate] at hi
    rw [List.getElem_replicate, unleaves_spec hz] at hd
    obtain ⟨v, hv1, hv2⟩ := rdL_get (hrd w γ) hd
    have hj : j < zv.cells.size := by
      have := (List.getElem?_eq_some_iff.1 hv1).1
      simpa using this
    have hje : j < e.size := by omega
    have hlt : i * e.size + j < n.toNat * e.size := by
      have : (i + 1) * e.size ≤ n.toNat * e.size := Nat.mul_le_mul_right _ hi
      rw [Nat.add_mul] at this
      omega
    have hle : n.toNat * e.size ≤ m.toNat * e.size := Nat.mul_le_mul_right _ (by omega)
    refine ⟨by simp [Gh.may, Gh.own]; omega, v, ?_, hv2⟩
    have hmod : (0 + i * e.size + j) % zv.cells.size = j := by
      rw [hzs, hte2, Nat.zero_add, Nat.add_comm, Nat.add_mul_mod_self_right, Nat.mod_eq_of_lt hje]
    have hmod2 : (i * e.size + j) % zv.cells.size = j := by rwa [Nat.zero_add] at hmod
    have hin : i * e.size + j < m.toNat * info.size := by rw [hisz2]; omega
    have hv3 : zv.cells[j]! = v := by
      have : zv.cells[j]? = some v := by simpa using hv1
      simp [hj]
      have h4 := Array.getElem?_eq_getElem hj
      rw [h4] at this
      exact Option.some.inj this
    simp [madeCells, hin, hmod2, hv3]
  · simp only [tkR, tkD]
    exact ⟨.inr ⟨⟨some ⟨w.heap.size, 0, none⟩, n.toNat, m.toNat, e.size⟩, if_pos rfl, rfl, by simp⟩, fun t ht => by cases ht; simp⟩
def Gh.ownNone (γ : Gh) (dst : Nat) (h : Hdr) : Gh := { γ with ow := fun k => if k = .s dst then some h else γ.ow k }
theorem Grow.ownNone (hf : ∀ b, w.heap.size ≤ b → γ.rd b = none) {h : Hdr} (hc : h.c = 0) (hn : h.n = 0) : Grow γ w (γ.ownNone dst h) w dst where
  below := Below.refl _ _
  bx := rfl
  nb := rfl
  base := rfl
  rd := fun _ _ => rfl
  fresh := hf
  ow := fun k hk => by simp [Gh.ownNone, hk]
  new := fun h' hh => by
    simp only [Gh.ownNone, if_true, Option.some.injEq] at hh
    subst hh
    exact ⟨⟨by omega, fun h0 => absurd hc h0⟩, fun h0 => absurd hc h0⟩
theorem q_nil {o : Oper} {e : Ts} (hop : o.op = .move (.const (.slice none 0 0)) ∨ o.op = .assign (.const (.slice none 0 0))) (hf : ∀ b, w.heap.size ≤ b → γ.rd b = none) : Quiet P o a γ dead C w (.one (.ow e [] (.s (dstOf o)))) := by
  refine .mk (v := .slice none 0 0) (w' := w) (γ' := γ.ownNone (dstOf o) ⟨none, 0, 0, e.size⟩) (by rcases hop with h | h <;> simp [execOp, h, Act.eval]) (Grow.ownNone hf rfl rfl) ?_ ?_
  · simp only [rdR, rdD, rdT]
    exact ⟨none, 0, rfl, Nat.le_refl _, fun i hi => absurd hi (by simp)⟩
  · simp only [tkR, tkD]
    exact ⟨.inr ⟨⟨none, 0, 0, e.size⟩, if_pos rfl, rfl, rfl⟩, fun t ht => by cases ht; simp⟩
theorem sub_rdT {e : Ts} {xs : List e.den} {A : Option Addr} {c l u : Nat} (h : ∀ i (h : i < xs.length), ∃ b o, A = some ⟨b, o, none⟩ ∧ rdTs w γ e xs[i] b (o + i * e.size)) (hlu : l ≤ u) (hu : u ≤ xs.length) (hc : u ≤ c) {A' : Option Addr}
    (hA : u - l ≠ 0 → A' = A.map (·.add (l * e.size))) : rdT w γ (.sl e) ((xs.take u).drop l) (.slice A' (u - l) (c - l)) := by
  have hlen : ((xs.take u).drop l).length = u - l := by simp; omega
  simp only [rdT]
  refine ⟨A', c - l, by rw [hlen], by rw [hlen]; omega, fun i hi => ?_⟩
  rw [hlen] at hi
  obtain ⟨b, o, e1, e2⟩ := h (l + i) (by omega)
  refine ⟨b, o + l * e.size, by rw [hA (by omega), e1]; simp [add_none], ?_⟩
  have e3 : ((xs.take u).drop l)[i]'(by rw [hlen]; exact hi) = xs[l + i]'(by omega) := by simp
  rw [e3]
  rwa [show o + l * e.size + i * e.size = o + (l + i) * e.size by rw [Nat.add_mul]; omega]
theorem slLo_sound {lo : Option Operand} {lk : Nat → Option R} {l : Int} (hl : LkOK lk γ dead C a w) (h : effB.sliceLo lo lk E = some l) : (lo = none ∧ l = 0) ∨ ∃ x k, lo = some x ∧ a.eval x = .int k l := by
  unfold effB.sliceLo at h
  split at h
  · cases h; exact .inl ⟨rfl, rfl⟩
  · split at h
    · rename_i hx
      cases h
      exact .inr ⟨_, _, rfl, evalO_int hl hx⟩
    · cases h
theorem slHi_sound {n : Nat} {hi : Option Operand} {lk : Nat → Option R} {l : Int} (hl : LkOK lk γ dead C a w) (h : effB.sliceHi n hi lk E = some l) : (hi = none ∧ l = n) ∨ ∃ x k, hi = some x ∧ a.eval x = .int k l := by
  unfold effB.sliceHi at h
  split at h
  · cases h; exact .inl ⟨rfl, rfl⟩
  · split at h
    · rename_i hx
      cases h
      exact .inr ⟨_, _, rfl, evalO_int hl hx⟩
    · cases h
theorem q_slice {o : Oper} {t : Nat} {x : Operand} {lo hi : Option Operand} {d : D} {e : Ts} {xs : List e.den} {l u : Int} {lk : Nat → Option R} (hE : EnvOK E) (hop : o.op = .slice t x lo hi none) (hf : ∀ b, w.heap.size ≤ b → γ.rd b = none)
    (hl : LkOK lk γ dead C a w) (hs : slOK E t e = true) (hd : rdD w γ d (a.eval x)) (has : asSl d = some ⟨e, xs⟩) (h1 : effB.sliceLo lo lk E = some l) (h2 : effB.sliceHi xs.length hi lk E = some u) (h0 : 0 ≤ l) (hlu : l ≤ u) (hu : u ≤ xs.length) :
    Quiet E.P o a γ dead C w (.one (.g (.sl e) ((xs.take u.toNat).drop l.toNat))) := by
  obtain ⟨et, info, hun, hinfo, hsz, _⟩ := slOK_spec hE hs
  have h3 := asSl_sound has hd
  simp only [rdT] at h3
  obtain ⟨A, cp, hv, hle, hr⟩ := h3
  have e1 : (sizeOf et).run E.P w = .ok e.size w := by simp [sizeOf, typeInfo, hinfo, hsz]
  have hb : ∀ (vlo vhi : Option Value), (vlo = none ∧ l = 0 ∨ ∃ k, vlo = some (.int k l)) → (vhi = none ∧ u = xs.length ∨ ∃ k, vhi = some (.int k u)) →
      (Instr.sliceBounds true xs.length cp vlo vhi none).run E.P w = .ok (l.toNat, u.toNat, cp) w := by
    rintro vlo vhi (⟨rfl, rfl⟩ | ⟨k, rfl⟩) (⟨rfl, rfl⟩ | ⟨k', rfl⟩)
    · simp [Instr.sliceBounds]
    · have : u ≤ cp := by omega
      simp [Instr.sliceBounds, Instr.sliceBound, asIntOf, hlu, this]
    · have : l ≤ (xs.length : Int) := by omega
      simp [Instr.sliceBounds, Instr.sliceBound, asIntOf, h0, this]
    · have c1 : u ≤ cp := by omega
      have c2 : 0 ≤ u := by omega
      have c3 : l ≤ ((u.toNat : Nat) : Int) := by omega
      have c4 : l ≤ max u 0 := by omega
      simp [Instr.sliceBounds, Instr.sliceBound, asIntOf, h0, c1, c2, c4]
  have hlo := slLo_sound hl h1
  have hhi := slHi_sound hl h2
  have hbr := hb (lo.map a.eval) (hi.map a.eval) (by
    rcases hlo with ⟨rfl, rfl⟩ | ⟨y, k, rfl, hy⟩
    · exact .inl ⟨rfl, rfl⟩
    · exact .inr ⟨k, by simp [hy]⟩) (by
    rcases hhi with ⟨rfl, rfl⟩ | ⟨y, k, rfl, hy⟩
    · exact .inl ⟨rfl, rfl⟩
    · exact .inr ⟨k, by simp [hy]⟩)
  have hrd := sub_rdT (A' := if cp = l.toNat then A else A.map (·.add (l.toNat * e.size))) (l := l.toNat) (u := u.toNat) (c := cp) hr (by omega) (by omega) (by omega) (by
    intro hne
    have : ¬ cp = l.toNat := by omega
    rw [if_neg this])
  refine q_plain (v := .slice (if cp = l.toNat then A else A.map (·.add (l.toNat * e.size))) (u.toNat - l.toNat) (cp - l.toNat)) hf ?_ (by simp only [rdD]; exact hrd) rfl
  simp [execOp, hop, hv, Instr.sliceAt, run_underlying hun, Instr.slice, hbr, e1]
theorem q_sliceNone {o : Oper} {t : Nat} {x m : Operand} {lo hi : Option Operand} {d : D} {e : Ts} {xs : List e.den} {km : IntKind} {lk : Nat → Option R} (hE : EnvOK E) (hop : o.op = .slice t x lo hi (some m)) (hf : ∀ b, w.heap.size ≤ b → γ.rd b = none)
    (hl : LkOK lk γ dead C a w) (hs : slOK E t e = true) (hd : rdD w γ d (a.eval x)) (has : asSl d = some ⟨e, xs⟩) (h1 : effB.sliceLo lo lk E = some 0) (h2 : effB.sliceHi xs.length hi lk E = some 0) (hm : a.eval m = .int km 0) (hsome : hi.isSome = true) :
    Quiet E.P o a γ dead C w (.one (.ow e [] (.s (dstOf o)))) := by
  obtain ⟨et, info, hun, hinfo, hsz, _⟩ := slOK_spec hE hs
  have h3 := asSl_sound has hd
  simp only [rdT] at h3
  obtain ⟨A, cp, hv, hle, hr⟩ := h3
  have e1 : (sizeOf et).run E.P w = .ok e.size w := by simp [sizeOf, typeInfo, hinfo, hsz]
  have hlo := slLo_sound hl h1
  have hhi := slHi_sound hl h2
  have hbr : (Instr.sliceBounds true xs.length cp (lo.map a.eval) (hi.map a.eval) (some (.int km 0))).run E.P w = .ok (0, 0, 0) w := by
    rcases hhi with ⟨rfl, _⟩ | ⟨y, k, rfl, hy⟩
    · simp at hsome
    · rcases hlo with ⟨rfl, _⟩ | ⟨y', k', rfl, hy'⟩
      · simp [Instr.sliceBounds, Instr.sliceBound, asIntOf, hy]
      · simp [Instr.sliceBounds, Instr.sliceBound, asIntOf, hy, hy']
  refine .mk (v := .slice A 0 0) (w' := w) (γ' := γ.ownNone (dstOf o) ⟨A, 0, 0, e.size⟩) (by simp [execOp, hop, hv, Instr.sliceAt, run_underlying hun, Instr.slice, hm, hbr, e1]) (Grow.ownNone hf rfl rfl) ?_ ?_
  · simp only [rdR, rdD, rdT]
    exact ⟨A, 0, rfl, Nat.le_refl _, fun i hi => absurd hi (by simp)⟩
  · simp only [tkR, tkD]
    exact ⟨.inr ⟨⟨A, 0, 0, e.size⟩, if_pos rfl, rfl, rfl⟩, fun t ht => by cases ht; simp⟩
end
end Go.V
namespace Go.V
open Go.RowKit
section
variable {E : Env} {P : Program} {γ : Gh} {dead : List Tok} {C : List Nat} {a : Act} {w : World} {dst : Nat}
def ownD' (γ : Gh) (dst : Nat) : D → Value → Prop
  | .ow e _ _, v => ∃ h, γ.ow (.s dst) = some h ∧ v = .slice h.A h.n h.c ∧ h.sz = e.size
  | _, _ => True
def ownTop (γ : Gh) (dst : Nat) : R → Value → Prop
  | .one d, v => ownD' γ dst d v
  | .tup (.one d :: _), .tuple vs => ∀ v, vs[0]? = some v → ownD' γ dst d v
  | _, _ => True
def PureOK (E : Env) (cp : CallP) : Prop :=
  ∀ f args r, cp f args = some r → (∃ fn, E.P.funcs[f]? = some fn ∧ fn.body.isSome = true) ∧ ∀ γ w vs dst, rdRs w γ args vs → (∀ b, w.heap.size ≤ b → γ.rd b = none) → γ.base ≤ w.heap.size → (∀ b ∈ γ.bx, b < w.heap.size) →
    Calls E.P f vs.toArray w fun e w' => ∃ v γ', e = .returned v ∧ Grow γ w γ' w' dst ∧ rdR w' γ' r v ∧ ownTop γ' dst r v
theorem castL_rdT {e e' : Ts} (h : Ts.beq e' e = true) {xs : List e'.den} {v : Value} (hx : rdT w γ (.sl e') xs v) : rdT w γ (.sl e) (castL h xs) v := by
  obtain rfl := Ts.eq_of_beq h
  exact hx
theorem unOne_sound {own ag : Bool} {ts : Ts} {r : R} {x : ts.den} {v : Value} (h : unOne own ag ts r = some x) (hr : rdR w γ r v) (ho : own = true → ownTop γ dst r v) :
    rdR w γ (mkOne dst own ag ts x) v ∧ tkR γ dead (dst :: C) (mkOne dst own ag ts x) v := by
  cases own with
  | true =>
    cases ts with
    | cons t us => cases r <;> simp [unOne] at h
    | one t =>
      cases t with
      | int k => cases r <;> simp [unOne] at h
      | bool => cases r <;> simp [unOne] at h
      | sl e =>
        cases r with
        | one d =>
          cases d with
          | ow e' xs k =>
            simp only [unOne] at h
            split at h
            · rename_i hb
              cases h
              have h1 := ho rfl
              simp only [ownTop, ownD'] at h1
              simp only [rdR, rdD] at hr
              simp only [mkOne, rdR, rdD, tkR, tkD]
              obtain ⟨hd, q1, q2, q3⟩ := h1
              exact ⟨castL_rdT hb hr, .inr ⟨hd, q1, q2, by rw [q3]; exact congrArg Ts.size (Ts.eq_of_beq hb)⟩, fun t ht => by cases ht; simp⟩
            · cases h
          | _ => simp [unOne] at h
        | _ => simp [unOne] at h
  | false =>
    cases ag with
    | true =>
      cases r with
      | agg ds =>
        simp only [unOne] at h
        have h1 := unleaves_spec h
        simp only [rdR] at hr
        obtain ⟨vs, rfl, hr⟩ := hr
        have e : mkOne dst false true ts x = .agg (ts.leaves x) := by
          cases ts with
          | cons t us => rfl
          | one t => cases t <;> rfl
        rw [e, h1]
        simp only [rdR, tkR]
        exact ⟨⟨vs, rfl, (rdL_map nameOnly_strip).2 hr⟩, trivial⟩
      | _ => simp [unOne] at h
    | false =>
      cases r with
      | one d =>
        simp only [unOne] at h
        have h1 := unleaves_spec h
        have e : mkOne dst false false ts x = match ts.leaves x with
            | [d] => .one d
            | _ => .undef := by
          cases ts with
          | cons t us => rfl
          | one t => cases t <;> rfl
        rw [e, h1]
        simp only [rdR, tkR] at hr ⊢
        exact ⟨rdD_strip.2 hr, tkD_strip d v⟩
      | _ => simp [unOne] at h
theorem unSh_sound : ∀ {l : Sh} {rs : List R} {x : l.den} {vs : List Value}, unSh l rs = some x → (∀ s ∈ l.tail, s.1 = false) → rdRs w γ rs vs →
    (∀ o ag ts l', l = (o, ag, ts) :: l' → o = true → ∀ r v, rs[0]? = some r → vs[0]? = some v → ownTop γ dst r v) →
    rdRs w γ (mkSh dst l x) vs ∧ tkRs γ dead (dst :: C) (mkSh dst l x) vs
  | [], [], x, vs, _, _, hr, _ => by
    cases vs with
    | nil => simp [mkSh, rdRs, tkRs]
    | cons _ _ => simp only [rdRs] at hr
  | [], _ :: _, x, vs, h, _, _, _ => by simp [unSh] at h
  | [(o, ag, ts)], [r], x, vs, h, _, hr, ho => by
    simp only [unSh] at h
    cases vs with
    | nil => simp only [rdRs] at hr
    | cons v vs =>
      cases vs with
      | cons _ _ => simp [rdRs] at hr
      | nil =>
        simp only [rdRs, and_true] at hr
        obtain ⟨h1, h2⟩ := unOne_sound (dead := dead) (C := C) (dst := dst) h hr (fun hh => ho o ag ts [] rfl hh r v rfl rfl)
        simp only [mkSh, rdRs, tkRs, and_true]
        exact ⟨h1, h2⟩
  | [_], [], x, vs, h, _, _, _ => by simp [unSh] at h
  | [_], _ :: _ :: _, x, vs, h, _, _, _ => by simp [unSh] at h
  | (o, ag, ts) :: s :: l, [], x, vs, h, _, _, _ => by simp [unSh] at h
  | (o, ag, ts) :: s :: l, r :: rs, x, vs, h, hf, hr, ho => by
    simp only [unSh] at h
    cases vs with
    | nil => simp only [rdRs] at hr
    | cons v vs =>
      simp only [rdRs] at hr
      obtain ⟨x1, hx1, h⟩ := Option.bind_eq_some_iff.1 h
      obtain ⟨x2, hx2, h⟩ := Option.bind_eq_some_iff.1 h
      cases h
      obtain ⟨h1, h2⟩ := unOne_sound (dead := dead) (C := C) (dst := dst) hx1 hr.1 (fun hh => ho o ag ts _ rfl hh r v rfl rfl)
      obtain ⟨h3, h4⟩ := unSh_sound (l := s :: l) hx2 (fun s' hs' => hf s' (by simp at hs' ⊢; exact .inr hs')) hr.2 (fun o' ag' ts' l' he ho' r' v' hr' hv' => by
        cases he
        have := hf (o', ag', ts') (by simp)
        simp only at this
        rw [this] at ho'
        cases ho')
      simp only [mkSh, rdRs, tkRs]
      exact ⟨⟨h1, h3⟩, h2, h4⟩
theorem mapO_false {E : Env} {ts : List Nat} {l : Sh} (h : mapO (fun t => match E.ti t with | some { agg := a, gl := some ts, .. } => some (false, a, ts) | _ => none) ts = some l) : ∀ s ∈ l, s.1 = false := by
  intro s hs
  obtain ⟨i, hi, he⟩ := List.mem_iff_getElem.1 hs
  obtain ⟨h1, h2⟩ := mapO_some h
  have hlt : i < ts.length := by omega
  obtain ⟨y, hy, hf⟩ := h2 i ts[i] (by simp [hlt])
  rw [List.getElem?_eq_getElem hi] at hy
  cases hy
  split at hf
  · have := Option.some.inj hf
    rw [← he, ← this]
  · cases hf
theorem typed_sound {α : Type} {own : Bool} {ty : Nat} {r : R} {k : R → Option α} {res : α} (h : typed (oB α) E own dst ty r k = some res) :
    ∃ r', k r' = some res ∧ ∀ (w : World) (γ : Gh) (v : Value), rdR w γ r v → ownTop γ dst r v → rdR w γ r' v ∧ tkR γ dead (dst :: C) r' v := by
  unfold typed at h
  split at h
  · rename_i l hl
    obtain ⟨x, hx, hk⟩ := ob_some h
    refine ⟨_, hk, fun w γ v hr ho => ?_⟩
    cases r <;> simp only [unTup, reduceCtorEq] at hx
    case tup rs =>
      simp only [rdR] at hr
      obtain ⟨vs, rfl, hr⟩ := hr
      have hfalse : ∀ s ∈ l.tail, s.1 = false := by
        unfold shapeOf at hl
        split at hl
        · split at hl
          · rename_i o ag ts' l' hm
            cases hl
            intro s hs
            exact mapO_false hm s (by simp at hs ⊢; exact .inr hs)
          · cases hl; intro s hs; simp at hs
          · cases hl
        · cases hl
      obtain ⟨h1, h2⟩ := unSh_sound (dead := dead) (C := C) (dst := dst) (vs := vs.toList) hx hfalse hr (fun o ag ts l' _ _ q u hq hu => by
        cases rs with
        | nil => simp at hq
        | cons q' rs' =>
          simp at hq
          subst hq
          cases q' with
          | one d =>
            simp only [ownTop] at ho ⊢
            exact ho u (by simpa using hu)
          | tup _ =>
            cases l with
            | nil => simp [unSh] at hx
            | cons s l2 =>
              obtain ⟨o1, a1, t1⟩ := s
              cases l2 with
              | nil => cases rs' <;> simp only [unSh, reduceCtorEq] at hx; cases o1 <;> cases a1 <;> simp [unOne] at hx
              | cons _ _ => simp only [unSh] at hx; obtain ⟨y, hy, _⟩ := Option.bind_eq_some_iff.1 hx; cases o1 <;> cases a1 <;> simp [unOne] at hy
          | agg _ => simp only [ownTop]
          | undef => simp only [ownTop]
          | skip => simp only [ownTop])
      simp only [rdR, tkR]
      exact ⟨⟨vs, rfl, h1⟩, h2⟩
  · split at h
    · obtain ⟨x, hx, hk⟩ := ob_some h
      exact ⟨_, hk, fun w γ v hr ho => unOne_sound hx hr (fun _ => ho)⟩
    · refine ⟨_, h, fun w γ v hr ho => ?_⟩
      have retok_sound : ∀ (r : R) (v : Value), rdR w γ r v → ownTop γ dst r v → rdR w γ (retok dst r) v ∧ tkR γ dead (dst :: C) (retok dst r) v := by
        intro r v hr ho
        have gen : rdR w γ (r.map D.strip) v ∧ tkR γ dead (dst :: C) (r.map D.strip) v := ⟨(rdR_map nameOnly_strip r v).2 hr, tkR_strip r v⟩
        cases r with
        | one d =>
          cases d with
          | ow e xs k =>
            simp only [ownTop, ownD'] at ho
            simp only [rdR, rdD] at hr
            simp only [retok, rdR, rdD, tkR, tkD]
            exact ⟨hr, .inr ho, fun t ht => by cases ht; simp⟩
          | _ => exact gen
        | _ => exact gen
      cases r with
      | tup rs =>
        cases rs with
        | nil => exact ⟨(rdR_map nameOnly_strip _ v).2 hr, tkR_strip (.tup []) v⟩
        | cons q rs =>
          simp only [rdR] at hr
          obtain ⟨vs, rfl, hr⟩ := hr
          cases hvs : vs.toList with
          | nil => rw [hvs] at hr; simp only [rdRs] at hr
          | cons u us =>
            rw [hvs] at hr
            simp only [rdRs] at hr
            simp only [stripTail, rdR, tkR, hvs]
            have hq : rdR w γ (retok dst q) u ∧ tkR γ dead (dst :: C) (retok dst q) u := by
              cases q with
              | one d =>
                refine retok_sound (.one d) u hr.1 ?_
                simp only [ownTop] at ho ⊢
                exact ho u (by have : vs.toList[0]? = some u := by rw [hvs]; rfl
                               simpa using this)
              | tup qs => exact ⟨(rdR_map nameOnly_strip (.tup qs) u).2 hr.1, tkR_strip (.tup qs) u⟩
              | _ => exact retok_sound _ u hr.1 (by simp [ownTop])
            refine ⟨⟨vs, rfl, ?_⟩, ?_⟩
            · rw [hvs]
              simp only [rdRs]
              exact ⟨hq.1, (rdRs_map nameOnly_strip rs us).2 hr.2⟩
            · simp only [tkRs]
              exact ⟨hq.2, tkRs_strip rs us⟩
      | _ => simp only [stripTail]; exact retok_sound _ _ hr ho
def Gh.open (γ : Gh) : Gh := { γ with rd := fun b => if b ∈ γ.bx then none else γ.rd b }
theorem open_sees : Sees γ w γ.open w := ⟨fun b i u h1 h2 => by
  refine ⟨h2, ?_⟩
  unfold Gh.may Gh.open at *
  simp only
  by_cases hb : b ∈ γ.bx
  · simp [hb]
  · simp only [hb, if_false]; exact h1⟩
theorem rdRs_append : ∀ {r1 r2 : List R} {v1 v2 : List Value}, rdRs w γ r1 v1 → rdRs w γ r2 v2 → rdRs w γ (r1 ++ r2) (v1 ++ v2)
  | [], r2, [], v2, _, h => h
  | r :: r1, r2, v :: v1, v2, h1, h2 => by
    simp only [rdRs] at h1
    simp only [List.cons_append, rdRs]
    exact ⟨h1.1, rdRs_append h1.2 h2⟩
  | [], _, _ :: _, _, h, _ => by simp only [rdRs] at h
  | _ :: _, _, [], _, h, _ => by simp only [rdRs] at h
theorem rdRs_of_args {lk : Nat → Option R} {ty : Nat} : ∀ {xs : List Operand} {rs : List R}, LkOK lk γ dead C a w → mapO (evalO E ty lk) xs = some rs → rdRs w γ rs (xs.map a.eval)
  | [], rs, _, h => by simp only [mapO, Option.some.injEq] at h; subst h; simp [rdRs]
  | x :: xs, rs, hl, h => by
    simp only [mapO] at h
    split at h
    · rename_i y hy
      split at h
      · rename_i ys hys
        cases h
        simp only [List.map_cons, rdRs]
        exact ⟨(evalO_sound hl hy).1, rdRs_of_args hl hys⟩
      · cases h
    · cases h
theorem rdRs_of_caps : ∀ {ds : List D} {vs : List Value}, rdL w γ ds vs → rdRs w γ (ds.map R.one) vs
  | [], [], _ => by simp [rdRs]
  | d :: ds, v :: vs, h => by
    simp only [rdL] at h
    simp only [List.map_cons, rdRs, rdR]
    exact ⟨h.1, rdRs_of_caps h.2⟩
  | [], _ :: _, h => by simp only [rdL] at h
  | _ :: _, [], h => by simp only [rdL] at h
theorem rdRs_strip : ∀ {rs : List R} {vs : List Value}, rdRs w γ rs vs → rdRs w γ (rs.map (R.map D.strip)) vs
  | [], [], _ => by simp [rdRs]
  | r :: rs, v :: vs, h => by
    simp only [rdRs] at h
    simp only [List.map_cons, rdRs]
    exact ⟨(rdR_map nameOnly_strip r v).2 h.1, rdRs_strip h.2⟩
  | [], _ :: _, h => by simp only [rdRs] at h
  | _ :: _, [], h => by simp only [rdRs] at h
theorem run_call (hE : EnvOK E) {o : Oper} {c : Call} {x : Operand} {g : Nat} {caps : Array Value} {fn : Func} (hop : o.op = .call c) (hc : c.callee = .value x) (hx : a.eval x = .func (.func g) #[] caps) (hfn : E.P.funcs[g]? = some fn) (hb : fn.body.isSome = true) :
    (execOp a.eval o).run E.P w = .ok (.enter g (c.args.map a.eval ++ caps)) w := by
  have hname := hE.fns g fn hfn hb
  have hname' : ¬ fn.name = "runtime.NumGoroutine" := by simpa using hname
  have hb' : ¬ fn.body = none := fun h => by simp [h] at hb
  simp [execOp, hop, resolve, hc, hx, Deferred.ofValue, invoke, callFunc, hfn, hname', hb']
theorem sem_at {h : Heap} (hh : HeapOK γ h dead C w) {i b : Nat} {cs : List Int} (hi : h[i]? = some [.sem cs]) (hb : γ.bx[i]? = some b) : γ.base ≤ b ∧ SemAt w b cs := by
  rcases hh.box i _ b hi hb with ⟨⟨arr, ty, e1, e2, e3⟩, e4, e5⟩ | ⟨g1, g2, g | ⟨cs', g, g3⟩⟩
  · exfalso
    have e2' : rdL w γ [.sem cs] arr.toList := e2
    cases ha : arr.toList with
    | nil => rw [ha] at e2'; simp only [rdL] at e2'
    | cons v vs => rw [ha] at e2'; simp only [rdL, rdD] at e2'; exact e2'.1
  · cases g
  · cases g
    exact ⟨g1, g3⟩
theorem countOf_some {h : Heap} {i : Nat} {caps : List D} {args : List R} {v : Int} (e : countOf h caps args = some (i, v)) : caps = [] ∧ ∃ (x : Int) (cs : List Int), args = [.one (.ref i 0), .one (.g (.int .i64) x)] ∧ h[i]? = some [.sem cs] ∧ v = countV cs x := by
  unfold countOf at e
  split at e
  · rename_i i' x
    split at e
    · rename_i cs hi
      cases e
      exact ⟨rfl, x, cs, rfl, hi, rfl⟩
    · cases e
  · cases e
theorem q_count {o : Oper} {c : Call} {x : Operand} {g i : Nat} {lk : Nat → Option R} {h : Heap} {y : Int} {cs : List Int} (hE : EnvOK E) (hop : o.op = .call c) (hc : c.callee = .value x) (hf : ∀ b, w.heap.size ≤ b → γ.rd b = none) (hh : HeapOK γ h dead C w)
    (hl : LkOK lk γ dead C a w) (h1 : rdD w γ (.fn g []) (a.eval x)) (ha : mapO (evalO E 0 lk) c.args.toList = some [.one (.ref i 0), .one (.g (.int .i64) y)]) (hm : mem g E.cnts = true) (hi : h[i]? = some [.sem cs]) :
    Quiet E.P o a γ dead C w (.one (.g (.int .i64) (countV cs y))) := by
  intro next Q hn
  simp only [rdD] at h1
  obtain ⟨vs, hv, hcaps⟩ := h1
  obtain ⟨⟨fn, hfn, hb⟩, hcall⟩ := hE.cnts g hm
  have hvs : vs = #[] := by
    cases hvl : vs.toList with
    | nil => exact Array.toList_eq_nil_iff.1 hvl
    | cons u us => rw [hvl] at hcaps; simp only [rdL] at hcaps
  subst hvs
  have hargs := rdRs_of_args hl ha
  obtain ⟨b, hbx, hav⟩ : ∃ b, γ.bx[i]? = some b ∧ c.args.toList.map a.eval = [.pointer (some ⟨b, 0, none⟩), .int .i64 y] := by
    cases hq : c.args.toList.map a.eval with
    | nil => rw [hq] at hargs; simp only [rdRs] at hargs
    | cons u us =>
      cases us with
      | nil => rw [hq] at hargs; simp only [rdRs] at hargs; exact hargs.2.elim
      | cons u2 us =>
        cases us with
        | nil =>
          rw [hq] at hargs
          simp only [rdRs, rdR, rdD, rdT] at hargs
          obtain ⟨⟨b, e1, rfl⟩, rfl, _⟩ := hargs
          exact ⟨b, e1, rfl⟩
        | cons _ _ => rw [hq] at hargs; simp only [rdRs] at hargs; exact hargs.2.2.elim
  have hlt : i < h.length := (List.getElem?_eq_some_iff.1 hi).1
  obtain ⟨_, hs⟩ := sem_at hh hi hbx
  unfold Oper.wp
  rw [run_call hE hop hc hv hfn hb]
  simp only [Oper.upon]
  have e : c.args.map a.eval ++ #[] = #[.pointer (some ⟨b, 0, none⟩), .int .i64 y] := by
    apply Array.ext'
    simp only [Array.toList_append, Array.toList_map, List.append_nil, hav]
  rw [e]
  refine (hcall w b cs y hs).mono fun e w' he => ?_
  obtain ⟨rfl, rfl⟩ := he
  exact hn _ _ _ (Grow.self hf) (by simp only [rdR, rdD, rdT]) (by simp only [tkR, tkD])
theorem q_call {o : Oper} {c : Call} {x : Operand} {g : Nat} {caps : List D} {args : List R} {cp : CallP} {lk : Nat → Option R} {ty : Nat} {r : R} {r' : R} (hE : EnvOK E) (hcp : PureOK E cp) (hop : o.op = .call c) (hc : c.callee = .value x)
    (hf : ∀ b, w.heap.size ≤ b → γ.rd b = none) (hbase : γ.base ≤ w.heap.size) (hbx : ∀ b ∈ γ.bx, b < w.heap.size) (hl : LkOK lk γ dead C a w) (h1 : rdD w γ (.fn g caps) (a.eval x)) (ha : mapO (evalO E ty lk) c.args.toList = some args)
    (hr : cp g ((args ++ caps.map R.one).map (R.map D.strip)) = some r) (hty : ∀ (w : World) (γ : Gh) (v : Value), rdR w γ r v → ownTop γ (dstOf o) r v → rdR w γ r' v ∧ tkR γ dead (dstOf o :: C) r' v) : Quiet E.P o a γ dead C w r' := by
  intro next Q h
  simp only [rdD] at h1
  obtain ⟨vs, hv, hcaps⟩ := h1
  obtain ⟨fn, hfn, hb⟩ := (hcp g _ r hr).1
  unfold Oper.wp
  rw [run_call hE hop hc hv hfn hb]
  simp only [Oper.upon]
  have hargs : rdRs w γ ((args ++ caps.map R.one).map (R.map D.strip)) (c.args.toList.map a.eval ++ vs.toList) := rdRs_strip (rdRs_append (rdRs_of_args hl ha) (rdRs_of_caps hcaps))
  have hcall := (hcp g _ r hr).2 γ w _ (dstOf o) hargs hf hbase hbx
  have e : (c.args.toList.map a.eval ++ vs.toList).toArray = c.args.map a.eval ++ vs := by apply Array.ext'; simp
  rw [e] at hcall
  refine hcall.mono fun e w' ⟨v, γ', he, hg, hr1, ho⟩ => ?_
  subst he
  obtain ⟨q1, q2⟩ := hty w' γ' v hr1 ho
  exact h v γ' w' hg q1 q2
end
end Go.V
namespace Go.V
open Go.RowKit
section
variable {E : Env} {P : Program} {γ : Gh} {dead : List Tok} {C : List Nat} {a : Act} {w : World} {dst : Nat} {st st' : St}
def Goes (P : Program) (o : Oper) (γ : Gh) (st' : St) (C : List Nat) (a : Act) (w : World) : Prop :=
  ∀ (next : Act → World → Prop) (Q : Exit → Act → World → Prop), (∀ v γ' w', Ext γ w γ' w' → Sim γ' st' (addC o.dst C) (a.put o.dst v) w' → next (a.put o.dst v) w') → o.wp P a w next Q
theorem dstOf_some {o : Oper} {t : Nat} (h : o.dst = some t) : dstOf o = t := by simp [dstOf, h]
theorem Goes.quiet {o : Oper} {r : R} (h : Sim γ st C a w) (hC : dstOf o ∉ C) (hq : Quiet P o a γ st.dead C w r) (hp : St.put st o.dst r = some st') : Goes P o γ st' C a w := by
  intro next Q hn
  refine hq next Q fun v γ' w' hg hr ht => ?_
  obtain ⟨h1, h2, h3⟩ := h.grow hC hg
  have hsim : Sim γ' st C a w' := ⟨h.dfr, h.sz, h1, h2, h3, hg.fresh, by rw [hg.base]; exact Nat.le_trans h.base hg.below.size, hg.nb.trans h.nb⟩
  refine hn v γ' w' (hg.ext h.base) ?_
  refine Sim.put (hsim.more (C' := addC o.dst C) fun t ht => ?_) hp fun t ht => ?_
  · cases hd : o.dst with
    | none => exact ht
    | some u => exact List.mem_cons_of_mem _ ht
  · rename_i hte
    have e := dstOf_some ht
    rw [ht]
    simp only [addC]
    exact ⟨hr, by rw [← e]; exact hte⟩
theorem scalar_one {v : Value} (h : Value.scalar v) : v.oneCell' = true := by cases v <;> first | rfl | exact h.elim
def Gh.box (γ : Gh) (dst b : Nat) : Gh := { γ.drop dst with bx := γ.bx ++ [b], rd := fun i => if i = b then some 0 else γ.rd i }
theorem Goes.pushO {o : Oper} {ds : List D} {ob : Obj} {r : R} {v : Value} (h : Sim γ st C a w) (hC : dstOf o ∉ C) (hrun : (execOp a.eval o).run P w = .ok (.value v) (w.alloc ob))
    (hbox : ∀ γ' : Gh, Sees γ w γ' (w.alloc ob) → (∀ (i b : Nat), γ.bx[i]? = some b → γ'.bx[i]? = some b) → γ'.rd w.heap.size = some 0 → γ'.base = γ.base → BoxOK γ' st.dead C (w.alloc ob) w.heap.size ds)
    (hval : ∀ γ' : Gh, γ'.bx[st.heap.length]? = some w.heap.size → rdR (w.alloc ob) γ' r v ∧ ∀ C', tkR γ' st.dead C' r v) (hp : St.put { st with heap := st.heap ++ [ds] } o.dst r = some st') : Goes P o γ st' C a w := by
  intro next Q hn
  unfold Oper.wp
  rw [hrun]
  simp only [Oper.upon]
  have hsees : Sees γ w (γ.box (dstOf o) w.heap.size) (w.alloc ob) := ⟨fun b i u h1 h2 => by
    have hlt := cell_lt h2
    refine ⟨by rw [World.cell?_alloc_lt _ _ _ hlt]; exact h2, (may_congr ?_).2 h1⟩
    simp only [Gh.box]
    rw [if_neg (by omega)]⟩
  have hbx : ∀ (i b : Nat), γ.bx[i]? = some b → (γ.box (dstOf o) w.heap.size).bx[i]? = some b := fun i b hi => by
    have hlt := (List.getElem?_eq_some_iff.1 hi).1
    simp only [Gh.box]
    rw [List.getElem?_append_left hlt]
    exact hi
  have hext : Ext γ w (γ.box (dstOf o) w.heap.size) (w.alloc ob) :=
    ⟨fun i b _ q => hbx i b q, rfl, by simp, hsees.cells, (Below.refl _ _).alloc h.base _, fun b hb => by have := h.base; simp only [Gh.box]; rw [if_neg (by omega)], rfl⟩
  have hnew : ∀ k, (∀ t, k = .s t → t ∈ C) → (γ.box (dstOf o) w.heap.size).ow k = γ.ow k := fun k hk => by
    have : k ≠ .s (dstOf o) := fun e => hC (hk _ e)
    simp [Gh.box, Gh.drop, this]
  have holdlt := h.heap.lt
  have hsim : Sim (γ.box (dstOf o) w.heap.size) { st with heap := st.heap ++ [ds] } C a (w.alloc ob) := by
    refine ⟨h.dfr, h.sz, fun s r hr => ?_, ⟨?_, fun i es b' hi hb => ?_, ?_⟩, ⟨fun k hd hk => ?_, fun k k' hd hd' hk hk' hne => ?_⟩, fun b hb => ?_, ?_, h.nb⟩
    · obtain ⟨h1, h2⟩ := h.regs s r hr
      exact ⟨rdR_mono hsees hbx r _ h1, tkR_mono (fun _ x => x) (fun _ x => x) (fun k hk _ => .inr (hnew k hk)) r _ h2⟩
    · simp [Gh.box, h.heap.len]
    · by_cases hlt : i < st.heap.length
      · rw [List.getElem?_append_left hlt] at hi
        have hlt' : i < γ.bx.length := by rw [← h.heap.len]; exact hlt
        simp only [Gh.box] at hb
        rw [List.getElem?_append_left hlt'] at hb
        rcases h.heap.box i es b' hi hb with ⟨⟨arr, ty', e1, e2, e3⟩, e4, e5⟩ | g
        case inr => exact .inr (g.keep (Nat.le_refl _) (by simp) fun _ _ ho _ => (Below.heap_alloc _ _ _ (heap_lt_of ho)).trans ho)
        have hl := heap_lt_of e1
        refine .inl ⟨⟨arr, ty', (Below.heap_alloc _ _ _ hl).trans e1, rdL_mono hsees hbx _ _ e2, tkL_mono (fun _ x => x) (fun _ x => x) (fun k hk _ => .inr (hnew k hk)) e3⟩, ?_, e5⟩
        simp only [Gh.box]
        rw [if_neg (by omega)]
        exact e4
      · have hi' : i = st.heap.length := by
          have := (List.getElem?_eq_some_iff.1 hi).1
          simp at this
          omega
        subst hi'
        simp at hi
        subst hi
        simp only [Gh.box] at hb
        rw [h.heap.len] at hb
        simp at hb
        subst hb
        exact hbox _ hsees hbx (by simp [Gh.box]) rfl
    · simp only [Gh.box]
      refine List.nodup_append.2 ⟨h.heap.nodup, by simp, fun x hx y hy => ?_⟩
      simp at hy
      subst hy
      obtain ⟨i, hi, he⟩ := List.mem_iff_getElem.1 hx
      have := holdlt i x (by rw [List.getElem?_eq_getElem hi]; exact congrArg some he)
      omega
    · simp only [Gh.box, Gh.drop] at hk
      split at hk
      · cases hk
      · have ho := h.own.own k hd hk
        refine ⟨ho.1, fun hc => ?_⟩
        obtain ⟨b1, arr, ty', q1, q2, q3, q4, q5, q6⟩ := ho.2 hc
        have hl := heap_lt_of q2
        refine ⟨b1, arr, ty', q1, (Below.heap_alloc _ _ _ hl).trans q2, q3, ?_, q5, ?_⟩
        · simp only [Gh.box]
          rw [if_neg (by omega)]
          exact q4
        · simp only [Gh.box, List.mem_append, List.mem_singleton]
          intro hm
          rcases hm with hm | hm
          · exact q6 hm
          · omega
    · simp only [Gh.box, Gh.drop] at hk hk'
      split at hk
      · cases hk
      · split at hk'
        · cases hk'
        · exact h.own.inj k k' hd hd' hk hk' hne
    · simp at hb
      simp only [Gh.box]
      rw [if_neg (by omega)]
      exact h.fresh b (by omega)
    · have := h.base
      simp only [Gh.box, Gh.drop, World.size_alloc]
      omega
  refine hn _ _ _ hext (Sim.put (hsim.more (C' := addC o.dst C) fun t ht => ?_) hp fun t ht => ?_)
  · cases hdd : o.dst with
    | none => exact ht
    | some u => exact List.mem_cons_of_mem _ ht
  · have := hval (γ.box (dstOf o) w.heap.size) (by simp only [Gh.box]; rw [h.heap.len]; simp)
    exact ⟨this.1, this.2 _⟩
theorem tkL_strips {γ : Gh} {dead : List Tok} {C : List Nat} : ∀ (l : List D) (u : List Value), tkL γ dead C (l.map D.strip) u
  | [], u => by simp [tkL]
  | d :: l, [] => by simp [tkL]
  | d :: l, v :: u => by simp only [List.map_cons, tkL]; exact ⟨tkD_strip d v, tkL_strips l u⟩
theorem Goes.push {o : Oper} {ds : List D} {vs : Array Value} {ty : Nat} (h : Sim γ st C a w) (hC : dstOf o ∉ C) (hrun : (execOp a.eval o).run P w = .ok (.value (.pointer (some ⟨w.heap.size, 0, none⟩))) (w.alloc (.cells vs ty)))
    (hd : rdL w γ ds vs.toList) (hs : ds.map D.strip = ds) (hp : St.put { st with heap := st.heap ++ [ds] } o.dst (.one (.ref st.heap.length 0)) = some st') : Goes P o γ st' C a w :=
  Goes.pushO h hC hrun (fun γ' hsees hbx hrd hb => .inl ⟨⟨vs, ty, heap_alloc_new w _, by rw [expand_of hd, cutV_rd hd]; exact rdL_mono hsees hbx _ _ hd, by
    rw [expand_of hd, cutV_rd hd, ← hs]
    exact tkL_strips ds vs.toList⟩, hrd, hb ▸ h.base⟩) (fun γ' hb => ⟨by simp only [rdR, rdD]; exact ⟨w.heap.size, hb, rfl⟩, fun C' => by simp [tkR, tkD]⟩) hp
theorem tkL_get : ∀ {ds : List D} {vs : List Value} {i : Nat} {d : D} {v : Value}, tkL γ dead C ds vs → ds[i]? = some d → vs[i]? = some v → tkD γ dead C d v
  | d :: ds, v :: vs, 0, q, u, h, hi, hv => by
    simp only [tkL] at h
    simp at hi hv
    exact hi ▸ hv ▸ h.1
  | d :: ds, v :: vs, i + 1, q, u, h, hi, hv => by
    simp only [tkL] at h
    exact tkL_get h.2 (by simpa using hi) (by simpa using hv)
  | [], _, _, _, _, _, hi, _ => by simp at hi
  | _ :: _, [], _, _, _, _, _, hv => by simp at hv
theorem tkL_of_get : ∀ {ds : List D} {vs : List Value}, (∀ (i : Nat) d v, ds[i]? = some d → vs[i]? = some v → tkD γ dead C d v) → tkL γ dead C ds vs
  | [], _, _ => by simp only [tkL]
  | _ :: _, [], _ => by simp only [tkL]
  | d :: ds, v :: vs, h => by
    simp only [tkL]
    exact ⟨h 0 d v rfl rfl, tkL_of_get fun i x y hx hy => h (i + 1) x y (by simpa using hx) (by simpa using hy)⟩
theorem setAt_spec : ∀ {h : Heap} {i : Nat} {ds : List D}, (setAt h i ds).length = h.length ∧ ∀ j : Nat, (setAt h i ds)[j]? = if j = i ∧ i < h.length then some ds else h[j]?
  | [], i, ds => by cases i <;> simp [setAt]
  | x :: h, 0, ds => by
    refine ⟨rfl, fun j => ?_⟩
    cases j <;> simp [setAt]
  | x :: h, i + 1, ds => by
    obtain ⟨h1, h2⟩ := setAt_spec (h := h) (i := i) (ds := ds)
    refine ⟨by simp [setAt, h1], fun j => ?_⟩
    cases j with
    | zero => simp [setAt]
    | succ j => simp [setAt, h2 j]
theorem nodup_inj {l : List Nat} {i j x : Nat} (h : l.Nodup) (hi : l[i]? = some x) (hj : l[j]? = some x) : i = j := by
  have h' : l.Pairwise (· ≠ ·) := h
  rw [List.pairwise_iff_getElem] at h'
  obtain ⟨a1, a2⟩ := List.getElem?_eq_some_iff.1 hi
  obtain ⟨b1, b2⟩ := List.getElem?_eq_some_iff.1 hj
  rcases Nat.lt_trichotomy i j with h1 | h1 | h1
  · exact absurd (a2.trans b2.symm) (h' i j a1 b1 h1)
  · exact h1
  · exact absurd (b2.trans a2.symm) (h' j i b1 a1 h1)
theorem put_get {α : Type} {l vs : List α} {o : Nat} (h : o + vs.length ≤ l.length) (p : Nat) : (l.take o ++ vs ++ l.drop (o + vs.length))[p]? = if o ≤ p ∧ p < o + vs.length then vs[p - o]? else l[p]? := by
  have h1 : (l.take o).length = o := by simp; omega
  by_cases hp : p < o
  · rw [if_neg (by omega), List.append_assoc, List.getElem?_append_left (by omega), List.getElem?_take, if_pos hp]
  · by_cases hp2 : p < o + vs.length
    · rw [if_pos (by omega), List.append_assoc, List.getElem?_append_right (by omega), h1, List.getElem?_append_left (by omega)]
    · rw [if_neg (by omega), List.getElem?_append_right (by simp; omega), List.getElem?_drop]
      congr 1
      simp
      omega
theorem cellsD_sound {r : R} {v : Value} (hl : r.lays = true) (h : rdR w γ r v) (ht : tkR γ dead C r v) : rdL w γ r.cellsD v.cells.toList ∧ tkL γ dead C r.cellsD v.cells.toList := by
  cases r <;> simp only [R.lays, reduceCtorEq] at hl
  case one d =>
    simp only [rdR] at h
    simp only [tkR] at ht
    have hs := rdD_scalar h
    have : v.cells = #[v] := by cases v <;> first | rfl | exact hs.elim
    rw [this]
    simp only [R.cellsD, rdL, tkL]
    exact ⟨⟨h, trivial⟩, ht, trivial⟩
  case agg ds =>
    refine ⟨leaves_sound rfl h, ?_⟩
    refine tkL_of_get fun i d u hd _ => ?_
    simp only [R.cellsD, R.leaves, List.getElem?_map, Option.map_eq_some_iff] at hd
    obtain ⟨d', _, rfl⟩ := hd
    exact tkD_strip d' u
theorem Goes.storeO {o : Oper} {t bi off b : Nat} {x v : Operand} {c' : List D} {arr : Array Value} {bty : Nat} {info : TypeInfo} (h : Sim γ st C a w) (hop : o.op = .store t x v) (hinfo : E.P.info? t = some info) (hxv : a.eval x = .pointer (some ⟨b, off, none⟩))
    (hb : γ.bx[bi]? = some b) (e1 : w.heap[b]? = some (.cells arr bty (0, 0))) (e4 : γ.rd b = some 0) (e5 : γ.base ≤ b) (hcs : (a.eval v).cells.size = info.size) (hfit : off + (a.eval v).cells.toList.length ≤ arr.toList.length) (hone : ∀ u ∈ (a.eval v).cells.toList, u.oneCell' = true)
    (hnewc : ∀ w' : World, Sees γ w γ w' → rdL w' γ (expand c') (cutV c' (arr.toList.take off ++ (a.eval v).cells.toList ++ arr.toList.drop (off + (a.eval v).cells.toList.length))) ∧ tkL γ st.dead C (expand c') (cutV c' (arr.toList.take off ++ (a.eval v).cells.toList ++ arr.toList.drop (off + (a.eval v).cells.toList.length))))
    (hp : St.put { st with heap := setAt st.heap bi c' } o.dst .undef = some st') : Goes E.P o γ st' C a w := by
  intro next Q hn'
  have hst := run_storeCells_at E.P b off bty (a.eval v).cells.toList 0 arr w e1 (by simpa using hfit) hone
  simp only [Nat.add_zero] at hst
  unfold Oper.wp
  have hrun : (execOp a.eval o).run E.P w = .ok .skip (w.setRow b (arr.toList.take off ++ (a.eval v).cells.toList ++ arr.toList.drop (off + (a.eval v).cells.toList.length)).toArray) := by
    simp [execOp, hop, hxv, Instr.storeAt, Instr.sureAddr, storeVar, sizeOf, typeInfo, hinfo, hcs, hst]
  rw [hrun]
  simp only [Oper.upon]
  generalize hnew : (arr.toList.take off ++ (a.eval v).cells.toList ++ arr.toList.drop (off + (a.eval v).cells.toList.length)) = newl at hnewc
  have hsees : Sees γ w γ (w.setRow b newl.toArray) := ⟨fun b' i u q1 q2 => by
    have hne : b' ≠ b := fun e => by
      subst e
      simp [Gh.may, e4] at q1
    exact ⟨(cell_block (setRow_other w b b' _ hne)).trans q2, q1⟩⟩
  have hext : Ext γ w γ (w.setRow b newl.toArray) :=
    ⟨fun _ _ _ q => q, rfl, by simp, hsees.cells, ⟨rfl, rfl, rfl, by simp, fun k hk => setRow_other w b k _ (by omega)⟩, fun _ _ => rfl, rfl⟩
  obtain ⟨s1, s2⟩ := setAt_spec (h := st.heap) (i := bi) (ds := c')
  have hbi : bi < st.heap.length := by rw [h.heap.len]; exact (List.getElem?_eq_some_iff.1 hb).1
  have hsim : Sim γ { st with heap := setAt st.heap bi c' } C a (w.setRow b newl.toArray) := by
    refine ⟨h.dfr, h.sz, fun s q hq => ?_, ⟨by rw [s1]; exact h.heap.len, fun i es b' hi hb' => ?_, h.heap.nodup⟩, ⟨fun k hd hk => ?_, h.own.inj⟩, fun b' hb' => h.fresh b' (by simpa using hb'), by simpa using h.base, h.nb⟩
    · obtain ⟨q1, q2⟩ := h.regs s q hq
      exact ⟨rdR_mono hsees (fun _ _ x => x) q _ q1, q2⟩
    · rw [s2 i] at hi
      by_cases hib : i = bi
      · subst hib
        rw [if_pos ⟨rfl, hbi⟩] at hi
        cases hi
        rw [hb] at hb'
        cases hb'
        obtain ⟨n1, n2⟩ := hnewc _ hsees
        exact .inl ⟨⟨newl.toArray, bty, setRow_heap w b arr _ bty _ e1, by simpa using n1, by simpa using n2⟩, e4, e5⟩
      · rw [if_neg (by omega)] at hi
        have hne : b' ≠ b := fun e => by
          subst e
          exact hib (nodup_inj h.heap.nodup hb' hb)
        rcases h.heap.box i es b' hi hb' with ⟨⟨arr', ty', g1, g2, g3⟩, g4, g5⟩ | g
        case inr => exact .inr (g.keep (Nat.le_refl _) (by simp) fun b2 _ ho hc => (setRow_other w b b2 _ (by
          rcases hc with hc | hc
          · rw [hc]; exact hne
          · intro e; rw [e, e1] at ho; cases ho; exact hc _ _ _ rfl)).trans ho)
        exact .inl ⟨⟨arr', ty', (setRow_other w b b' _ hne).trans g1, rdL_mono hsees (fun _ _ x => x) _ _ g2, g3⟩, g4, g5⟩
    · refine (h.own.own k hd hk).keep rfl rfl fun b' hc' hA _ => ?_
      obtain ⟨b2, arr2, ty2, g1, g2, _, _, _, g6⟩ := (h.own.own k hd hk).2 hc'
      have hb2 : b2 = b' := by rw [g1] at hA; simpa using hA
      have hne : b' ≠ b := fun e => by
        subst e
        subst hb2
        exact g6 (List.mem_of_getElem? hb)
      exact ⟨setRow_other w b b' _ hne, rfl⟩
  refine hn' _ _ _ hext (Sim.put (hsim.more (C' := addC o.dst C) fun t ht => ?_) hp fun t ht => ?_)
  · cases hdd : o.dst with
    | none => exact ht
    | some u => exact List.mem_cons_of_mem _ ht
  · exact ⟨by simp only [rdR], by simp only [tkR]⟩
theorem storeV_sound {f t : Nat} {v : Operand} {r : R} (hl : LkOK (look st.regs) γ dead C a w) (h : storeV E f t (look st.regs) v = some r) : rdR w γ r (a.eval v) ∧ tkR γ dead C r (a.eval v) := by
  unfold storeV at h
  cases hb : (mem 1000001 ((look E.nils f).getD []) && isNilC v) with
  | false => rw [hb] at h; exact evalO_sound hl h
  | true =>
    rw [hb] at h
    simp only [Bool.and_eq_true] at hb
    simp only [cond_true] at h
    split at h
    · cases h
      have : v = .const (.slice none 0 0) := by
        have := hb.2
        unfold isNilC at this
        split at this
        · rfl
        · cases this
      subst this
      exact ⟨by simp only [rdR, rdD]; rfl, by simp only [tkR, tkD]⟩
    · cases h
theorem Goes.store {o : Oper} {t bi off : Nat} {ti : TI} {x v : Operand} {r : R} {c c' : List D} {ty : Nat} (hE : EnvOK E) (h : Sim γ st C a w) (hop : o.op = .store t x v) (ht : E.ti t = some ti) (hn : ∀ ts, ti.d ≠ .tup ts)
    (hx : evalO E ty (look st.regs) x = some (.one (.ref bi off))) (hv : rdR w γ r (a.eval v) ∧ tkR γ st.dead C r (a.eval v)) (hl : r.lays = true) (hsz : r.cellsD.length = ti.size) (hc : st.heap[bi]? = some c) (hpl : plainB c = true) (hput : putAt c off r.cellsD = some c')
    (hp : St.put { st with heap := setAt st.heap bi c' } o.dst .undef = some st') (hpos : r.cellsD ≠ []) : Goes E.P o γ st' C a w := by
  have hlk : LkOK (look st.regs) γ st.dead C a w := h.regs
  have h1 := evalO_one hlk hx
  simp only [rdD] at h1
  obtain ⟨b, hb, hxv⟩ := h1
  obtain ⟨hv1, hv2⟩ := hv
  obtain ⟨hr, htk⟩ := cellsD_sound hl hv1 hv2
  obtain ⟨info, hinfo, hisz, _⟩ := (hE.ti _ _ ht).info hn
  obtain ⟨p1, p2, p3⟩ := putAt_spec hput
  rcases h.heap.box bi c b hc hb with ⟨⟨arr, bty, e1, e2, e3⟩, e4, e5⟩ | g
  case inr =>
    have g1 := g.plain hpl
    have q := p2 hpos
    rw [g1] at q
    have q2 := List.length_pos_iff.2 hpos
    simp only [List.length_nil] at q
    omega
  rw [plain_expand hpl, cutV_plain hpl] at e2 e3
  have hlen1 := rdL_length hr
  have hlen2 := rdL_length e2
  have hfit : off + (a.eval v).cells.toList.length ≤ arr.toList.length := by have := p2 hpos; omega
  have hone : ∀ u ∈ (a.eval v).cells.toList, u.oneCell' = true := fun u hu => scalar_one (rdL_scalar hr u hu)
  have hcs : (a.eval v).cells.size = info.size := by
    have : (a.eval v).cells.toList.length = info.size := by rw [← hlen1, hsz, hisz]
    simpa using this
  refine Goes.storeO h hop hinfo hxv hb e1 e4 e5 hcs hfit hone (fun w' hsees => ?_) hp
  generalize hnew : (arr.toList.take off ++ (a.eval v).cells.toList ++ arr.toList.drop (off + (a.eval v).cells.toList.length)) = newl
  have hget : ∀ p : Nat, newl[p]? = if off ≤ p ∧ p < off + (a.eval v).cells.toList.length then (a.eval v).cells.toList[p - off]? else arr.toList[p]? := fun p => by rw [← hnew]; exact put_get hfit p
  have hnewc : rdL w' γ c' newl := by
    refine rdL_of_get ?_ fun p d u hd hu => ?_
    · rw [p1, hlen2, ← hnew]
      simp
      simp at hfit
      omega
    · rw [hget p] at hu
      rw [p3 p] at hd
      by_cases hpp : off ≤ p ∧ p < off + (a.eval v).cells.toList.length
      · rw [if_pos hpp] at hu
        rw [if_pos (by omega)] at hd
        obtain ⟨u1, g1, g2⟩ := rdL_get hr hd
        rw [g1] at hu
        cases hu
        exact rdD_mono hsees (fun _ _ x => x) d _ g2
      · rw [if_neg hpp] at hu
        rw [if_neg (by omega)] at hd
        obtain ⟨u1, g1, g2⟩ := rdL_get e2 hd
        rw [g1] at hu
        cases hu
        exact rdD_mono hsees (fun _ _ x => x) d _ g2
  rw [expand_of hnewc, cutV_rd hnewc]
  refine ⟨hnewc, tkL_of_get fun p d u hd hu => ?_⟩
  rw [hget p] at hu
  rw [p3 p] at hd
  by_cases hpp : off ≤ p ∧ p < off + (a.eval v).cells.toList.length
  · rw [if_pos hpp] at hu
    rw [if_pos (by omega)] at hd
    exact tkL_get htk hd hu
  · rw [if_neg hpp] at hu
    rw [if_neg (by omega)] at hd
    exact tkL_get e3 hd hu
theorem vec_box {hp : Heap} {dead : List Tok} {i b : Nat} {t : T} {xs : List t.den} (hh : HeapOK γ hp dead C w) (hi : hp[i]? = some [.vec t xs]) (hb : γ.bx[i]? = some b) :
    ∃ arr ty, w.heap[b]? = some (.cells arr ty (0, 0)) ∧ rdL w γ (xs.map (.g t)) (arr.toList.take xs.length) ∧ γ.rd b = some 0 ∧ γ.base ≤ b := by
  rcases hh.box i _ b hi hb with ⟨⟨arr, ty, e1, e2, e3⟩, e4, e5⟩ | ⟨_, _, g | ⟨_, g, _⟩⟩
  · exact ⟨arr, ty, e1, e2, e4, e5⟩
  · cases g
  · simp at g
theorem vec_get {t : T} {xs : List t.den} {l : List Value} (h : rdL w γ (xs.map (.g t)) (l.take xs.length)) {j : Nat} (hj : j < xs.length) : xs.length ≤ l.length ∧ ∃ u, l[j]? = some u ∧ rdT w γ t (xs.getD j t.dflt) u := by
  have hl := rdL_length h
  simp only [List.length_map, List.length_take] at hl
  have hd : (xs.map (D.g t))[j]? = some (.g t (xs.getD j t.dflt)) := by
    rw [List.getElem?_map, List.getD_eq_getElem?_getD, List.getElem?_eq_getElem hj]; rfl
  obtain ⟨u, h1, h2⟩ := rdL_get h hd
  rw [List.getElem?_take, if_pos hj] at h1
  exact ⟨by omega, u, h1, by simpa only [rdD] using h2⟩
theorem Goes.makeVec {o : Oper} {t et : Nat} {ti te : TI} {l c : Operand} {vt : T} {z : vt.den} {ty1 ty2 : Nat} {k1 k2 : IntKind} {n : Int} (hE : EnvOK E) (h : Sim γ st C a w) (hC : dstOf o ∉ C) (hop : o.op = .makeSlice t l c)
    (hs : slOK E t (.one vt) = true) (ht : E.ti t = some ti) (hd : ti.d = .slice et) (hte : E.ti et = some te) (hz : unleaves (.one vt) te.zero = some z)
    (h1 : evalO E ty1 (look st.regs) l = some (.one (.g (.int k1) n))) (h2 : evalO E ty2 (look st.regs) c = some (.one (.g (.int k2) n))) (h0 : 0 ≤ n) (hm : n ≤ (maxL : Int))
    (hp : St.put { st with heap := st.heap ++ [[.vec vt (List.replicate n.toNat z)]] } o.dst (.one (.vref st.heap.length n.toNat)) = some st') : Goes E.P o γ st' C a w := by
  have hl : LkOK (look st.regs) γ st.dead C a w := h.regs
  have hds := (hE.ti _ _ ht).desc
  rw [hd] at hds
  simp only at hds
  obtain ⟨hu, hnt⟩ := hds
  obtain ⟨info, hinfo, hsz, hby, zv, hzv, hzs, hrd, _⟩ := (hE.ti _ _ hte).info (hnt te hte)
  obtain ⟨et2, i2, hu2, hinfo2, hisz2, _⟩ := slOK_spec hE hs
  rw [hu] at hu2
  cases hu2
  rw [hinfo] at hinfo2
  cases hinfo2
  have hone : info.size = 1 := hisz2
  have hM : (maxL : Int) = 2147483648 := rfl
  have hrun := run_make (P := E.P) w t et info zv hu hinfo hzv k1 k2 n n h0 (Int.le_refl _) (by
    have a1 : (info.bytes : Int) * n ≤ 65536 * 2147483648 := Int.mul_le_mul (by omega) (by omega) (by omega) (by omega)
    omega) (by omega)
  have hcs : (madeCells zv.cells (n.toNat * info.size)).size = n.toNat := by rw [size_madeCells, hone, Nat.mul_one]
  have hzz := unleaves_spec hz
  have hz1 : te.zero.map D.strip = [.g vt z] := by rw [← hzz]; rfl
  have hzl : te.zero.length = 1 := by have := congrArg List.length hz1; simpa using this
  refine Goes.pushO h hC (ob := .cells (madeCells zv.cells (n.toNat * info.size)) et) (v := .slice (some ⟨w.heap.size, 0, none⟩) n.toNat n.toNat) (by simp [execOp, hop, evalO_int hl h1, evalO_int hl h2, hrun]) (fun γ' hsees hbx hrd2 hb => .inl ⟨⟨_, et, heap_alloc_new w _, ?_, ?_⟩, hrd2, hb ▸ h.base⟩)
    (fun γ' hb => ⟨by simp only [rdR, rdD]; exact ⟨w.heap.size, n.toNat, hb, rfl, Nat.le_refl _⟩, fun C' => by simp [tkR, tkD]⟩) hp
  · show rdL _ _ ((List.replicate n.toNat z).map (D.g vt)) (List.take (List.replicate n.toNat z).length _)
    refine rdL_of_get (by simp [hcs]) fun i d v hd hv => ?_
    rw [List.getElem?_take] at hv
    split at hv
    case isFalse => cases hv
    have hin : i < n.toNat := by
      have := (List.getElem?_eq_some_iff.1 hd).1
      simpa using this
    have hde : d = .g vt z := by
      rw [List.getElem?_map, List.getElem?_replicate, if_pos hin] at hd
      exact (Option.some.inj hd).symm
    subst hde
    have hrz := (rdL_map nameOnly_strip).2 (hrd w γ)
    rw [hz1] at hrz
    obtain ⟨v0, hv1, hv2⟩ := rdL_get (i := 0) hrz rfl
    have hv3 : zv.cells[0]! = v0 := by
      have : zv.cells[0]? = some v0 := by simpa using hv1
      have hlt : 0 < zv.cells.size := (Array.getElem?_eq_some_iff.1 this).1
      have h4 := Array.getElem?_eq_getElem hlt
      rw [h4] at this
      simp only [getElem!_def, h4]
      exact Option.some.inj this
    have hmod : i % zv.cells.size = 0 := by rw [hzs, ← hsz, hone]; exact Nat.mod_one i
    have hin2 : i < n.toNat * info.size := by rw [hone]; omega
    have : v = v0 := by
      simp [madeCells, hin2, hmod] at hv
      rw [← hv3, ← hv]
    subst this
    exact rdD_mono hsees hbx _ _ hv2
  · show tkL _ _ _ ((List.replicate n.toNat z).map (D.g vt)) _
    exact tkL_of_get fun i d v hd _ => by
      rw [List.getElem?_map] at hd
      obtain ⟨y, _, rfl⟩ := Option.map_eq_some_iff.1 hd
      simp [tkD]
theorem q_indexVec {o : Oper} {t b n : Nat} {x i : Operand} {vt : T} {k : IntKind} {j : Int} (hE : EnvOK E) (hop : o.op = .indexAddr t x i) (hf : ∀ b, w.heap.size ≤ b → γ.rd b = none)
    (hs : slOK E t (.one vt) = true) (hd : rdD w γ (.vref b n) (a.eval x)) (hi : a.eval i = .int k j) (h0 : 0 ≤ j) (h1 : j < n) : Quiet E.P o a γ dead C w (.one (.vat b j.toNat)) := by
  obtain ⟨et, info, hu, hinfo, hsz, _⟩ := slOK_spec hE hs
  simp only [rdD] at hd
  obtain ⟨bb, c, hb, hv, hc⟩ := hd
  have e1 : (sizeOf et).run E.P w = .ok 1 w := by simp [sizeOf, typeInfo, hinfo, hsz, Ts.size]
  refine q_plain (v := .pointer (some ⟨bb, j.toNat, none⟩)) hf ?_ ?_ rfl
  · simp [execOp, hop, hv, hi, Instr.indexAt, asIntOf, run_underlying hu, h0, h1, e1, add_none]
  · simp only [rdD]
    exact ⟨bb, hb, rfl⟩
theorem q_loadVat {o : Oper} {t i j : Nat} {ti : TI} {x : Operand} {vt : T} {xs : List vt.den} {hp : Heap} (hE : EnvOK E) (hop : o.op = .load t x) (hf : ∀ b, w.heap.size ≤ b → γ.rd b = none) (_ : dstOf o ∉ C) (ht : E.ti t = some ti) (hn : ∀ ts, ti.d ≠ .tup ts)
    (hh : HeapOK γ hp dead C w) (hd : rdD w γ (.vat i j) (a.eval x)) (hi : hp[i]? = some [.vec vt xs]) (hj : j < xs.length) (hsz : ti.size = 1) (hag : ti.agg = false) : Quiet E.P o a γ dead C w (.one (.g vt (xs.getD j vt.dflt))) := by
  simp only [rdD] at hd
  obtain ⟨b, hb, hv⟩ := hd
  obtain ⟨arr, ty, e1, e2, e4, e5⟩ := vec_box hh hi hb
  obtain ⟨hlen, u, hu, hut⟩ := vec_get e2 hj
  obtain ⟨v, hrun, hrr, hone⟩ := run_load (w := w) (γ := γ) hE ht hn (b := b) (o := j) (vs := [u]) (ds := [.g vt (xs.getD j vt.dflt)]) (r := .one (.g vt (xs.getD j vt.dflt))) (by simp [hsz]) (fun m v hm => by
      cases m with
      | zero =>
        simp at hm
        subst hm
        simp only [World.cell?, e1]
        simpa using hu
      | succ m => simp at hm) (by simp only [rdL, rdD]; exact ⟨hut, trivial⟩) (by rw [hag]; rfl)
  refine .here hf (v := v) (by simp [execOp, hop, hv, Instr.loadAt, Instr.sureAddr, hrun]) hrr ?_
  simp [tkR, tkD]
theorem Goes.storeVat {o : Oper} {t bi j : Nat} {ti : TI} {x v : Operand} {d : D} {vt : T} {xs : List vt.den} {y : vt.den} {ty : Nat} (hE : EnvOK E) (h : Sim γ st C a w) (hop : o.op = .store t x v) (ht : E.ti t = some ti) (hn : ∀ ts, ti.d ≠ .tup ts)
    (hx : evalO E ty (look st.regs) x = some (.one (.vat bi j))) (hv : rdR w γ (.one d) (a.eval v)) (hsz : ti.size = 1) (hc : st.heap[bi]? = some [.vec vt xs]) (hj : j < xs.length) (hy : unLeaf vt d.strip = some y)
    (hp : St.put { st with heap := setAt st.heap bi [.vec vt (xs.set j y)] } o.dst .undef = some st') : Goes E.P o γ st' C a w := by
  have hlk : LkOK (look st.regs) γ st.dead C a w := h.regs
  have h1 := evalO_one hlk hx
  simp only [rdD] at h1
  obtain ⟨b, hb, hxv⟩ := h1
  have hd := rdD_strip.2 (show rdD w γ d (a.eval v) by simpa only [rdR] using hv)
  have hds : d.strip = .g vt y := by
    have := unleaves_spec (e := .one vt) (ds := [d.strip]) (x := y) (by simpa only [unleaves] using hy)
    simpa [Ts.leaves] using this.symm
  rw [hds] at hd
  obtain ⟨info, hinfo, hisz, _⟩ := (hE.ti _ _ ht).info hn
  obtain ⟨arr, bty, e1, e2, e4, e5⟩ := vec_box h.heap hc hb
  have hlen : xs.length ≤ arr.toList.length := (vec_get e2 hj).1
  have hs := rdD_scalar hd
  have hcells : (a.eval v).cells = #[a.eval v] := by cases hq : a.eval v <;> first | rfl | (rw [hq] at hs; exact hs.elim)
  refine Goes.storeO (off := j) (c' := [.vec vt (xs.set j y)]) h hop hinfo hxv hb e1 e4 e5 (by rw [hcells, hisz, hsz]; rfl) (by rw [hcells]; simp at hlen ⊢; omega) (fun u hu => by rw [hcells] at hu; simp at hu; subst hu; exact scalar_one hs) (fun w' hsees => ?_) hp
  rw [hcells]
  generalize hnew : (arr.toList.take j ++ #[a.eval v].toList ++ arr.toList.drop (j + #[a.eval v].toList.length)) = newl
  have hget : ∀ p : Nat, newl[p]? = if j ≤ p ∧ p < j + #[a.eval v].toList.length then #[a.eval v].toList[p - j]? else arr.toList[p]? := fun p => by rw [← hnew]; exact put_get (by simp at hlen ⊢; omega) p
  have hll : xs.length ≤ newl.length := by rw [← hnew]; simp; simp at hlen; omega
  refine ⟨?_, ?_⟩
  · show rdL w' γ ((xs.set j y).map (D.g vt)) (newl.take (xs.set j y).length)
    refine rdL_of_get (by simp [hll]) fun p dd u hdd hu => ?_
    rw [List.getElem?_take] at hu
    split at hu
    case isFalse => cases hu
    rename_i hpn
    simp only [List.length_set] at hpn
    rw [hget p] at hu
    rw [List.getElem?_map, List.getElem?_set] at hdd
    by_cases hpj : p = j
    · subst hpj
      rw [if_pos (by simp)] at hu
      rw [if_pos rfl, if_pos hj] at hdd
      simp at hu hdd
      subst hu hdd
      exact rdD_mono hsees (fun _ _ x => x) _ _ hd
    · rw [if_neg (by simp; omega)] at hu
      rw [if_neg (by omega)] at hdd
      have hdd' : (xs.map (D.g vt))[p]? = some dd := by rw [List.getElem?_map]; exact hdd
      obtain ⟨u1, g1, g2⟩ := rdL_get e2 hdd'
      rw [List.getElem?_take, if_pos hpn] at g1
      rw [g1] at hu
      cases hu
      exact rdD_mono hsees (fun _ _ x => x) _ _ g2
  · show tkL _ _ _ ((xs.set j y).map (D.g vt)) _
    exact tkL_of_get fun i d v hd _ => by
      rw [List.getElem?_map] at hd
      obtain ⟨y, _, rfl⟩ := Option.map_eq_some_iff.1 hd
      simp [tkD]
theorem q_lenVec {o : Oper} {c : Call} {x : Operand} {b n : Nat} {vt : T} (hE : EnvOK E) (hop : o.op = .call c) (hc : c.callee = .builtin .len) (ha : c.args.toList = [x]) (hf : ∀ b, w.heap.size ≤ b → γ.rd b = none)
    (hd : rdD w γ (.vref b n) (a.eval x)) (ht : slOK E (c.argTypes.getD 0 0) (.one vt) = true) (hty : c.argTypes.size = 1) : Quiet E.P o a γ dead C w (.one (.g (.int .i64) (n : Int))) := by
  simp only [rdD] at hd
  obtain ⟨bb, cp, _, hv, _⟩ := hd
  obtain ⟨et, i, hu, _⟩ := slOK_spec hE ht
  have hargs : c.args = #[x] := by apply Array.ext'; simpa using ha
  obtain ⟨t0, hat, ht0⟩ : ∃ t0, c.argTypes[0]? = some t0 ∧ c.argTypes.getD 0 0 = t0 := ⟨c.argTypes.getD 0 0, by simp [hty], rfl⟩
  rw [ht0] at hu
  refine q_plain (v := .int .i64 (n : Int)) hf ?_ (by simp [rdD, rdT]) rfl
  simp [execOp, hop, resolve, hc, hargs, invoke, builtin, Builtin.len_, hat, hv, goInt, run_underlying hu]
theorem rdC_cells3 {g : Gh} : ∀ {ds : List D} {vs : List Value} {b o : Nat}, rdL w g ds vs → (∀ (i : Nat) v, vs[i]? = some v → w.cell? ⟨b, o + i, none⟩ = some v ∧ g.may b (o + i)) → rdC w g ds b o
  | [], [], b, o, _, _ => by simp only [rdC]
  | d :: ds, v :: vs, b, o, h, hc => by
    simp only [rdL] at h
    simp only [rdC]
    obtain ⟨c1, c2⟩ := hc 0 v rfl
    refine ⟨⟨v, by simpa using c1, by simpa using c2, h.1⟩, rdC_cells3 h.2 fun i u hu => ?_⟩
    have := hc (i + 1) u (by simpa using hu)
    rwa [show o + (i + 1) = o + 1 + i by omega] at this
  | [], _ :: _, _, _, h, _ => by simp only [rdL] at h
  | _ :: _, [], _, _, h, _ => by simp only [rdL] at h
theorem rdL_drop3 {g : Gh} : ∀ {n : Nat} {ds : List D} {vs : List Value}, rdL w g ds vs → rdL w g (ds.drop n) (vs.drop n)
  | 0, _, _, h => h
  | n + 1, [], [], _ => by simp [rdL]
  | n + 1, d :: ds, v :: vs, h => by simp only [rdL] at h; simp only [List.drop_succ_cons]; exact rdL_drop3 h.2
  | _ + 1, [], _ :: _, h => by simp only [rdL] at h
  | _ + 1, _ :: _, [], h => by simp only [rdL] at h
theorem flat_expand : ∀ {ds : List D}, flatB ds = true → expand ds = ds := fun {ds} h => by
  rcases expand_cases ds with ⟨t, xs, rfl⟩ | ⟨h1, _⟩
  · simp only [flatB, Bool.false_eq_true] at h
  · exact h1
theorem cutV_flat {ds : List D} (h : flatB ds = true) (l : List Value) : cutV ds l = l :=
  cutV_ne (fun t xs e => by subst e; simp only [flatB, Bool.false_eq_true] at h) l
theorem lend_sound {α : Type} {hp : Heap} {dead : List Tok} (hh : HeapOK γ hp dead C w) : ∀ {rs : List R} {k : List R → List Nat → Option α} {res : α}, lendK (oB α) hp rs k = some res → ∃ as is, k as is = some res ∧ ∀ vs, rdRs w γ rs vs → rdRs w γ.open as vs
  | [], k, res, h => ⟨[], [], by simpa only [lendK] using h, fun vs hv => by cases vs with | nil => simp [rdRs] | cons _ _ => simp only [rdRs] at hv⟩
  | r :: rs, k, res, h => by
    have other : ∀ {k' : List R → List Nat → Option α}, lendK (oB α) hp rs k' = some res → (∀ as is, k' as is = k (r :: as) is) → ∃ as is, k as is = some res ∧ ∀ vs, rdRs w γ (r :: rs) vs → rdRs w γ.open as vs := fun {k'} h hk => by
      obtain ⟨as, is, h1, h2⟩ := lend_sound hh h
      rw [hk] at h1
      refine ⟨r :: as, is, h1, fun vs hv => ?_⟩
      cases vs with
      | nil => simp only [rdRs] at hv
      | cons v vs =>
        simp only [rdRs] at hv ⊢
        exact ⟨rdR_mono open_sees (fun _ _ x => x) r v hv.1, h2 vs hv.2⟩
    simp only [lendK] at h
    split at h
    · rename_i i n
      split at h
      · rename_i t xs hi
        cases hn : Nat.beq n xs.length with
        | false => rw [hn] at h; cases h
        | true =>
          rw [hn] at h
          obtain ⟨as, is, h1, h2⟩ := lend_sound hh h
          refine ⟨_, _, h1, fun vs hv => ?_⟩
          cases vs with
          | nil => simp only [rdRs] at hv
          | cons v vs =>
            simp only [rdRs] at hv ⊢
            refine ⟨?_, h2 vs hv.2⟩
            obtain ⟨hv, _⟩ := hv
            simp only [rdR, rdD] at hv ⊢
            obtain ⟨b, c, hb, rfl, hc⟩ := hv
            obtain ⟨arr, ty, e1, e2, e4, e5⟩ := vec_box hh hi hb
            have hnl := nbeq.1 hn
            simp only [rdT]
            refine ⟨_, c, by rw [hnl], by omega, fun m hm => ⟨b, 0, rfl, ?_⟩⟩
            simp only [rdTs]
            obtain ⟨_, u, hu, hut⟩ := vec_get e2 hm
            refine ⟨u, ?_, ?_, ?_⟩
            · simp only [World.cell?, e1, Ts.size, Nat.mul_one, Nat.zero_add]
              simpa using hu
            · simp only [Gh.may, Gh.open]
              rw [if_pos (List.mem_of_getElem? hb)]
              trivial
            · have : xs.getD m t.dflt = xs[m] := by rw [List.getD_eq_getElem?_getD, List.getElem?_eq_getElem hm]; rfl
              rw [this] at hut
              exact rdT_mono open_sees _ _ _ hut
      · cases h
    · rename_i i off
      split at h
      · rename_i ds hi
        cases hn : flatB ds with
        | false => rw [hn] at h; cases h
        | true =>
          rw [hn] at h
          obtain ⟨as, is, h1, h2⟩ := lend_sound hh h
          refine ⟨_, _, h1, fun vs hv => ?_⟩
          cases vs with
          | nil => simp only [rdRs] at hv
          | cons v vs =>
            simp only [rdRs] at hv ⊢
            refine ⟨?_, h2 vs hv.2⟩
            obtain ⟨hv, _⟩ := hv
            simp only [rdR, rdD] at hv ⊢
            obtain ⟨b, hb, rfl⟩ := hv
            refine ⟨b, off, rfl, ?_⟩
            rcases hh.box i ds b hi hb with ⟨⟨arr, ty, e1, e2, _⟩, _, _⟩ | ⟨_, _, g | ⟨cs, g, _⟩⟩
            · rw [flat_expand hn, cutV_flat hn] at e2
              refine rdC_cells3 (vs := arr.toList.drop off) ((rdL_map nameOnly_strip).2 (rdL_drop3 (rdL_mono open_sees (fun _ _ x => x) _ _ e2))) fun j u hu => ?_
              rw [List.getElem?_drop] at hu
              refine ⟨?_, ?_⟩
              · have hu' : arr[off + j]? = some u := by simpa using hu
                simp [World.cell?, e1, hu']
              · have : b ∈ γ.bx := List.mem_of_getElem? hb
                simp [Gh.may, Gh.open, this]
            · subst g
              simp [rdC]
            · subst g
              simp only [flatB, Bool.false_eq_true] at hn
      · cases h
    · exact other h fun _ _ => rfl
theorem plain_rdT {w w' : World} {γ γ' : Gh} : (t : T) → (x : t.den) → (v : Value) → plainT t = true → rdT w γ t x v → rdT w' γ' t x v
  | .int _, _, _, _, h => by simpa only [rdT] using h
  | .bool, _, _, _, h => by simpa only [rdT] using h
theorem plain_rdL {w w' : World} {γ γ' : Gh} : (ts : Ts) → (x : ts.den) → (vs : List Value) → plainTs ts = true → rdL w γ (ts.leaves x) vs → rdL w' γ' (ts.leaves x) vs
  | .one t, x, [v], hp, h => by
    simp only [Ts.leaves, rdL, rdD, and_true] at h ⊢
    exact plain_rdT t x v hp h
  | .one t, x, [], _, h => by simp only [Ts.leaves, rdL] at h
  | .one t, x, _ :: _ :: _, _, h => by simp only [Ts.leaves, rdL, and_false] at h
  | .cons t ts, x, v :: vs, hp, h => by
    simp only [plainTs, Bool.and_eq_true] at hp
    simp only [Ts.leaves, rdL, rdD] at h ⊢
    exact ⟨plain_rdT t x.1 v hp.1 h.1, plain_rdL ts x.2 vs hp.2 h.2⟩
  | .cons t ts, x, [], _, h => by simp only [Ts.leaves, rdL] at h
end
end Go.V
namespace Go.V
open Go.RowKit
section
variable {E : Env} {P : Program} {γ : Gh} {dead : List Tok} {C : List Nat} {a : Act} {w : World} {dst : Nat} {st st' : St}
def flat (e : Ts) (xs : List e.den) : List D := xs.flatMap e.leaves
theorem flat_length (e : Ts) (xs : List e.den) : (flat e xs).length = xs.length * e.size := by
  induction xs with
  | nil => simp [flat]
  | cons x xs ih =>
    simp only [flat, List.flatMap_cons, List.length_append, leaves_length] at ih ⊢
    rw [ih, List.length_cons, Nat.add_mul]
    omega
theorem rdC_append : ∀ {c d : List D} {b o : Nat}, rdC w γ c b o → rdC w γ d b (o + c.length) → rdC w γ (c ++ d) b o
  | [], d, b, o, _, h => by simpa using h
  | x :: c, d, b, o, h1, h2 => by
    simp only [rdC] at h1
    simp only [List.cons_append, rdC]
    refine ⟨h1.1, rdC_append h1.2 ?_⟩
    have e : o + 1 + c.length = o + (x :: c).length := by simp; omega
    rw [e]; exact h2
theorem rows_rdC (e : Ts) : ∀ {xs : List e.den} {b o : Nat}, (∀ i (h : i < xs.length), rdTs w γ e xs[i] b (o + i * e.size)) → rdC w γ (flat e xs) b o
  | [], b, o, _ => by simp [flat, rdC]
  | x :: xs, b, o, h => by
    have h0 := h 0 (by simp)
    simp only [flat, List.flatMap_cons]
    refine rdC_append (by simpa using leaves_rdC h0) ?_
    rw [leaves_length]
    refine rows_rdC e fun i hi => ?_
    have := h (i + 1) (by simpa using hi)
    simp only [List.getElem_cons_succ] at this
    rwa [show o + e.size + i * e.size = o + (i + 1) * e.size by rw [Nat.add_mul]; omega]
theorem rdC_take' : ∀ {c d : List D} {b o : Nat}, rdC w γ (c ++ d) b o → rdC w γ c b o ∧ rdC w γ d b (o + c.length)
  | [], d, b, o, h => ⟨by simp [rdC], by simpa using h⟩
  | x :: c, d, b, o, h => by
    simp only [List.cons_append, rdC] at h
    obtain ⟨h1, h2⟩ := rdC_take' h.2
    refine ⟨by simp only [rdC]; exact ⟨h.1, h1⟩, ?_⟩
    have e : o + 1 + c.length = o + (x :: c).length := by simp; omega
    rw [← e]; exact h2
theorem rdC_rows (e : Ts) : ∀ {xs : List e.den} {b o : Nat}, rdC w γ (flat e xs) b o → ∀ i (h : i < xs.length), rdTs w γ e xs[i] b (o + i * e.size)
  | [], b, o, _, i, h => by simp at h
  | x :: xs, b, o, h, i, hi => by
    simp only [flat, List.flatMap_cons] at h
    obtain ⟨h1, h2⟩ := rdC_take' h
    rw [leaves_length] at h2
    cases i with
    | zero => simpa using rdTs_of_rdC h1
    | succ i =>
      have := rdC_rows e (xs := xs) h2 i (by simpa using hi)
      simp only [List.getElem_cons_succ]
      rwa [show o + (i + 1) * e.size = o + e.size + i * e.size by rw [Nat.add_mul]; omega]
theorem rdC_of_cells : ∀ {ds : List D} {b o : Nat}, (∀ (j : Nat) d, ds[j]? = some d → ∃ v, w.cell? ⟨b, o + j, none⟩ = some v ∧ γ.may b (o + j) ∧ rdD w γ d v) → rdC w γ ds b o
  | [], _, _, _ => by simp [rdC]
  | d :: ds, b, o, h => by
    simp only [rdC]
    refine ⟨by simpa using h 0 d rfl, rdC_of_cells fun j x hx => ?_⟩
    have := h (j + 1) x (by simpa using hx)
    rwa [show o + (j + 1) = o + 1 + j by omega] at this
theorem sl_cells {e : Ts} {ys : List e.den} {A : Option Addr} {m c : Nat} (h : rdT w γ (.sl e) ys (.slice A m c)) : m = ys.length ∧ m ≤ c ∧ ∃ news : List Value, news.length = m * e.size ∧ rdL w γ (flat e ys) news ∧
    (0 < m → ∃ b o, A = some ⟨b, o, none⟩ ∧ rdC w γ (flat e ys) b o ∧ ∀ (j : Nat) v, news[j]? = some v → w.cell? ⟨b, o + j, none⟩ = some v ∧ γ.may b (o + j)) := by
  simp only [rdT] at h
  obtain ⟨A', c', he, hle, hr⟩ := h
  cases he
  refine ⟨rfl, hle, ?_⟩
  by_cases hm : ys.length = 0
  · have : ys = [] := List.eq_nil_of_length_eq_zero hm
    subst this
    exact ⟨[], by simp, by simp [flat, rdL], fun h0 => by simp at h0⟩
  · obtain ⟨b, o, hA, _⟩ := hr 0 (by omega)
    have hc : rdC w γ (flat e ys) b o := rows_rdC e fun i hi => by
      obtain ⟨b', o', hA', h'⟩ := hr i hi
      rw [hA] at hA'
      cases hA'
      exact h'
    obtain ⟨news, h1, h2, h3⟩ := rdC_list hc
    exact ⟨news, by rw [h1, flat_length], h2, fun _ => ⟨b, o, hA, hc, h3⟩⟩
theorem run_append_room' (t ty e bty : TypeId) (i : TypeInfo) (ht : P.underlying t = some (.slice e)) (hi : P.info? e = some i) (g sLen sCap : Nat) (cur : Array Value) (hg : w.heap[g]? = some (.cells cur bty (0, 0)))
    (A : Option Addr) (m c : Nat) (news : List Value) (hl : news.length = m * i.size) (hA : 0 < m → ∃ b o, A = some ⟨b, o, none⟩ ∧ ∀ (j : Nat) v, news[j]? = some v → w.cell? ⟨b, o + j, none⟩ = some v) (h1 : ∀ u ∈ news, u.oneCell' = true)
    (hroom : sLen + m ≤ sCap) (hfit : sLen * i.size + news.length ≤ cur.size) :
    (Builtin.append_ #[t, t] ty #[.slice (some ⟨g, 0, none⟩) sLen sCap, .slice A m c]).run P w =
      .ok (.slice (some ⟨g, 0, none⟩) (sLen + m) sCap) (w.setRow g (cur.toList.take (sLen * i.size) ++ news ++ cur.toList.drop (sLen * i.size + news.length)).toArray) := by
  have hst := run_storeCells_at P g (sLen * i.size) bty news 0 cur w hg (by simpa using hfit) h1
  simp only [Nat.add_zero] at hst
  have hf : (Builtin.firstCells i.size m (.slice A m c)).run P w = .ok news.toArray w := by
    by_cases hm : 0 < m
    · obtain ⟨b, o, rfl, hc⟩ := hA hm
      exact run_firstCells_some (P := P) w i.size m ⟨b, o, none⟩ m c news hl (fun j v hj => by rw [add_none]; exact hc j v hj)
    · have hm0 : m = 0 := by omega
      subst hm0
      have : news = [] := List.eq_nil_of_length_eq_zero (by simpa using hl)
      subst this
      cases A with
      | none => exact run_firstCells_none w _ _ _ _
      | some ad => exact run_firstCells_some (P := P) w i.size 0 ad 0 c [] (by simp) (by simp)
  simp [Builtin.append_, run_underlying ht, sizeOf, typeInfo, hi, Builtin.lenOf, hroom, hf, Addr.add_lit, hst]
theorem run_append_zero (t ty e : TypeId) (i : TypeInfo) (ht : P.underlying t = some (.slice e)) (hi : P.info? e = some i) (A A' : Option Addr) (c : Nat) :
    (Builtin.append_ #[t, t] ty #[.slice A 0 0, .slice A' 0 c]).run P w = .ok (.slice A 0 0) w := by
  have hf : (Builtin.firstCells i.size 0 (.slice A' 0 c)).run P w = .ok #[] w := by
    cases A' with
    | none => exact run_firstCells_none w _ _ _ _
    | some ad => exact run_firstCells_some (P := P) w i.size 0 ad 0 c [] (by simp) (by simp)
  cases A <;> simp [Builtin.append_, run_underlying ht, sizeOf, typeInfo, hi, Builtin.lenOf, hf, storeCells]
def Gh.app (γ : Gh) (dst : Nat) (k : Tok) (h : Hdr) (ob : Option Nat) : Gh :=
  { γ with ow := fun x => if x = .s dst then some h else if x = k then none else γ.ow x, rd := fun i => if ob = some i then some (h.n * h.sz) else γ.rd i }
theorem tok_beq {a b : Tok} : Tok.beq a b = true ↔ a = b := by
  cases a <;> cases b <;> simp [Tok.beq]
theorem tokIn_cons {k x : Tok} {l : List Tok} : tokIn k (x :: l) = true ↔ k = x ∨ tokIn k l = true := by
  simp [tokIn, tok_beq]
theorem Sim.append {k : Tok} {h : Hdr} {ob : Option Nat} {w' : World} (hs : Sim γ st C a w) (hC : dst ∉ C)
    (hsees : Sees γ w (γ.app dst k h ob) w') (hlow : Below γ.base w w') (hfresh : ∀ b, w'.heap.size ≤ b → (γ.app dst k h ob).rd b = none)
    (hbox : ∀ b, b ∈ γ.bx → w'.heap[b]? = w.heap[b]? ∧ ob ≠ some b)
    (hch : ∀ (b : Nat) (o : Obj), w.heap[b]? = some o → (∀ arr ty k, o ≠ Obj.cells arr ty k) → w'.heap[b]? = some o)
    (hoth : ∀ k' h' b, k' ≠ k → γ.ow k' = some h' → h'.c ≠ 0 → h'.A = some ⟨b, 0, none⟩ → w'.heap[b]? = w.heap[b]? ∧ ob ≠ some b ∧ (h.c ≠ 0 → ∀ b2 : Nat, h.A = some ⟨b2, 0, none⟩ → b ≠ b2))
    (how : Owned (γ.app dst k h ob) w' h) : Sim (γ.app dst k h ob) { st with dead := k :: st.dead } C a w' := by
  have hd : ∀ x, tokIn x st.dead = true → tokIn x (k :: st.dead) = true := fun x hx => tokIn_cons.2 (.inr hx)
  have ho : ∀ x, (∀ t, x = .s t → t ∈ C) → tokIn x st.dead = false → tokIn x (k :: st.dead) = true ∨ (γ.app dst k h ob).ow x = γ.ow x := by
    intro x hx _
    by_cases hk : x = k
    · exact .inl (tokIn_cons.2 (.inl hk))
    · have : x ≠ .s dst := fun e => hC (hx _ e)
      exact .inr (by simp [Gh.app, this, hk])
  refine ⟨hs.dfr, hs.sz, fun s r hr => ?_, ⟨hs.heap.len, fun i ds b hi hb => ?_, hs.heap.nodup⟩, ⟨fun x hx' hx => ?_, fun x y hx' hy' hx hy hne => ?_⟩, hfresh, Nat.le_trans hs.base hlow.size, hs.nb⟩
  · obtain ⟨h1, h2⟩ := hs.regs s r hr
    exact ⟨rdR_mono hsees (fun _ _ x => x) r _ h1, tkR_mono (fun _ x => x) hd ho r _ h2⟩
  · rcases hs.heap.box i ds b hi hb with ⟨⟨arr, ty, e1, e2, e3⟩, e4, e5⟩ | g
    case inr => exact .inr (g.keep (Nat.le_refl _) hlow.size fun b2 _ ho hc => by
      rcases hc with hc | hc
      · rw [hc] at ho ⊢; exact (hbox b (List.mem_of_getElem? hb)).1.trans ho
      · exact hch b2 _ ho hc)
    obtain ⟨q1, q2⟩ := hbox b (List.mem_of_getElem? hb)
    refine .inl ⟨⟨arr, ty, q1.trans e1, rdL_mono hsees (fun _ _ x => x) _ _ e2, tkL_mono (fun _ x => x) hd ho e3⟩, ?_, e5⟩
    simp only [Gh.app]
    rw [if_neg q2]
    exact e4
  · simp only [Gh.app] at hx
    split at hx
    · cases hx; exact how
    · split at hx
      · cases hx
      · rename_i hne1 hne2
        refine (hs.own.own x hx' hx).keep rfl rfl fun b hc hA _ => ?_
        obtain ⟨q1, q2, _⟩ := hoth x hx' b hne2 hx hc hA
        exact ⟨q1, by simp only [Gh.app]; rw [if_neg q2]⟩
  · intro hc hc' b b' hA hA'
    simp only [Gh.app] at hx hy
    split at hx
    · cases hx
      split at hy
      · rename_i e1 e2; exact absurd (e1.trans e2.symm) hne
      · split at hy
        · cases hy
        · rename_i hne2
          exact fun e => (hoth y hy' b' hne2 hy hc' hA').2.2 hc b hA e.symm
    · split at hx
      · cases hx
      · rename_i hnx
        split at hy
        · cases hy
          exact (hoth x hx' b hnx hx hc hA).2.2 hc' b' hA'
        · split at hy
          · cases hy
          · exact hs.own.inj x y hx' hy' hx hy hne hc hc' b b' hA hA'
theorem Goes.append {o : Oper} {c : Call} {x y : Operand} {t : Nat} {e : Ts} {xs ys : List e.den} {k : Tok} {d : D} {ty ty' : Nat} (hE : EnvOK E) (h : Sim γ st C a w) (hC : dstOf o ∉ C) (hop : o.op = .call c) (hc : c.callee = .builtin .append)
    (ha : c.args.toList = [x, y]) (hat : c.argTypes = #[t, t]) (hsl : slOK E t e = true) (hx : evalO E ty (look st.regs) x = some (.one (.ow e xs k))) (hy : evalO E ty' (look st.regs) y = some (.one d)) (has : asSl d = some ⟨e, ys⟩)
    (hm : xs.length + ys.length ≤ maxL) (hk : tokIn k st.dead = false) (hp : St.put { st with dead := k :: st.dead } o.dst (.one (.ow e (xs ++ ys) (.s (dstOf o)))) = some st') : Goes E.P o γ st' C a w := by
  have hlk : LkOK (look st.regs) γ st.dead C a w := h.regs
  obtain ⟨hx1, hx2⟩ := evalO_sound hlk hx
  simp only [rdR, rdD] at hx1
  simp only [tkR, tkD] at hx2
  obtain ⟨hx3, hx4⟩ := hx2
  rw [hk] at hx3
  simp only [Bool.false_eq_true, false_or] at hx3
  obtain ⟨hd, hd1, hd2, hd3⟩ := hx3
  rw [hd2] at hx1
  obtain ⟨hn, _, olds, ho1, ho2, ho3⟩ := sl_cells hx1
  have hyv := asSl_sound has (evalO_one hlk hy)
  obtain ⟨A', c', hyA⟩ : ∃ A' c', a.eval y = .slice A' ys.length c' := by
    simp only [rdT] at hyv
    obtain ⟨A', c', h1, _⟩ := hyv
    exact ⟨A', c', h1⟩
  rw [hyA] at hyv
  obtain ⟨_, _, news, hn1, hn2, hn3⟩ := sl_cells hyv
  obtain ⟨et, info, hu, hinfo, hisz, hby, z, hz, hzs⟩ := slOK_spec hE hsl
  have hargs : c.args = #[x, y] := by apply Array.ext'; simpa using ha
  obtain ⟨hown1, hown2⟩ := h.own.own k hd hd1
  have hkd : k ≠ .s (dstOf o) := fun e => hC (hx4 _ e)
  have hpos := Ts.size_pos e
  have hall : rdL w γ (flat e (xs ++ ys)) (olds ++ news) := by
    have : flat e (xs ++ ys) = flat e xs ++ flat e ys := by simp [flat]
    rw [this]
    have app : ∀ {d1 d2 : List D} {v1 v2 : List Value}, rdL w γ d1 v1 → rdL w γ d2 v2 → rdL w γ (d1 ++ d2) (v1 ++ v2) := by
      intro d1
      induction d1 with
      | nil => intro d2 v1 v2 h1 h2; cases v1 with
        | nil => simpa using h2
        | cons _ _ => simp [rdL] at h1
      | cons d d1 ih => intro d2 v1 v2 h1 h2; cases v1 with
        | nil => simp [rdL] at h1
        | cons v v1 => simp only [rdL] at h1; simp only [List.cons_append, rdL]; exact ⟨h1.1, ih h1.2 h2⟩
    exact app ho2 hn2
  have hone : ∀ u ∈ news, u.oneCell' = true := fun u hu' => scalar_one (rdL_scalar hn2 u hu')
  have run_of : ∀ v w', (Builtin.append_ #[t, t] o.type #[.slice hd.A hd.n hd.c, .slice A' ys.length c']).run E.P w = .ok v w' → (execOp a.eval o).run E.P w = .ok (.value v) w' := by
    intro v w' hrun
    simp [execOp, hop, resolve, hc, hargs, invoke, builtin, hd2, hyA, hat, hrun]
  have finish : ∀ (h' : Hdr) (ob : Option Nat) (w' : World), (execOp a.eval o).run E.P w = .ok (.value (.slice h'.A h'.n h'.c)) w' → Sees γ w (γ.app (dstOf o) k h' ob) w' → Below γ.base w w' →
      (∀ b, b < γ.base → ob ≠ some b) → Sim (γ.app (dstOf o) k h' ob) { st with dead := k :: st.dead } C a w' → h'.sz = e.size → h'.n = (xs ++ ys).length → h'.n ≤ h'.c →
      (∀ i (hi : i < (xs ++ ys).length), ∃ b p, h'.A = some ⟨b, p, none⟩ ∧ rdTs w' (γ.app (dstOf o) k h' ob) e (xs ++ ys)[i] b (p + i * e.size)) → Goes E.P o γ st' C a w := by
    intro h' ob w' hrun hsees hlow hob hsim hsz hlen hle hrows next Q hnx
    unfold Oper.wp
    rw [hrun]
    simp only [Oper.upon]
    refine hnx (.slice h'.A h'.n h'.c) (γ.app (dstOf o) k h' ob) w' ⟨fun _ _ _ q => q, rfl, hlow.size, hsees.cells, hlow, fun b hb => by simp only [Gh.app]; rw [if_neg (hob b hb)], rfl⟩ (Sim.put (hsim.more (C' := addC o.dst C) fun t ht => ?_) hp fun t ht => ?_)
    · cases hdd : o.dst with
      | none => exact ht
      | some u => exact List.mem_cons_of_mem _ ht
    · have hdst := dstOf_some ht
      refine ⟨?_, ?_⟩
      · simp only [rdR, rdD, rdT]
        exact ⟨h'.A, h'.c, by rw [hlen], by rw [← hlen]; exact hle, hrows⟩
      · simp only [tkR, tkD]
        refine ⟨.inr ⟨h', by simp [Gh.app], rfl, hsz⟩, fun t' ht' => ?_⟩
        cases ht'
        rw [ht]
        simp [addC, hdst]
  have hoth0 : ∀ k' h' b, k' ≠ k → γ.ow k' = some h' → h'.c ≠ 0 → h'.A = some ⟨b, 0, none⟩ → b < w.heap.size ∧ (∀ b2 : Nat, hd.c ≠ 0 → hd.A = some ⟨b2, 0, none⟩ → b ≠ b2) := by
    intro k' h' b hne hk' hc' hA
    obtain ⟨b2, arr2, ty2, g1, g2, _⟩ := (h.own.own k' h' hk').2 hc'
    have : b2 = b := by rw [g1] at hA; simpa using hA
    subst this
    exact ⟨heap_lt_of g2, fun b3 h3 hA3 => h.own.inj k' k h' hd hk' hd1 hne hc' h3 b2 b3 hA hA3⟩
  have hboxlt : ∀ b, b ∈ γ.bx → b < w.heap.size := by
    intro b hb
    obtain ⟨i, hi, he⟩ := List.mem_iff_getElem.1 hb
    exact h.heap.lt i b (by rw [List.getElem?_eq_getElem hi]; exact congrArg some he)
  by_cases hneed : xs.length + ys.length ≤ hd.c
  · by_cases hc0 : hd.c = 0
    · -- nothing, and no room
      have hx0 : xs = [] := List.eq_nil_of_length_eq_zero (by omega)
      have hy0 : ys = [] := List.eq_nil_of_length_eq_zero (by omega)
      subst hx0
      subst hy0
      have hn0 : hd.n = 0 := by omega
      have hrun := run_of _ _ (by rw [hc0, hn0]; exact run_append_zero (P := E.P) (w := w) t o.type et info hu hinfo hd.A A' c')
      refine finish ⟨hd.A, 0, 0, e.size⟩ none w hrun ⟨fun b i u q1 q2 => ⟨q2, q1⟩⟩ (Below.refl _ _) (fun _ _ => by simp) ?_ rfl rfl (Nat.le_refl _) (fun i hi => by simp at hi)
      refine Sim.append h hC ⟨fun b i u q1 q2 => ⟨q2, q1⟩⟩ (Below.refl _ _) (fun b hb => h.fresh b hb) (fun b _ => ⟨rfl, by simp⟩) (fun _ _ q _ => q) (fun k' h' b hne hk' hc' hA => ⟨rfl, by simp, fun hh => absurd rfl hh⟩) ⟨Nat.le_refl _, fun hh => absurd rfl hh⟩
    · -- in place
      obtain ⟨b, arr, bty, g1, g2, g3, g4, g5, g6⟩ := hown2 hc0
      have hbl := heap_lt_of g2
      have hfit : hd.n * info.size + news.length ≤ arr.size := by
        rw [g3, hn1, hisz, hd3, ← Nat.add_mul]
        exact Nat.mul_le_mul_right _ (by omega)
      have hr1 := run_append_room' (P := E.P) (w := w) t o.type et bty info hu hinfo b hd.n hd.c arr g2 A' ys.length c' news (by rw [hn1, hisz]) (fun hp => by
        obtain ⟨b', o', q1, _, q3⟩ := hn3 hp
        exact ⟨b', o', q1, fun j v hj => (q3 j v hj).1⟩) hone (by omega) hfit
      generalize hnew : (arr.toList.take (hd.n * info.size) ++ news ++ arr.toList.drop (hd.n * info.size + news.length)) = newl at hr1
      have hget : ∀ p : Nat, newl[p]? = if hd.n * info.size ≤ p ∧ p < hd.n * info.size + news.length then news[p - hd.n * info.size]? else arr.toList[p]? := fun p => by
        rw [← hnew]; exact put_get (by simpa using hfit) p
      have hrun := run_of _ _ (by rw [g1]; exact hr1)
      have hcell : ∀ j : Nat, (w.setRow b newl.toArray).cell? ⟨b, j, none⟩ = newl[j]? := fun j => by
        rw [cell_setRow_same w b j arr newl.toArray bty _ g2]; simp
      have hsz' : hd.n * info.size = xs.length * e.size := by rw [hisz, hn]
      have hsees : Sees γ w (γ.app (dstOf o) k ⟨some ⟨b, 0, none⟩, hd.n + ys.length, hd.c, e.size⟩ (some b)) (w.setRow b newl.toArray) := ⟨fun b' i u q1 q2 => by
        by_cases hbb : b' = b
        · subst hbb
          simp only [Gh.may, g4] at q1
          rw [hd3] at q1
          have hi : ¬ (hd.n * info.size ≤ i ∧ i < hd.n * info.size + news.length) := by rw [hisz]; omega
          refine ⟨?_, ?_⟩
          · rw [hcell, hget i, if_neg hi]
            simp only [World.cell?, g2] at q2
            simpa using q2
          · simp only [Gh.may, Gh.app, if_true, Nat.add_mul]
            omega
        · refine ⟨(cell_block (setRow_other w b b' _ hbb)).trans q2, ?_⟩
          have : ¬ (some b = some b') := fun e => hbb (by cases e; rfl)
          simp only [Gh.may, Gh.app, if_neg this]
          exact q1⟩
      have hlow : Below γ.base w (w.setRow b newl.toArray) := ⟨rfl, rfl, rfl, by simp, fun k hk => setRow_other w b k _ (by omega)⟩
      refine finish ⟨some ⟨b, 0, none⟩, hd.n + ys.length, hd.c, e.size⟩ (some b) _ (by simpa using hrun) hsees hlow (fun b' hb' => by simp; omega) ?_ rfl (by simp [hn]) (by show hd.n + ys.length ≤ hd.c; omega) ?_
      · refine Sim.append h hC hsees hlow (fun b' hb' => ?_) (fun b' hb' => ?_) (fun b2 o q hq => (setRow_other w b b2 _ (fun e => by rw [e, g2] at q; cases q; exact hq _ _ _ rfl)).trans q) (fun k' h' b' hne hk' hc' hA => ?_) ⟨by show hd.n + ys.length ≤ hd.c; omega, fun _ => ⟨b, newl.toArray, bty, rfl, setRow_heap w b arr _ bty _ g2, ?_, by simp [Gh.app], g5, g6⟩⟩
        · simp at hb'
          simp only [Gh.app]
          rw [if_neg (by simp; omega)]
          exact h.fresh b' hb'
        · have : b' ≠ b := fun e => g6 (e ▸ hb')
          exact ⟨setRow_other w b b' _ this, by simp; exact fun e => this e.symm⟩
        · obtain ⟨_, q⟩ := hoth0 k' h' b' hne hk' hc' hA
          have : b' ≠ b := q b hc0 g1
          exact ⟨setRow_other w b b' _ this, by simp; exact fun e => this e.symm, fun _ b2 hb2 => by cases hb2; exact this⟩
        · have : newl.length = arr.size := by
            rw [← hnew]
            simp
            omega
          simp [this, g3, hd3]
      · have hrc : rdC (w.setRow b newl.toArray) (γ.app (dstOf o) k ⟨some ⟨b, 0, none⟩, hd.n + ys.length, hd.c, e.size⟩ (some b)) (flat e (xs ++ ys)) b 0 := by
          refine rdC_of_cells fun j dj hj => ?_
          have hjl : j < (xs ++ ys).length * e.size := by
            have := (List.getElem?_eq_some_iff.1 hj).1
            rwa [flat_length] at this
          simp only [List.length_append, Nat.add_mul] at hjl
          have hmay : (γ.app (dstOf o) k ⟨some ⟨b, 0, none⟩, hd.n + ys.length, hd.c, e.size⟩ (some b)).may b (0 + j) := by
            simp only [Gh.may, Gh.app, if_true, Nat.add_mul, hn]
            omega
          obtain ⟨v, q1, q2⟩ := rdL_get hall hj
          refine ⟨v, ?_, hmay, rdD_mono hsees (fun _ _ x => x) dj v q2⟩
          rw [Nat.zero_add, hcell, hget j]
          by_cases hjx : j < olds.length
          · have hjx' : j < xs.length * e.size := by rw [← hn, ← ho1]; exact hjx
            rw [if_neg (by rw [hsz']; omega)]
            rw [List.getElem?_append_left hjx] at q1
            have hpos' : 0 < hd.n := by
              rcases Nat.eq_zero_or_pos hd.n with h0 | h0
              · rw [h0] at ho1; simp at ho1; rw [ho1] at hjx; simp at hjx
              · exact h0
            obtain ⟨b3, o3, r1, _, r3⟩ := ho3 hpos'
            rw [g1] at r1
            cases r1
            have := (r3 j v q1).1
            rw [Nat.zero_add] at this
            simp only [World.cell?, g2] at this
            simpa using this
          · rw [List.getElem?_append_right (by omega)] at q1
            rw [if_pos (by rw [hsz', hn1]; rw [ho1, hn] at hjx; omega)]
            rw [show j - hd.n * info.size = j - olds.length by rw [ho1, hisz]]
            exact q1
        exact fun i hi => ⟨b, 0, rfl, rdC_rows e hrc i hi⟩
  · -- a new block
    have hcap : hd.c < hd.n + ys.length := by omega
    have hyp : 0 < ys.length := by omega
    obtain ⟨b', o', q1, q2, q3⟩ := hn3 hyp
    have hmax : hd.n + ys.length ≤ 2147483648 := by simp only [maxL] at hm; omega
    have hfitb : (hd.n + ys.length) * info.bytes ≤ 140737488355328 := by
      have : (hd.n + ys.length) * info.bytes ≤ 2147483648 * 65536 := Nat.mul_le_mul hmax hby
      omega
    have hnl : news.length = ys.length * info.size := by rw [hn1, hisz]
    have hnews : ∀ (j : Nat) v, news[j]? = some v → w.cell? ((⟨b', o', none⟩ : Addr).add j) = some v := fun j v hj => by rw [add_none]; exact (q3 j v hj).1
    obtain ⟨cap, hcapge, rest, hrest, hrun0⟩ : ∃ cap, hd.n + ys.length ≤ cap ∧ ∃ rest : List Value, rest.length = (cap - (hd.n + ys.length)) * e.size ∧
        (Builtin.append_ #[t, t] o.type #[.slice hd.A hd.n hd.c, .slice A' ys.length c']).run E.P w = .ok (.slice (some ⟨w.heap.size, 0, none⟩) (hd.n + ys.length) cap) (w.drew.alloc (.cells (olds ++ news ++ rest).toArray et)) := by
      rw [q1]
      have hge := grownCap_ge w (hd.n + ys.length) hd.c et
      refine ⟨grownCap w (hd.n + ys.length) hd.c et, hge, (Builtin.zeroCells z.cells (grownCap w (hd.n + ys.length) hd.c et - (hd.n + ys.length))).toList, by simp [size_zeroCells, hzs], ?_⟩
      cases hA : hd.A with
      | none =>
        have hc0 : hd.c = 0 := by
          by_cases hc : hd.c = 0
          · exact hc
          · obtain ⟨b, arr, bty, g1, _⟩ := hown2 hc
            rw [hA] at g1
            cases g1
        have hn0 : hd.n = 0 := by omega
        have ho0 : olds = [] := List.eq_nil_of_length_eq_zero (by rw [ho1, hn0]; simp)
        rw [hc0, hn0, ho0]
        have := run_append_nil (P := E.P) w t o.type et info z hu hinfo hz ⟨b', o', none⟩ ys.length c' news hnl hnews hyp (by omega) (by
          have : ys.length * info.bytes ≤ (hd.n + ys.length) * info.bytes := Nat.mul_le_mul_right _ (by omega)
          omega)
        simp only [Nat.zero_add] at this ⊢
        rw [this]
        congr 2
        congr 1
        apply Array.ext'
        simp
      | some ad =>
        have holds : ∀ (j : Nat) v, olds[j]? = some v → w.cell? (ad.add j) = some v := by
          intro j v hj
          have hpos' : 0 < hd.n := by
            rcases Nat.eq_zero_or_pos hd.n with h0 | h0
            · rw [h0] at ho1; simp at ho1; rw [ho1] at hj; simp at hj
            · exact h0
          obtain ⟨b3, o3, r1, _, r3⟩ := ho3 hpos'
          rw [hA] at r1
          cases r1
          rw [add_none]
          exact (r3 j v hj).1
        have := run_append_grow (P := E.P) w t o.type et info z hu hinfo hz ad hd.n hd.c olds (by rw [ho1, hisz]) holds ⟨b', o', none⟩ ys.length c' news hnl hnews hcap (by omega) (growslice_fits (by omega) hfitb)
        rw [this]
        congr 2
        congr 1
        apply Array.ext'
        simp
    have hrun := run_of _ _ hrun0
    have hsees : Sees γ w (γ.app (dstOf o) k ⟨some ⟨w.heap.size, 0, none⟩, hd.n + ys.length, cap, e.size⟩ (some w.heap.size)) (w.drew.alloc (.cells (olds ++ news ++ rest).toArray et)) := ⟨fun b i u r1 r2 => by
      have hlt := cell_lt r2
      refine ⟨by rw [World.cell?_alloc_lt _ _ _ (by simpa using hlt)]; exact r2, ?_⟩
      have : ¬ (some w.heap.size = some b) := fun e => by cases e; omega
      simp only [Gh.may, Gh.app, if_neg this]
      exact r1⟩
    have hheap : ∀ b, b < w.heap.size → (w.drew.alloc (.cells (olds ++ news ++ rest).toArray et)).heap[b]? = w.heap[b]? := fun b hb => Below.heap_alloc w.drew _ b (by simpa using hb)
    have hlow : Below γ.base w (w.drew.alloc (.cells (olds ++ news ++ rest).toArray et)) := ⟨rfl, rfl, rfl, by simp, fun b hb => hheap b (Nat.lt_of_lt_of_le hb h.base)⟩
    refine finish ⟨some ⟨w.heap.size, 0, none⟩, hd.n + ys.length, cap, e.size⟩ (some w.heap.size) _ hrun hsees hlow (fun b hb => by have := h.base; simp; omega) ?_ rfl (by simp [hn]) hcapge ?_
    · refine Sim.append h hC hsees hlow (fun b hb => ?_) (fun b hb => ?_) (fun b2 o q _ => (hheap b2 (heap_lt_of q)).trans q) (fun k' h' b hne hk' hc' hA => ?_) ⟨hcapge, fun _ => ⟨w.heap.size, _, et, rfl, heap_alloc_new w.drew _, ?_, by simp [Gh.app], h.base, fun hm => by have := hboxlt _ hm; omega⟩⟩
      · simp at hb
        simp only [Gh.app]
        rw [if_neg (by simp; omega)]
        exact h.fresh b (by omega)
      · have := hboxlt b hb
        exact ⟨hheap b this, by simp; omega⟩
      · obtain ⟨hlt, _⟩ := hoth0 k' h' b hne hk' hc' hA
        exact ⟨hheap b hlt, by simp; omega, fun _ b2 hb2 => by cases hb2; omega⟩
      · simp only [List.size_toArray, List.length_append, ho1, hn1, hrest, ← Nat.add_mul]
        congr 1
        omega
    · have hrc : rdC (w.drew.alloc (.cells (olds ++ news ++ rest).toArray et)) (γ.app (dstOf o) k ⟨some ⟨w.heap.size, 0, none⟩, hd.n + ys.length, cap, e.size⟩ (some w.heap.size)) (flat e (xs ++ ys)) w.heap.size 0 := by
        refine rdC_of_cells fun j dj hj => ?_
        have hjl : j < (xs ++ ys).length * e.size := by
          have := (List.getElem?_eq_some_iff.1 hj).1
          rwa [flat_length] at this
        simp only [List.length_append, Nat.add_mul] at hjl
        obtain ⟨v, r1, r2⟩ := rdL_get hall hj
        refine ⟨v, ?_, ?_, rdD_mono hsees (fun _ _ x => x) dj v r2⟩
        · have e1 : (w.drew.alloc (.cells (olds ++ news ++ rest).toArray et)).cell? ⟨w.heap.size, 0 + j, none⟩ = (olds ++ news ++ rest).toArray[0 + j]? := World.cell?_alloc_new w.drew _ _ _
          rw [e1]
          have hlt := (List.getElem?_eq_some_iff.1 r1).1
          simp only [Nat.zero_add, List.getElem?_toArray]
          rw [List.getElem?_append_left hlt]
          exact r1
        · simp only [Gh.may, Gh.app, if_true, Nat.add_mul, hn]
          omega
      exact fun i hi => ⟨w.heap.size, 0, rfl, rdC_rows e hrc i hi⟩
def Gh.vecb (γ : Gh) (dst : Nat) (k : Tok) (b : Nat) : Gh :=
  { γ with ow := fun x => if x = .s dst then none else if x = k then none else γ.ow x, rd := fun i => if i = b then some 0 else γ.rd i, bx := γ.bx ++ [b] }
theorem Goes.vecBox {o : Oper} {k : Tok} {w' : World} {b c : Nat} {arr : Array Value} {ty : Nat} {vt : T} {ys : List vt.den} (h : Sim γ st C a w) (hC : dstOf o ∉ C)
    (hrun : (execOp a.eval o).run P w = .ok (.value (.slice (some ⟨b, 0, none⟩) ys.length c)) w') (hle : ys.length ≤ c) (hblk : w'.heap[b]? = some (.cells arr ty (0, 0)))
    (hcells : rdL w γ (ys.map (.g vt)) (arr.toList.take ys.length)) (hbase : γ.base ≤ b) (hrd : ∀ i u, γ.may b i → w.cell? ⟨b, i, none⟩ = some u → False) (hnew : b ∉ γ.bx)
    (hoth : ∀ b' ob, b' ≠ b → w.heap[b']? = some ob → w'.heap[b']? = some ob) (hcl : ∀ ob, w.heap[b]? = some ob → ∃ arr ty k, ob = Obj.cells arr ty k) (hsz : w.heap.size ≤ w'.heap.size) (hlow : Below γ.base w w')
    (how : ∀ k' h', k' ≠ k → γ.ow k' = some h' → h'.c ≠ 0 → h'.A ≠ some ⟨b, 0, none⟩)
    (hp : St.put { st with dead := k :: st.dead, heap := st.heap ++ [[.vec vt ys]] } o.dst (.one (.vref st.heap.length ys.length)) = some st') : Goes P o γ st' C a w := by
  intro next Q hn
  unfold Oper.wp
  rw [hrun]
  simp only [Oper.upon]
  have hcell : ∀ b' i u, b' ≠ b → w.cell? ⟨b', i, none⟩ = some u → w'.cell? ⟨b', i, none⟩ = some u := fun b' i u hb hu => by
    obtain ⟨ob, hob⟩ : ∃ ob, w.heap[b']? = some ob := by
      have := cell_lt hu
      exact ⟨_, Array.getElem?_eq_getElem this⟩
    exact (cell_block ((hoth b' ob hb hob).trans hob.symm)).trans hu
  have hsees : Sees γ w (γ.vecb (dstOf o) k b) w' := ⟨fun b' i u h1 h2 => by
    have hne : b' ≠ b := fun e => by subst e; exact hrd i u h1 h2
    refine ⟨hcell b' i u hne h2, (may_congr ?_).2 h1⟩
    simp only [Gh.vecb]
    rw [if_neg hne]⟩
  have hbx : ∀ (i b' : Nat), γ.bx[i]? = some b' → (γ.vecb (dstOf o) k b).bx[i]? = some b' := fun i b' hi => by
    have hlt := (List.getElem?_eq_some_iff.1 hi).1
    simp only [Gh.vecb]
    rw [List.getElem?_append_left hlt]
    exact hi
  have hext : Ext γ w (γ.vecb (dstOf o) k b) w' :=
    ⟨fun i b' _ q => hbx i b' q, rfl, hsz, hsees.cells, hlow, fun b' hb' => by simp only [Gh.vecb]; rw [if_neg (by omega)], rfl⟩
  have hd : ∀ x, tokIn x st.dead = true → tokIn x (k :: st.dead) = true := fun x hx => tokIn_cons.2 (.inr hx)
  have ho : ∀ x, (∀ t, x = .s t → t ∈ C) → tokIn x st.dead = false → tokIn x (k :: st.dead) = true ∨ (γ.vecb (dstOf o) k b).ow x = γ.ow x := by
    intro x hx _
    by_cases hk : x = k
    · exact .inl (tokIn_cons.2 (.inl hk))
    · have : x ≠ .s (dstOf o) := fun e => hC (hx _ e)
      exact .inr (by simp [Gh.vecb, this, hk])
  have hlt := heap_lt_of hblk
  have hsim : Sim (γ.vecb (dstOf o) k b) { st with dead := k :: st.dead, heap := st.heap ++ [[.vec vt ys]] } C a w' := by
    refine ⟨h.dfr, h.sz, fun s r hr => ?_, ⟨?_, fun i es b' hi hb => ?_, ?_⟩, ⟨fun x hx' hx => ?_, fun x y hx' hy' hx hy hne => ?_⟩, fun b' hb' => ?_, Nat.le_trans h.base hsz, h.nb⟩
    · obtain ⟨h1, h2⟩ := h.regs s r hr
      exact ⟨rdR_mono hsees hbx r _ h1, tkR_mono (fun _ x => x) hd ho r _ h2⟩
    · simp [Gh.vecb, h.heap.len]
    · by_cases hil : i < st.heap.length
      · rw [List.getElem?_append_left hil] at hi
        have hil' : i < γ.bx.length := by rw [← h.heap.len]; exact hil
        simp only [Gh.vecb] at hb
        rw [List.getElem?_append_left hil'] at hb
        have hne : b' ≠ b := fun e => hnew (e ▸ List.mem_of_getElem? hb)
        rcases h.heap.box i es b' hi hb with ⟨⟨arr', ty', e1, e2, e3⟩, e4, e5⟩ | g
        case inr => exact .inr (g.keep (Nat.le_refl _) hsz fun b2 ob ho2 hc => by
          refine hoth b2 ob (fun e => ?_) ho2
          rcases hc with hc | hc
          · exact hne (hc ▸ e)
          · subst e
            obtain ⟨_, _, _, e⟩ := hcl ob ho2
            exact hc _ _ _ e)
        refine .inl ⟨⟨arr', ty', hoth b' _ hne e1, rdL_mono hsees hbx _ _ e2, tkL_mono (fun _ x => x) hd ho e3⟩, ?_, e5⟩
        simp only [Gh.vecb]
        rw [if_neg hne]
        exact e4
      · have hi' : i = st.heap.length := by
          have := (List.getElem?_eq_some_iff.1 hi).1
          simp at this
          omega
        subst hi'
        simp at hi
        subst hi
        simp only [Gh.vecb] at hb
        rw [h.heap.len] at hb
        simp at hb
        subst hb
        refine .inl ⟨⟨arr, ty, hblk, rdL_mono hsees hbx _ _ hcells, ?_⟩, by simp [Gh.vecb], hbase⟩
        show tkL _ _ _ (ys.map (D.g vt)) _
        exact tkL_of_get fun i d v hd _ => by
          rw [List.getElem?_map] at hd
          obtain ⟨y, _, rfl⟩ := Option.map_eq_some_iff.1 hd
          simp [tkD]
    · simp only [Gh.vecb]
      refine List.nodup_append.2 ⟨h.heap.nodup, by simp, fun x hx y hy => ?_⟩
      simp at hy
      subst hy
      exact fun e => hnew (e ▸ hx)
    · simp only [Gh.vecb] at hx
      split at hx
      · cases hx
      · split at hx
        · cases hx
        · rename_i hne1 hne2
          have ho1 := h.own.own x hx' hx
          refine ⟨ho1.1, fun hc => ?_⟩
          obtain ⟨b1, arr1, ty1, q1, q2, q3, q4, q5, q6⟩ := ho1.2 hc
          have hne : b1 ≠ b := fun e => how x hx' hne2 hx hc (by rw [q1, e])
          refine ⟨b1, arr1, ty1, q1, hoth b1 _ hne q2, q3, ?_, q5, ?_⟩
          · simp only [Gh.vecb]
            rw [if_neg hne]
            exact q4
          · simp only [Gh.vecb, List.mem_append, List.mem_singleton]
            intro hm
            rcases hm with hm | hm
            · exact q6 hm
            · exact hne hm
    · simp only [Gh.vecb] at hx hy
      split at hx
      · cases hx
      · split at hx
        · cases hx
        · split at hy
          · cases hy
          · split at hy
            · cases hy
            · exact h.own.inj x y hx' hy' hx hy hne
    · simp only [Gh.vecb]
      rw [if_neg (by omega)]
      exact h.fresh b' (by omega)
  refine hn _ _ _ hext (Sim.put (hsim.more (C' := addC o.dst C) fun t ht => ?_) hp fun t ht => ?_)
  · cases hdd : o.dst with
    | none => exact ht
    | some u => exact List.mem_cons_of_mem _ ht
  · exact ⟨by simp only [rdR, rdD]; exact ⟨b, c, by simp only [Gh.vecb]; rw [h.heap.len]; simp, rfl, hle⟩, by simp [tkR, tkD]⟩
theorem flat_one {vt : T} : ∀ ys : List vt.den, flat (.one vt) ys = ys.map (D.g vt)
  | [] => rfl
  | z :: l => congrArg (D.g vt z :: ·) (flat_one l)
theorem Goes.appendVec {o : Oper} {c : Call} {x y : Operand} {t : Nat} {vt : T} {ys : List vt.den} {k : Tok} {d : D} {ty ty' : Nat} (hE : EnvOK E) (h : Sim γ st C a w) (hC : dstOf o ∉ C) (hop : o.op = .call c) (hc : c.callee = .builtin .append)
    (ha : c.args.toList = [x, y]) (hat : c.argTypes = #[t, t]) (hsl : slOK E t (.one vt) = true) (hx : evalO E ty (look st.regs) x = some (.one (.ow (.one vt) [] k))) (hy : evalO E ty' (look st.regs) y = some (.one d)) (has : asSl d = some ⟨.one vt, ys⟩)
    (hm : ys.length ≤ maxL) (hyp : 0 < ys.length) (hk : tokIn k st.dead = false) (hp : St.put { st with dead := k :: st.dead, heap := st.heap ++ [[.vec vt ys]] } o.dst (.one (.vref st.heap.length ys.length)) = some st') : Goes E.P o γ st' C a w := by
  have hlk : LkOK (look st.regs) γ st.dead C a w := h.regs
  obtain ⟨hx1, hx2⟩ := evalO_sound hlk hx
  simp only [rdR, rdD] at hx1
  simp only [tkR, tkD] at hx2
  obtain ⟨hx3, hx4⟩ := hx2
  rw [hk] at hx3
  simp only [Bool.false_eq_true, false_or] at hx3
  obtain ⟨hd, hd1, hd2, hd3⟩ := hx3
  rw [hd2] at hx1
  obtain ⟨hn, _, olds, ho1, ho2, ho3⟩ := sl_cells hx1
  have hn0 : hd.n = 0 := by simpa using hn
  have hyv := asSl_sound has (evalO_one hlk hy)
  obtain ⟨A', c', hyA⟩ : ∃ A' c', a.eval y = .slice A' ys.length c' := by
    simp only [rdT] at hyv
    obtain ⟨A', c', h1, _⟩ := hyv
    exact ⟨A', c', h1⟩
  rw [hyA] at hyv
  obtain ⟨_, _, news, hn1, hn2, hn3⟩ := sl_cells hyv
  have hfl : flat (.one vt) ys = ys.map (D.g vt) := flat_one ys
  rw [hfl] at hn2
  have hes : (Ts.one vt).size = 1 := rfl
  rw [hes, Nat.mul_one] at hn1
  obtain ⟨et, info, hu, hinfo, hisz, hby, z, hz, hzs⟩ := slOK_spec hE hsl
  rw [hes] at hisz hzs hd3
  have hargs : c.args = #[x, y] := by apply Array.ext'; simpa using ha
  obtain ⟨hown1, hown2⟩ := h.own.own k hd hd1
  have hone : ∀ u ∈ news, u.oneCell' = true := fun u hu' => scalar_one (rdL_scalar hn2 u hu')
  have run_of : ∀ v w', (Builtin.append_ #[t, t] o.type #[.slice hd.A hd.n hd.c, .slice A' ys.length c']).run E.P w = .ok v w' → (execOp a.eval o).run E.P w = .ok (.value v) w' := by
    intro v w' hrun
    simp [execOp, hop, resolve, hc, hargs, invoke, builtin, hd2, hyA, hat, hrun]
  have hboxlt : ∀ b, b ∈ γ.bx → b < w.heap.size := by
    intro b hb
    obtain ⟨i, hi, he⟩ := List.mem_iff_getElem.1 hb
    exact h.heap.lt i b (by rw [List.getElem?_eq_getElem hi]; exact congrArg some he)
  obtain ⟨b', o', q1, q2, q3⟩ := hn3 hyp
  by_cases hneed : ys.length ≤ hd.c
  · obtain ⟨b, arr, bty, g1, g2, g3, g4, g5, g6⟩ := hown2 (by omega)
    have hfit : hd.n * info.size + news.length ≤ arr.size := by
      rw [g3, hn1, hisz, hd3, hn0]
      omega
    have hr1 := run_append_room' (P := E.P) (w := w) t o.type et bty info hu hinfo b hd.n hd.c arr g2 A' ys.length c' news (by rw [hn1, hisz, Nat.mul_one]) (fun _ => ⟨b', o', q1, fun j v hj => (q3 j v hj).1⟩) hone (by omega) hfit
    rw [hn0, Nat.zero_mul, Nat.zero_add, Nat.zero_add, List.take_zero, List.nil_append] at hr1
    have hrun := run_of _ _ (by rw [hn0, g1]; exact hr1)
    refine Goes.vecBox (b := b) (arr := (news ++ arr.toList.drop news.length).toArray) (ty := bty) h hC hrun hneed (setRow_heap w b arr _ bty _ g2) ?_ g5 (fun i u q _ => by simp only [Gh.may, g4, hn0, Nat.zero_mul] at q; omega) g6 (fun b2 ob hne hob => (setRow_other w b b2 _ hne).trans hob)
      (fun ob hob => by rw [g2] at hob; cases hob; exact ⟨_, _, _, rfl⟩) (by simp) ⟨rfl, rfl, rfl, by simp, fun k hk => setRow_other w b k _ (by omega)⟩ (fun k' h' hne hk' hc' hA => h.own.inj k' k h' hd hk' hd1 hne hc' (by omega) b b hA g1 rfl) hp
    rw [← hn1]
    simp only [List.take_left]
    exact hn2
  · have hcap : hd.c < hd.n + ys.length := by omega
    have hmax : hd.n + ys.length ≤ 2147483648 := by simp only [maxL] at hm; omega
    have hfitb : (hd.n + ys.length) * info.bytes ≤ 140737488355328 := by
      have : (hd.n + ys.length) * info.bytes ≤ 2147483648 * 65536 := Nat.mul_le_mul hmax hby
      omega
    have hnl : news.length = ys.length * info.size := by rw [hn1, hisz, Nat.mul_one]
    have hnews : ∀ (j : Nat) v, news[j]? = some v → w.cell? ((⟨b', o', none⟩ : Addr).add j) = some v := fun j v hj => by rw [add_none]; exact (q3 j v hj).1
    obtain ⟨cap, hcapge, rest, hrun0⟩ : ∃ cap, ys.length ≤ cap ∧ ∃ rest : List Value,
        (Builtin.append_ #[t, t] o.type #[.slice hd.A hd.n hd.c, .slice A' ys.length c']).run E.P w = .ok (.slice (some ⟨w.heap.size, 0, none⟩) ys.length cap) (w.drew.alloc (.cells (news ++ rest).toArray et)) := by
      rw [q1]
      have hge := grownCap_ge w (hd.n + ys.length) hd.c et
      refine ⟨grownCap w (hd.n + ys.length) hd.c et, by omega, (Builtin.zeroCells z.cells (grownCap w (hd.n + ys.length) hd.c et - (hd.n + ys.length))).toList, ?_⟩
      cases hA : hd.A with
      | none =>
        have hc0 : hd.c = 0 := by
          by_cases hc : hd.c = 0
          · exact hc
          · obtain ⟨b, arr, bty, g1, _⟩ := hown2 hc
            rw [hA] at g1
            cases g1
        rw [hc0, hn0]
        have := run_append_nil (P := E.P) w t o.type et info z hu hinfo hz ⟨b', o', none⟩ ys.length c' news hnl hnews hyp (by omega) (by
          have : ys.length * info.bytes ≤ (hd.n + ys.length) * info.bytes := Nat.mul_le_mul_right _ (by omega)
          omega)
        simp only [Nat.zero_add] at this ⊢
        rw [this]
        congr 2
        congr 1
        apply Array.ext'
        simp
      | some ad =>
        have := run_append_grow (P := E.P) w t o.type et info z hu hinfo hz ad hd.n hd.c [] (by rw [hn0]; simp) (fun j v hj => by simp at hj) ⟨b', o', none⟩ ys.length c' news hnl hnews hcap (by omega) (growslice_fits (by omega) hfitb)
        rw [this, hn0]
        simp only [Nat.zero_add]
        congr 2
        congr 1
        apply Array.ext'
        simp
    have hrun := run_of _ _ hrun0
    have hheap : ∀ b, b < w.heap.size → (w.drew.alloc (.cells (news ++ rest).toArray et)).heap[b]? = w.heap[b]? := fun b hb => Below.heap_alloc w.drew _ b (by simpa using hb)
    have hlow : Below γ.base w (w.drew.alloc (.cells (news ++ rest).toArray et)) := ⟨rfl, rfl, rfl, by simp, fun b hb => hheap b (Nat.lt_of_lt_of_le hb h.base)⟩
    refine Goes.vecBox (b := w.heap.size) (arr := (news ++ rest).toArray) (ty := et) h hC hrun hcapge (heap_alloc_new w.drew _) ?_ h.base (fun i u _ q => by have := cell_lt q; omega) (fun hm => by have := hboxlt _ hm; omega) (fun b2 ob _ hob => (hheap b2 (heap_lt_of hob)).trans hob)
      (fun ob hob => by have := heap_lt_of hob; omega) (by simp) hlow (fun k' h' _ hk' hc' hA => by
        obtain ⟨b2, arr2, ty2, g1, g2, _⟩ := (h.own.own k' h' hk').2 hc'
        rw [hA] at g1
        cases g1
        have := heap_lt_of g2
        omega) hp
    rw [← hn1]
    simp only [List.take_left]
    exact hn2
end
end Go.V
namespace Go.V
open Go.RowKit
section
variable {E : Env} {P : Program} {γ : Gh} {dead : List Tok} {C : List Nat} {a : Act} {w : World} {dst : Nat} {st st' : St}
theorem chunks_spec {ts : Ts} : ∀ {n : Nat} {ds : List D} {xs : List ts.den}, chunks ts n ds = some xs → xs.length = n ∧ flat ts xs = ds.map D.strip
  | 0, [], xs, h => by simp only [chunks, Option.some.injEq] at h; subst h; exact ⟨rfl, rfl⟩
  | 0, _ :: _, xs, h => by simp [chunks] at h
  | n + 1, ds, xs, h => by
    simp only [chunks] at h
    split at h
    · rename_i x hx
      split at h
      · rename_i ys hys
        cases h
        obtain ⟨h1, h2⟩ := chunks_spec hys
        refine ⟨by simp [h1], ?_⟩
        have h3 := unleaves_spec hx
        have e : flat ts (x :: ys) = ts.leaves x ++ flat ts ys := by simp [flat]
        rw [e, h3, h2, ← List.map_append, List.take_append_drop]
      · cases h
    · cases h
def Gh.thaw (γ : Gh) (b : Nat) : Gh := { γ with rd := fun i => if i = b then none else γ.rd i }
theorem thaw_sees {b : Nat} : Sees γ w (γ.thaw b) w := ⟨fun b' i u h1 h2 => by
  refine ⟨h2, ?_⟩
  unfold Gh.may Gh.thaw at *
  simp only
  by_cases hb : b' = b
  · simp [hb]
  · simp only [hb, if_false]; exact h1⟩
theorem Goes.sliceArr {o : Oper} {t et n bi ty : Nat} {ti te : TI} {x : Operand} {lo hi : Option Operand} {ts : Ts} {c : List D} {xs : List ts.den} {l u : Int} (hE : EnvOK E) (h : Sim γ st C a w) (_ : dstOf o ∉ C) (hop : o.op = .slice t x lo hi none)
    (ht : E.ti t = some ti) (hd : ti.d = .array n et) (hte : E.ti et = some te) (hsz : te.size = ts.size) (hx : evalO E ty (look st.regs) x = some (.one (.ref bi 0))) (hc : st.heap[bi]? = some c) (hpl : plainB c = true) (hch : chunks ts n c = some xs) (hnz : 0 < c.length)
    (h1 : effB.sliceLo lo (look st.regs) E = some l) (h2 : effB.sliceHi n hi (look st.regs) E = some u) (h0 : 0 ≤ l) (hlu : l ≤ u) (hu : u ≤ n)
    (hp : St.put { st with heap := setAt st.heap bi [] } o.dst (.one (.g (.sl ts) ((xs.take u.toNat).drop l.toNat))) = some st') : Goes E.P o γ st' C a w := by
  intro next Q hn'
  have hlk : LkOK (look st.regs) γ st.dead C a w := h.regs
  have hx1 := evalO_one hlk hx
  simp only [rdD] at hx1
  obtain ⟨b, hb, hxv⟩ := hx1
  obtain ⟨hlen, hflat⟩ := chunks_spec hch
  have htd := (hE.ti _ _ ht).desc
  rw [hd] at htd
  obtain ⟨hun, hnt⟩ := htd
  obtain ⟨info, hinfo, hisz, _⟩ := (hE.ti _ _ hte).info (hnt te hte)
  rcases h.heap.box bi c b hc hb with ⟨⟨arr, bty, e1, e2, e3⟩, e4, e5⟩ | g
  case inr => have g1 := g.plain hpl; subst g1; simp at hnz
  rw [plain_expand hpl, cutV_plain hpl] at e2 e3
  have hes : (sizeOf et).run E.P w = .ok ts.size w := by simp [sizeOf, typeInfo, hinfo, hisz, hsz]
  have hbr : ∀ (vlo vhi : Option Value), (vlo = none ∧ l = 0 ∨ ∃ k, vlo = some (.int k l)) → (vhi = none ∧ u = n ∨ ∃ k, vhi = some (.int k u)) →
      (Instr.sliceBounds false n n vlo vhi none).run E.P w = .ok (l.toNat, u.toNat, n) w := by
    rintro vlo vhi (⟨rfl, rfl⟩ | ⟨k, rfl⟩) (⟨rfl, rfl⟩ | ⟨k', rfl⟩)
    · simp [Instr.sliceBounds]
    · simp [Instr.sliceBounds, Instr.sliceBound, asIntOf, hlu, hu]
    · have : l ≤ (n : Int) := by omega
      simp [Instr.sliceBounds, Instr.sliceBound, asIntOf, h0, this]
    · have c2 : 0 ≤ u := by omega
      have c4 : l ≤ max u 0 := by omega
      simp [Instr.sliceBounds, Instr.sliceBound, asIntOf, h0, hu, c2, c4]
  have hlo := slLo_sound hlk h1
  have hhi := slHi_sound hlk h2
  have hbr := hbr (lo.map a.eval) (hi.map a.eval) (by
    rcases hlo with ⟨rfl, rfl⟩ | ⟨y, k, rfl, hy⟩
    · exact .inl ⟨rfl, rfl⟩
    · exact .inr ⟨k, by simp [hy]⟩) (by
    rcases hhi with ⟨rfl, rfl⟩ | ⟨y, k, rfl, hy⟩
    · exact .inl ⟨rfl, rfl⟩
    · exact .inr ⟨k, by simp [hy]⟩)
  have hrun : (execOp a.eval o).run E.P w = .ok (.value (.slice (some (if n = l.toNat then ⟨b, 0, none⟩ else Addr.add ⟨b, 0, none⟩ (l.toNat * ts.size))) (u.toNat - l.toNat) (n - l.toNat))) w := by
    simp [execOp, hop, hxv, Instr.sliceAt, run_underlying hun, Instr.sureAddr, hbr, hes]
  unfold Oper.wp
  rw [hrun]
  simp only [Oper.upon]
  -- what is read
  have hrl : rdL w (γ.thaw b) (flat ts xs) arr.toList := by
    rw [hflat]
    exact (rdL_map nameOnly_strip).2 (rdL_mono thaw_sees (fun _ _ h => h) _ _ e2)
  have hrc : rdC w (γ.thaw b) (flat ts xs) b 0 := rdC_of_cells fun j d hj => by
    obtain ⟨v, hv, hdv⟩ := rdL_get hrl hj
    have hv' : arr[j]? = some v := by simpa using hv
    refine ⟨v, by simp [World.cell?, e1, hv'], by simp [Gh.may, Gh.thaw], hdv⟩
  have hrows := rdC_rows ts hrc
  have hrd := sub_rdT (w := w) (γ := γ.thaw b) (A := some ⟨b, 0, none⟩) (A' := some (if n = l.toNat then ⟨b, 0, none⟩ else Addr.add ⟨b, 0, none⟩ (l.toNat * ts.size))) (l := l.toNat) (u := u.toNat) (c := n) (xs := xs)
    (fun i hi => ⟨b, 0, rfl, hrows i hi⟩) (by omega) (by omega) (by omega) (by
      intro hne
      have : ¬ n = l.toNat := by omega
      rw [if_neg this]
      rfl)
  have hblt := heap_lt_of e1
  have hext : Ext γ w (γ.thaw b) w := ⟨fun _ _ _ q => q, rfl, Nat.le_refl _, thaw_sees.cells, Below.refl _ _, fun b' hb' => by simp only [Gh.thaw]; rw [if_neg (by omega)], rfl⟩
  obtain ⟨s1, s2⟩ := setAt_spec (h := st.heap) (i := bi) (ds := [])
  have hbi : bi < st.heap.length := (List.getElem?_eq_some_iff.1 hc).1
  have hsim : Sim (γ.thaw b) { st with heap := setAt st.heap bi [] } C a w := by
    refine ⟨h.dfr, h.sz, fun s q hq => ?_, ⟨by rw [s1]; exact h.heap.len, fun i es b' hi hb' => ?_, h.heap.nodup⟩, ⟨fun k hd hk => ?_, h.own.inj⟩, fun b' hb' => ?_, h.base, h.nb⟩
    · obtain ⟨q1, q2⟩ := h.regs s q hq
      exact ⟨rdR_mono thaw_sees (fun _ _ x => x) q _ q1, tkR_mono (γ := γ) (γ' := γ.thaw b) (dead := st.dead) (dead' := st.dead) (fun _ x => x) (fun _ x => x) (fun k _ _ => .inr rfl) q _ q2⟩
    · rw [s2 i] at hi
      by_cases hib : i = bi
      · subst hib
        rw [if_pos ⟨rfl, hbi⟩] at hi
        cases hi
        rw [show (γ.thaw b).bx = γ.bx from rfl, hb] at hb'
        cases hb'
        exact .inr ⟨e5, hblt, .inl rfl⟩
      · rw [if_neg (by omega)] at hi
        have hne : b' ≠ b := fun e => by
          subst e
          exact hib (nodup_inj h.heap.nodup hb' hb)
        rcases h.heap.box i es b' hi hb' with ⟨⟨arr', ty', g1, g2, g3⟩, g4, g5⟩ | g
        · exact .inl ⟨⟨arr', ty', g1, rdL_mono thaw_sees (fun _ _ x => x) _ _ g2, tkL_mono (γ := γ) (γ' := γ.thaw b) (dead := st.dead) (dead' := st.dead) (fun _ x => x) (fun _ x => x) (fun k _ _ => .inr rfl) g3⟩, by simp only [Gh.thaw]; rw [if_neg hne]; exact g4, g5⟩
        · exact .inr (g.keep (Nat.le_refl _) (Nat.le_refl _) fun _ _ ho _ => ho)
    · refine (h.own.own k hd hk).keep rfl rfl fun b' hc' hA _ => ?_
      obtain ⟨b2, arr2, ty2, g1, g2, _, _, _, g6⟩ := (h.own.own k hd hk).2 hc'
      have hb2 : b2 = b' := by rw [g1] at hA; simpa using hA
      have hne : b' ≠ b := fun e => by
        subst e
        subst hb2
        exact g6 (List.mem_of_getElem? hb)
      exact ⟨rfl, by simp only [Gh.thaw]; rw [if_neg hne]⟩
    · simp only [Gh.thaw]
      rw [if_neg (by omega)]
      exact h.fresh b' hb'
  refine hn' _ _ _ hext (Sim.put (hsim.more (C' := addC o.dst C) fun t ht => ?_) hp fun t ht => ?_)
  · cases hdd : o.dst with
    | none => exact ht
    | some u => exact List.mem_cons_of_mem _ ht
  · exact ⟨by simp only [rdR, rdD]; exact hrd, by simp only [tkR, tkD]⟩
theorem plOne_rd {dst : Nat} {o a : Bool} {ts : Ts} {r : R} {y : ts.den} {v : Value} {w' : World} {γ' γ2 : Gh} (hy : unOne o a ts r = some y) (h : rdR w' γ' r v) : rdR w' γ2 (plOne dst a ts y) v ∧ ∀ (γ3 : Gh) (dead' : List Tok) (C' : List Nat), tkR γ3 dead' C' (plOne dst a ts y) v := by
  unfold plOne
  cases hp : plainTs ts with
  | false => exact ⟨by simp only [cond_false, rdR], fun _ _ _ => by simp only [cond_false, tkR]⟩
  | true =>
    simp only [cond_true]
    cases o with
    | true =>
      exfalso
      cases ts with
      | one t =>
        cases t with
        | sl e => simp only [plainTs, plainT, Bool.false_eq_true] at hp
        | _ => cases r <;> simp only [unOne, reduceCtorEq] at hy
      | cons t l => cases r <;> simp only [unOne, reduceCtorEq] at hy
    | false =>
      cases a with
      | true =>
        cases r <;> simp only [unOne, reduceCtorEq] at hy
        case agg ds =>
          simp only [rdR] at h
          obtain ⟨us, rfl, hr1⟩ := h
          have := unleaves_spec hy
          refine ⟨?_, fun _ _ _ => by simp [mkOne, tkR]⟩
          simp only [mkOne, rdR]
          refine ⟨us, rfl, plain_rdL (w := w') (γ := γ') ts y _ hp ?_⟩
          rw [this]
          exact (rdL_map nameOnly_strip).2 hr1
      | false =>
        cases r <;> simp only [unOne, reduceCtorEq] at hy
        case one d =>
          simp only [rdR] at h
          have hyl := unleaves_spec hy
          simp only [mkOne]
          rw [hyl]
          refine ⟨?_, fun _ _ _ => by simp only [tkR]; exact tkD_strip _ v⟩
          simp only [rdR]
          have hl1 : rdL w' γ' (ts.leaves y) [v] := by rw [hyl]; simp only [rdL]; exact ⟨rdD_strip.2 h, trivial⟩
          have := plain_rdL (w' := w') (γ' := γ2) ts y _ hp hl1
          rw [hyl] at this
          simp only [rdL, and_true] at this
          exact this
theorem mkPl_rd {dst : Nat} {w' : World} {γ' γ2 : Gh} : ∀ {l : Sh} {rs : List R} {x : l.den} {vs : List Value}, unSh l rs = some x → rdRs w' γ' rs vs → rdRs w' γ2 (mkPl dst l x) vs ∧ ∀ (γ3 : Gh) (dead' : List Tok) (C' : List Nat), tkRs γ3 dead' C' (mkPl dst l x) vs
  | [], [], x, vs, _, h => by
    cases vs with
    | nil => exact ⟨by simp only [mkPl, rdRs], fun _ _ _ => by simp only [mkPl, tkRs]⟩
    | cons v vs => simp only [rdRs] at h
  | [], _ :: _, x, vs, hy, _ => by simp only [unSh, reduceCtorEq] at hy
  | [(o, a, ts)], [], x, vs, hy, _ => by simp only [unSh, reduceCtorEq] at hy
  | [(o, a, ts)], [r], x, vs, hy, h => by
    simp only [unSh] at hy
    cases vs with
    | nil => simp only [rdRs] at h
    | cons v vs =>
      simp only [rdRs] at h
      obtain ⟨h1, h2⟩ := plOne_rd (dst := dst) (γ2 := γ2) hy h.1
      cases vs with
      | nil => exact ⟨by simp only [mkPl, rdRs]; exact ⟨h1, trivial⟩, fun g d c => by simp only [mkPl, tkRs]; exact ⟨h2 g d c, trivial⟩⟩
      | cons _ _ => exact absurd h.2 (by simp only [rdRs, not_false_eq_true])
  | [(o, a, ts)], _ :: _ :: _, x, vs, hy, _ => by simp only [unSh, reduceCtorEq] at hy
  | (o, a, ts) :: s :: l, [], x, vs, hy, _ => by simp only [unSh, reduceCtorEq] at hy
  | (o, a, ts) :: s :: l, r :: rs, x, vs, hy, h => by
    simp only [unSh] at hy
    obtain ⟨y, hy1, hy⟩ := Option.bind_eq_some_iff.1 hy
    obtain ⟨z, hy2, hy⟩ := Option.bind_eq_some_iff.1 hy
    cases hy
    cases vs with
    | nil => simp only [rdRs] at h
    | cons v vs =>
      simp only [rdRs] at h
      obtain ⟨h1, h2⟩ := plOne_rd (dst := dst) (γ2 := γ2) hy1 h.1
      obtain ⟨h3, h4⟩ := mkPl_rd (dst := dst) (γ2 := γ2) hy2 h.2
      exact ⟨by simp only [mkPl, rdRs]; exact ⟨h1, h3⟩, fun g d c => by simp only [mkPl, tkRs]; exact ⟨h2 g d c, h4 g d c⟩⟩
theorem unTup_pl {dst : Nat} {l : Sh} {r : R} {x : l.den} (hy : unTup l r = some x) (v : Value) (w' : World) (γ' γ2 : Gh) (h : rdR w' γ' r v) : rdR w' γ2 (.tup (mkPl dst l x)) v ∧ ∀ (γ3 : Gh) (dead' : List Tok) (C' : List Nat), tkR γ3 dead' C' (.tup (mkPl dst l x)) v := by
  cases r with
  | tup rs =>
    simp only [unTup] at hy
    simp only [rdR] at h
    obtain ⟨vs, rfl, h⟩ := h
    obtain ⟨h1, h2⟩ := mkPl_rd (dst := dst) (γ2 := γ2) hy h
    exact ⟨by simp only [rdR]; exact ⟨vs, rfl, h1⟩, fun g d c => by simp only [tkR]; exact h2 g d c⟩
  | _ => simp only [unTup, reduceCtorEq] at hy
theorem q_callLendT {o : Oper} {c : Call} {x : Operand} {g : Nat} {caps : List D} {args as : List R} {cp : CallP} {lk : Nat → Option R} {ty : Nat} {r q : R} (hE : EnvOK E) (hcp : PureOK E cp) (hop : o.op = .call c) (hc : c.callee = .value x)
    (hf : ∀ b, w.heap.size ≤ b → γ.rd b = none) (hbase : γ.base ≤ w.heap.size) (hbx : ∀ b ∈ γ.bx, b < w.heap.size) (hl : LkOK lk γ dead C a w) (h1 : rdD w γ (.fn g caps) (a.eval x)) (ha : mapO (evalO E ty lk) c.args.toList = some args)
    (hread : ∀ vs, rdRs w γ args vs → rdRs w γ.open as vs) (hr : cp g ((as ++ caps.map R.one).map (R.map D.strip)) = some r) (hq : ∀ (v : Value) (w' : World) (γ' γ2 : Gh), rdR w' γ' r v → rdR w' γ2 q v ∧ ∀ (γ3 : Gh) (dead' : List Tok) (C' : List Nat), tkR γ3 dead' C' q v) : Quiet E.P o a γ dead C w q := by
  intro next Q h
  simp only [rdD] at h1
  obtain ⟨vs, hv, hcaps⟩ := h1
  obtain ⟨fn, hfn, hb⟩ := (hcp g _ r hr).1
  unfold Oper.wp
  rw [run_call hE hop hc hv hfn hb]
  simp only [Oper.upon]
  have hargs : rdRs w γ.open ((as ++ caps.map R.one).map (R.map D.strip)) (c.args.toList.map a.eval ++ vs.toList) := rdRs_strip (rdRs_append (hread _ (rdRs_of_args hl ha)) (rdRs_of_caps (rdL_mono open_sees (fun _ _ x => x) _ _ hcaps)))
  have hcall := (hcp g _ r hr).2 γ.open w _ (dstOf o) hargs (fun b hb' => by
    simp only [Gh.open]
    rw [if_neg (fun hm => by have := hbx b hm; omega)]
    exact hf b hb') hbase hbx
  have e : (c.args.toList.map a.eval ++ vs.toList).toArray = c.args.map a.eval ++ vs := by apply Array.ext'; simp
  rw [e] at hcall
  refine hcall.mono fun e w' ⟨v, γ', he, hg, hr1, ho⟩ => ?_
  subst he
  -- the boxes are closed again
  have hg2 : Grow γ w { γ' with rd := fun b => if b < w.heap.size then γ.rd b else γ'.rd b } w' (dstOf o) := by
    refine ⟨hg.below, hg.bx, hg.nb, hg.base, fun b hb' => by simp only; rw [if_pos hb'], fun b hb' => ?_, hg.ow, fun hd hh => ?_⟩
    · have := hg.below.size
      simp only
      rw [if_neg (by omega)]
      exact hg.fresh b hb'
    · obtain ⟨h2, h3⟩ := hg.new hd hh
      refine ⟨⟨h2.1, fun hc0 => ?_⟩, h3⟩
      obtain ⟨b, arr, ty, e1, e2, e3, e4, e5, e6⟩ := h2.2 hc0
      have := h3 hc0 b 0 none e1
      refine ⟨b, arr, ty, e1, e2, e3, ?_, e5, e6⟩
      simp only
      rw [if_neg (by omega)]
      exact e4
  exact h v _ w' hg2 (hq v w' γ' _ hr1).1 ((hq v w' γ' γ' hr1).2 _ _ _)
theorem q_callLend {o : Oper} {c : Call} {x : Operand} {g : Nat} {caps : List D} {args as : List R} {cp : CallP} {lk : Nat → Option R} {ty : Nat} {r : R} {ag : Bool} {ts : Ts} {y : ts.den} (hE : EnvOK E) (hcp : PureOK E cp) (hop : o.op = .call c) (hc : c.callee = .value x)
    (hf : ∀ b, w.heap.size ≤ b → γ.rd b = none) (hbase : γ.base ≤ w.heap.size) (hbx : ∀ b ∈ γ.bx, b < w.heap.size) (hl : LkOK lk γ dead C a w) (h1 : rdD w γ (.fn g caps) (a.eval x)) (ha : mapO (evalO E ty lk) c.args.toList = some args)
    (hread : ∀ vs, rdRs w γ args vs → rdRs w γ.open as vs) (hr : cp g ((as ++ caps.map R.one).map (R.map D.strip)) = some r) (hy : unOne false ag ts r = some y) (hp : plainTs ts = true) : Quiet E.P o a γ dead C w (mkOne (dstOf o) false ag ts y) := by
  intro next Q h
  simp only [rdD] at h1
  obtain ⟨vs, hv, hcaps⟩ := h1
  obtain ⟨fn, hfn, hb⟩ := (hcp g _ r hr).1
  unfold Oper.wp
  rw [run_call hE hop hc hv hfn hb]
  simp only [Oper.upon]
  have hargs : rdRs w γ.open ((as ++ caps.map R.one).map (R.map D.strip)) (c.args.toList.map a.eval ++ vs.toList) := rdRs_strip (rdRs_append (hread _ (rdRs_of_args hl ha)) (rdRs_of_caps (rdL_mono open_sees (fun _ _ x => x) _ _ hcaps)))
  have hcall := (hcp g _ r hr).2 γ.open w _ (dstOf o) hargs (fun b hb' => by
    simp only [Gh.open]
    rw [if_neg (fun hm => by have := hbx b hm; omega)]
    exact hf b hb') hbase hbx
  have e : (c.args.toList.map a.eval ++ vs.toList).toArray = c.args.map a.eval ++ vs := by apply Array.ext'; simp
  rw [e] at hcall
  refine hcall.mono fun e w' ⟨v, γ', he, hg, hr1, ho⟩ => ?_
  subst he
  -- the boxes are closed again
  have hg2 : Grow γ w { γ' with rd := fun b => if b < w.heap.size then γ.rd b else γ'.rd b } w' (dstOf o) := by
    refine ⟨hg.below, hg.bx, hg.nb, hg.base, fun b hb' => by simp only; rw [if_pos hb'], fun b hb' => ?_, hg.ow, fun hd hh => ?_⟩
    · have := hg.below.size
      simp only
      rw [if_neg (by omega)]
      exact hg.fresh b hb'
    · obtain ⟨h2, h3⟩ := hg.new hd hh
      refine ⟨⟨h2.1, fun hc0 => ?_⟩, h3⟩
      obtain ⟨b, arr, ty, e1, e2, e3, e4, e5, e6⟩ := h2.2 hc0
      have := h3 hc0 b 0 none e1
      refine ⟨b, arr, ty, e1, e2, e3, ?_, e5, e6⟩
      simp only
      rw [if_neg (by omega)]
      exact e4
  refine h v _ w' hg2 ?_ ?_
  · cases ag with
    | true =>
      cases r <;> simp only [unOne, reduceCtorEq] at hy
      case agg ds =>
        simp only [rdR] at hr1
        obtain ⟨us, rfl, hr1⟩ := hr1
        have := unleaves_spec hy
        simp only [mkOne, rdR]
        refine ⟨us, rfl, plain_rdL (w := w') (γ := γ') ts y _ hp ?_⟩
        rw [this]
        exact (rdL_map nameOnly_strip).2 hr1
    | false =>
      cases r <;> simp only [unOne, reduceCtorEq] at hy
      case one d =>
        simp only [rdR] at hr1
        have hyl := unleaves_spec hy
        simp only [mkOne]
        rw [hyl]
        simp only [rdR]
        have hl1 : rdL w' γ' (ts.leaves y) [v] := by rw [hyl]; simp only [rdL]; exact ⟨rdD_strip.2 hr1, trivial⟩
        have := plain_rdL (w' := w') (γ' := { γ' with rd := fun b => if b < w.heap.size then γ.rd b else γ'.rd b }) ts y _ hp hl1
        rw [hyl] at this
        simp only [rdL, and_true] at this
        exact this
  · cases ag with
    | true => simp [mkOne, tkR]
    | false =>
      cases r <;> simp only [unOne, reduceCtorEq] at hy
      case one d =>
        have hyl := unleaves_spec hy
        simp only [mkOne]
        rw [hyl]
        simp only [tkR]
        exact tkD_strip _ v
end
end Go.V
