/- Operations that write: a new box, a store into a box, an append. -/
import Derived.Test.YtelfooangijedaaOps6
namespace Go.V
open Go.RowKit

section
variable {E : Env} {P : Program} {γ : Gh} {dead : List Tok} {C : List Nat} {a : Act} {w : World} {dst : Nat} {st st' : St}

/-- What is shown of an operation: the state behind it is the evaluator's. -/
def Goes (P : Program) (o : Oper) (γ : Gh) (st' : St) (C : List Nat) (a : Act) (w : World) : Prop :=
  ∀ (next : Act → World → Prop) (Q : Exit → Act → World → Prop), (∀ v γ' w', Ext γ w γ' w' → Sim γ' st' (addC o.dst C) (a.put o.dst v) w' → next (a.put o.dst v) w') → o.wp P a w next Q

theorem dstOf_some {o : Oper} {t : Nat} (h : o.dst = some t) : dstOf o = t := by simp [dstOf, h]

theorem Goes.quiet {o : Oper} {r : R} (h : Sim γ st C a w) (hC : dstOf o ∉ C) (hq : Quiet P o a γ st.dead C w r) (hp : St.put st o.dst r = some st') : Goes P o γ st' C a w := by
  intro next Q hn
  refine hq next Q fun v γ' w' hg hr ht => ?_
  obtain ⟨h1, h2, h3⟩ := h.grow hC hg
  have hsim : Sim γ' st C a w' := ⟨h.dfr, h.sz, h1, h2, h3, hg.fresh, by rw [hg.base]; exact Nat.le_trans h.base hg.below.size⟩
  refine hn v γ' w' (hg.ext h.base) ?_
  refine Sim.put (hsim.more (C' := addC o.dst C) fun t ht => ?_) hp fun t ht => ?_
  · cases hd : o.dst with
    | none => exact ht
    | some u => exact List.mem_cons_of_mem _ ht
  · rename_i hte
    have e := dstOf_some ht
    rw [ht]
    simp only [addC]
    exact ⟨hr, by rw [← e]; exact hte⟩

theorem scalar_one {v : Value} (h : Value.scalar v) : v.oneCell' = true := by cases v <;> first | rfl | exact h.elim

/-! ### A new box -/
def Gh.box (γ : Gh) (dst b : Nat) : Gh := { γ.drop dst with bx := γ.bx ++ [b], rd := fun i => if i = b then some 0 else γ.rd i }
theorem Goes.push {o : Oper} {ds : List D} {vs : Array Value} {ty : Nat} (h : Sim γ st C a w) (hC : dstOf o ∉ C) (hrun : (execOp a.eval o).run P w = .ok (.value (.pointer (some ⟨w.heap.size, 0, none⟩))) (w.alloc (.cells vs ty)))
    (hd : rdL w γ ds vs.toList) (hs : ds.map D.strip = ds) (hp : St.put { st with heap := st.heap ++ [ds] } o.dst (.one (.ref st.heap.length 0)) = some st') : Goes P o γ st' C a w := by
  intro next Q hn
  unfold Oper.wp
  rw [hrun]
  simp only [Oper.upon]
  have hsees : Sees γ w (γ.box (dstOf o) w.heap.size) (w.alloc (.cells vs ty)) := ⟨fun b i u h1 h2 => by
    have hlt := cell_lt h2
    refine ⟨by rw [World.cell?_alloc_lt _ _ _ hlt]; exact h2, (may_congr ?_).2 h1⟩
    simp only [Gh.box]
    rw [if_neg (by omega)]⟩
  have hbx : ∀ (i b : Nat), γ.bx[i]? = some b → (γ.box (dstOf o) w.heap.size).bx[i]? = some b := fun i b hi => by
    have hlt := (List.getElem?_eq_some_iff.1 hi).1
    simp only [Gh.box]
    rw [List.getElem?_append_left hlt]
    exact hi
  have hext : Ext γ w (γ.box (dstOf o) w.heap.size) (w.alloc (.cells vs ty)) :=
    ⟨hbx, rfl, by simp, hsees.cells, (Below.refl _ _).alloc h.base _, fun b hb => by have := h.base; simp only [Gh.box]; rw [if_neg (by omega)]⟩
  have hnew : ∀ k, (∀ t, k = .s t → t ∈ C) → (γ.box (dstOf o) w.heap.size).ow k = γ.ow k := fun k hk => by
    have : k ≠ .s (dstOf o) := fun e => hC (hk _ e)
    simp [Gh.box, Gh.drop, this]
  have holdlt := h.heap.lt
  have hsim : Sim (γ.box (dstOf o) w.heap.size) { st with heap := st.heap ++ [ds] } C a (w.alloc (.cells vs ty)) := by
    refine ⟨h.dfr, h.sz, fun s r hr => ?_, ⟨?_, fun i es b' hi hb => ?_, ?_⟩, ⟨fun k hd hk => ?_, fun k k' hd hd' hk hk' hne => ?_⟩, fun b hb => ?_, ?_⟩
    · obtain ⟨h1, h2⟩ := h.regs s r hr
      exact ⟨rdR_mono hsees hbx r _ h1, tkR_mono (fun _ x => x) (fun _ x => x) (fun k hk _ => .inr (hnew k hk)) r _ h2⟩
    · simp [Gh.box, h.heap.len]
    · by_cases hlt : i < st.heap.length
      · rw [List.getElem?_append_left hlt] at hi
        have hlt' : i < γ.bx.length := by rw [← h.heap.len]; exact hlt
        simp only [Gh.box] at hb
        rw [List.getElem?_append_left hlt'] at hb
        rcases h.heap.box i es b' hi hb with ⟨⟨arr, ty', e1, e2, e3⟩, e4, e5⟩ | ⟨g1, g2, g3⟩
        case inr => exact .inr ⟨g1, g2, by simp; omega⟩
        have hl := heap_lt_of e1
        refine .inl ⟨⟨arr, ty', (Below.heap_alloc _ _ _ hl).trans e1, rdL_mono hsees hbx _ _ e2, tkL_mono (fun _ x => x) (fun _ x => x) (fun k hk _ => .inr (hnew k hk)) e3⟩, ?_, e5⟩
        simp only [Gh.box]
        rw [if_neg (by omega)]
        exact e4
      · have hi' : i = st.heap.length := by
          have := (List.getElem?_eq_some_iff.1 hi).1
          simp at this
          omega
        subst hi'
        simp at hi
        subst hi
        simp only [Gh.box] at hb
        rw [h.heap.len] at hb
        simp at hb
        subst hb
        refine .inl ⟨⟨vs, ty, heap_alloc_new w _, rdL_mono hsees hbx _ _ hd, ?_⟩, by simp [Gh.box], h.base⟩
        rw [← hs]
        have key : ∀ (l : List D) (u : List Value), tkL (γ.box (dstOf o) w.heap.size) st.dead C (l.map D.strip) u := by
          intro l
          induction l with
          | nil => intro u; simp [tkL]
          | cons d l ih => intro u; cases u with
            | nil => simp [tkL]
            | cons v u => simp only [List.map_cons, tkL]; exact ⟨tkD_strip d v, ih u⟩
        exact key ds vs.toList
    · simp only [Gh.box]
      refine List.nodup_append.2 ⟨h.heap.nodup, by simp, fun x hx y hy => ?_⟩
      simp at hy
      subst hy
      obtain ⟨i, hi, he⟩ := List.mem_iff_getElem.1 hx
      have := holdlt i x (by rw [List.getElem?_eq_getElem hi]; exact congrArg some he)
      omega
    · simp only [Gh.box, Gh.drop] at hk
      split at hk
      · cases hk
      · have ho := h.own.own k hd hk
        refine ⟨ho.1, fun hc => ?_⟩
        obtain ⟨b1, arr, ty', q1, q2, q3, q4, q5, q6⟩ := ho.2 hc
        have hl := heap_lt_of q2
        refine ⟨b1, arr, ty', q1, (Below.heap_alloc _ _ _ hl).trans q2, q3, ?_, q5, ?_⟩
        · simp only [Gh.box]
          rw [if_neg (by omega)]
          exact q4
        · simp only [Gh.box, List.mem_append, List.mem_singleton]
          intro hm
          rcases hm with hm | hm
          · exact q6 hm
          · omega
    · simp only [Gh.box, Gh.drop] at hk hk'
      split at hk
      · cases hk
      · split at hk'
        · cases hk'
        · exact h.own.inj k k' hd hd' hk hk' hne
    · simp at hb
      simp only [Gh.box]
      rw [if_neg (by omega)]
      exact h.fresh b (by omega)
    · have := h.base
      simp only [Gh.box, Gh.drop, World.size_alloc]
      omega
  refine hn _ _ _ hext (Sim.put (hsim.more (C' := addC o.dst C) fun t ht => ?_) hp fun t ht => ?_)
  · cases hdd : o.dst with
    | none => exact ht
    | some u => exact List.mem_cons_of_mem _ ht
  · refine ⟨?_, by simp [tkR, tkD]⟩
    simp only [rdR, rdD]
    refine ⟨w.heap.size, ?_, rfl⟩
    simp only [Gh.box]
    rw [h.heap.len]
    simp

/-! ### A store into a box -/
theorem tkL_get : ∀ {ds : List D} {vs : List Value} {i : Nat} {d : D} {v : Value}, tkL γ dead C ds vs → ds[i]? = some d → vs[i]? = some v → tkD γ dead C d v
  | d :: ds, v :: vs, 0, q, u, h, hi, hv => by
    simp only [tkL] at h
    simp at hi hv
    exact hi ▸ hv ▸ h.1
  | d :: ds, v :: vs, i + 1, q, u, h, hi, hv => by
    simp only [tkL] at h
    exact tkL_get h.2 (by simpa using hi) (by simpa using hv)
  | [], _, _, _, _, _, hi, _ => by simp at hi
  | _ :: _, [], _, _, _, _, _, hv => by simp at hv
theorem tkL_of_get : ∀ {ds : List D} {vs : List Value}, (∀ (i : Nat) d v, ds[i]? = some d → vs[i]? = some v → tkD γ dead C d v) → tkL γ dead C ds vs
  | [], _, _ => by simp only [tkL]
  | _ :: _, [], _ => by simp only [tkL]
  | d :: ds, v :: vs, h => by
    simp only [tkL]
    exact ⟨h 0 d v rfl rfl, tkL_of_get fun i x y hx hy => h (i + 1) x y (by simpa using hx) (by simpa using hy)⟩
theorem setAt_spec : ∀ {h : Heap} {i : Nat} {ds : List D}, (setAt h i ds).length = h.length ∧ ∀ j : Nat, (setAt h i ds)[j]? = if j = i ∧ i < h.length then some ds else h[j]?
  | [], i, ds => by cases i <;> simp [setAt]
  | x :: h, 0, ds => by
    refine ⟨rfl, fun j => ?_⟩
    cases j <;> simp [setAt]
  | x :: h, i + 1, ds => by
    obtain ⟨h1, h2⟩ := setAt_spec (h := h) (i := i) (ds := ds)
    refine ⟨by simp [setAt, h1], fun j => ?_⟩
    cases j with
    | zero => simp [setAt]
    | succ j => simp [setAt, h2 j]
theorem nodup_inj {l : List Nat} {i j x : Nat} (h : l.Nodup) (hi : l[i]? = some x) (hj : l[j]? = some x) : i = j := by
  have h' : l.Pairwise (· ≠ ·) := h
  rw [List.pairwise_iff_getElem] at h'
  obtain ⟨a1, a2⟩ := List.getElem?_eq_some_iff.1 hi
  obtain ⟨b1, b2⟩ := List.getElem?_eq_some_iff.1 hj
  rcases Nat.lt_trichotomy i j with h1 | h1 | h1
  · exact absurd (a2.trans b2.symm) (h' i j a1 b1 h1)
  · exact h1
  · exact absurd (b2.trans a2.symm) (h' j i b1 a1 h1)
theorem put_get {α : Type} {l vs : List α} {o : Nat} (h : o + vs.length ≤ l.length) (p : Nat) : (l.take o ++ vs ++ l.drop (o + vs.length))[p]? = if o ≤ p ∧ p < o + vs.length then vs[p - o]? else l[p]? := by
  have h1 : (l.take o).length = o := by simp; omega
  by_cases hp : p < o
  · rw [if_neg (by omega), List.append_assoc, List.getElem?_append_left (by omega), List.getElem?_take, if_pos hp]
  · by_cases hp2 : p < o + vs.length
    · rw [if_pos (by omega), List.append_assoc, List.getElem?_append_right (by omega), h1, List.getElem?_append_left (by omega)]
    · rw [if_neg (by omega), List.getElem?_append_right (by simp; omega), List.getElem?_drop]
      congr 1
      simp
      omega
theorem cellsD_sound {r : R} {v : Value} (hl : r.lays = true) (h : rdR w γ r v) (ht : tkR γ dead C r v) : rdL w γ r.cellsD v.cells.toList ∧ tkL γ dead C r.cellsD v.cells.toList := by
  cases r <;> simp only [R.lays, reduceCtorEq] at hl
  case one d =>
    simp only [rdR] at h
    simp only [tkR] at ht
    have hs := rdD_scalar h
    have : v.cells = #[v] := by cases v <;> first | rfl | exact hs.elim
    rw [this]
    simp only [R.cellsD, rdL, tkL]
    exact ⟨⟨h, trivial⟩, ht, trivial⟩
  case agg ds =>
    refine ⟨leaves_sound rfl h, ?_⟩
    refine tkL_of_get fun i d u hd _ => ?_
    simp only [R.cellsD, R.leaves, List.getElem?_map, Option.map_eq_some_iff] at hd
    obtain ⟨d', _, rfl⟩ := hd
    exact tkD_strip d' u
theorem Goes.store {o : Oper} {t bi off : Nat} {ti : TI} {x v : Operand} {r : R} {c c' : List D} {ty ty' : Nat} (hE : EnvOK E) (h : Sim γ st C a w) (hop : o.op = .store t x v) (ht : E.ti t = some ti) (hn : ∀ ts, ti.d ≠ .tup ts)
    (hx : evalO E ty (look st.regs) x = some (.one (.ref bi off))) (hv : evalO E ty' (look st.regs) v = some r) (hl : r.lays = true) (hsz : r.cellsD.length = ti.size) (hc : st.heap[bi]? = some c) (hput : putAt c off r.cellsD = some c')
    (hp : St.put { st with heap := setAt st.heap bi c' } o.dst .undef = some st') (hpos : r.cellsD ≠ []) : Goes E.P o γ st' C a w := by
  intro next Q hn'
  have hlk : LkOK (look st.regs) γ st.dead C a w := h.regs
  have h1 := evalO_one hlk hx
  simp only [rdD] at h1
  obtain ⟨b, hb, hxv⟩ := h1
  obtain ⟨hv1, hv2⟩ := evalO_sound hlk hv
  obtain ⟨hr, htk⟩ := cellsD_sound hl hv1 hv2
  obtain ⟨info, hinfo, hisz, _⟩ := (hE.ti _ _ ht).info hn
  obtain ⟨p1, p2, p3⟩ := putAt_spec hput
  rcases h.heap.box bi c b hc hb with ⟨⟨arr, bty, e1, e2, e3⟩, e4, e5⟩ | ⟨g1, _, _⟩
  case inr =>
    have q := p2 hpos
    rw [g1] at q
    have q2 := List.length_pos_iff.2 hpos
    simp only [List.length_nil] at q
    omega
  have hlen1 := rdL_length hr
  have hlen2 := rdL_length e2
  have hfit : off + (a.eval v).cells.toList.length ≤ arr.toList.length := by have := p2 hpos; omega
  have hone : ∀ u ∈ (a.eval v).cells.toList, u.oneCell' = true := fun u hu => scalar_one (rdL_scalar hr u hu)
  have hst := run_storeCells_at E.P b off bty (a.eval v).cells.toList 0 arr w e1 (by simpa using hfit) hone
  simp only [Nat.add_zero] at hst
  have hcs : (a.eval v).cells.size = info.size := by
    have : (a.eval v).cells.toList.length = info.size := by rw [← hlen1, hsz, hisz]
    simpa using this
  unfold Oper.wp
  have hrun : (execOp a.eval o).run E.P w = .ok .skip (w.setRow b (arr.toList.take off ++ (a.eval v).cells.toList ++ arr.toList.drop (off + (a.eval v).cells.toList.length)).toArray) := by
    simp [execOp, hop, hxv, Instr.storeAt, Instr.sureAddr, storeVar, sizeOf, typeInfo, hinfo, hcs, hst]
  rw [hrun]
  simp only [Oper.upon]
  generalize hnew : (arr.toList.take off ++ (a.eval v).cells.toList ++ arr.toList.drop (off + (a.eval v).cells.toList.length)) = newl
  have hget : ∀ p : Nat, newl[p]? = if off ≤ p ∧ p < off + (a.eval v).cells.toList.length then (a.eval v).cells.toList[p - off]? else arr.toList[p]? := fun p => by rw [← hnew]; exact put_get hfit p
  have hbase := e5
  have hsees : Sees γ w γ (w.setRow b newl.toArray) := ⟨fun b' i u q1 q2 => by
    have hne : b' ≠ b := fun e => by
      subst e
      simp [Gh.may, e4] at q1
    exact ⟨(cell_block (setRow_other w b b' _ hne)).trans q2, q1⟩⟩
  have hext : Ext γ w γ (w.setRow b newl.toArray) :=
    ⟨fun _ _ q => q, rfl, by simp, hsees.cells, ⟨rfl, rfl, rfl, by simp, fun k hk => setRow_other w b k _ (by omega)⟩, fun _ _ => rfl⟩
  obtain ⟨s1, s2⟩ := setAt_spec (h := st.heap) (i := bi) (ds := c')
  have hbi : bi < st.heap.length := (List.getElem?_eq_some_iff.1 hc).1
  have hsim : Sim γ { st with heap := setAt st.heap bi c' } C a (w.setRow b newl.toArray) := by
    refine ⟨h.dfr, h.sz, fun s q hq => ?_, ⟨by rw [s1]; exact h.heap.len, fun i es b' hi hb' => ?_, h.heap.nodup⟩, ⟨fun k hd hk => ?_, h.own.inj⟩, fun b' hb' => h.fresh b' (by simpa using hb'), by simpa using h.base⟩
    · obtain ⟨q1, q2⟩ := h.regs s q hq
      exact ⟨rdR_mono hsees (fun _ _ x => x) q _ q1, q2⟩
    · rw [s2 i] at hi
      by_cases hib : i = bi
      · subst hib
        rw [if_pos ⟨rfl, hbi⟩] at hi
        cases hi
        rw [hb] at hb'
        cases hb'
        refine .inl ⟨⟨newl.toArray, bty, setRow_heap w b arr _ bty _ e1, ?_, ?_⟩, e4, e5⟩
        · refine rdL_of_get ?_ fun p d u hd hu => ?_
          · rw [p1, hlen2, ← hnew]
            simp
            simp at hfit
            omega
          · have hu' : newl[p]? = some u := by simpa using hu
            rw [hget p] at hu'
            rw [p3 p] at hd
            by_cases hpp : off ≤ p ∧ p < off + (a.eval v).cells.toList.length
            · rw [if_pos hpp] at hu'
              rw [if_pos (by omega)] at hd
              obtain ⟨u1, g1, g2⟩ := rdL_get hr hd
              rw [g1] at hu'
              cases hu'
              exact rdD_mono hsees (fun _ _ x => x) d _ g2
            · rw [if_neg hpp] at hu'
              rw [if_neg (by omega)] at hd
              obtain ⟨u1, g1, g2⟩ := rdL_get e2 hd
              rw [g1] at hu'
              cases hu'
              exact rdD_mono hsees (fun _ _ x => x) d _ g2
        · refine tkL_of_get fun p d u hd hu => ?_
          have hu' : newl[p]? = some u := by simpa using hu
          rw [hget p] at hu'
          rw [p3 p] at hd
          by_cases hpp : off ≤ p ∧ p < off + (a.eval v).cells.toList.length
          · rw [if_pos hpp] at hu'
            rw [if_pos (by omega)] at hd
            exact tkL_get htk hd hu'
          · rw [if_neg hpp] at hu'
            rw [if_neg (by omega)] at hd
            exact tkL_get e3 hd hu'
      · rw [if_neg (by omega)] at hi
        have hne : b' ≠ b := fun e => by
          subst e
          exact hib (nodup_inj h.heap.nodup hb' hb)
        rcases h.heap.box i es b' hi hb' with ⟨⟨arr', ty', g1, g2, g3⟩, g4, g5⟩ | ⟨g1, g2, g3⟩
        case inr => exact .inr ⟨g1, g2, by simpa using g3⟩
        exact .inl ⟨⟨arr', ty', (setRow_other w b b' _ hne).trans g1, rdL_mono hsees (fun _ _ x => x) _ _ g2, g3⟩, g4, g5⟩
    · refine (h.own.own k hd hk).keep rfl rfl fun b' hc' hA _ => ?_
      obtain ⟨b2, arr2, ty2, g1, g2, _, _, _, g6⟩ := (h.own.own k hd hk).2 hc'
      have hb2 : b2 = b' := by rw [g1] at hA; simpa using hA
      have hne : b' ≠ b := fun e => by
        subst e
        subst hb2
        exact g6 (List.mem_of_getElem? hb)
      exact ⟨setRow_other w b b' _ hne, rfl⟩
  refine hn' _ _ _ hext (Sim.put (hsim.more (C' := addC o.dst C) fun t ht => ?_) hp fun t ht => ?_)
  · cases hdd : o.dst with
    | none => exact ht
    | some u => exact List.mem_cons_of_mem _ ht
  · exact ⟨by simp only [rdR], by simp only [tkR]⟩
end
end Go.V
