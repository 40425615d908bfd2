/- Operations that lay new memory, structs and arrays as values, slices, calls. -/
import Derived.Test.YtelfooangijedaaOps2
namespace Go.V
open Go.RowKit

section
variable {E : Env} {P : Program} {γ : Gh} {dead : List Tok} {C : List Nat} {a : Act} {w : World} {dst : Nat}

theorem sees_refl : Sees γ w (γ.drop dst) w := ⟨fun _ _ _ h1 h2 => ⟨h2, h1⟩⟩

theorem get_take {α : Type} {l : List α} {n j : Nat} {v : α} (h : (l.take n)[j]? = some v) : l[j]? = some v := by
  rw [List.getElem?_take] at h
  split at h
  · exact h
  · cases h
theorem asR_form {b : Bool} {ds : List D} {r : R} (h : asR b ds = some r) : (∃ d, r = .one d) ∨ ∃ l, r = .agg l := by
  unfold asR at h
  split at h
  · cases h; exact .inr ⟨_, rfl⟩
  · split at h
    · cases h; exact .inl ⟨_, rfl⟩
    · cases h
/-! ### A load out of a box -/
theorem rdL_take : ∀ {ds : List D} {vs : List Value} {n : Nat}, rdL w γ ds vs → rdL w γ (ds.take n) (vs.take n)
  | [], [], n, _ => by simp [rdL]
  | _ :: _, _ :: _, 0, _ => by simp [rdL]
  | d :: ds, v :: vs, n + 1, h => by
    simp only [rdL] at h
    simp only [List.take_succ_cons, rdL]
    exact ⟨h.1, rdL_take h.2⟩
  | [], _ :: _, _, h => by simp only [rdL] at h
  | _ :: _, [], _, h => by simp only [rdL] at h
theorem rdL_drop' : ∀ {ds : List D} {vs : List Value} {n : Nat}, rdL w γ ds vs → rdL w γ (ds.drop n) (vs.drop n)
  | [], [], n, _ => by simp [rdL]
  | d :: ds, v :: vs, 0, h => by simpa using h
  | d :: ds, v :: vs, n + 1, h => by
    simp only [rdL] at h
    simpa using rdL_drop' h.2
  | [], _ :: _, _, h => by simp only [rdL] at h
  | _ :: _, [], _, h => by simp only [rdL] at h
theorem tkL_drop : ∀ {ds : List D} {vs : List Value} {n : Nat}, tkL γ dead C ds vs → tkL γ dead C (ds.drop n) (vs.drop n)
  | d :: ds, v :: vs, n + 1, h => by
    simp only [tkL] at h
    simpa using tkL_drop h.2
  | ds, vs, 0, h => by simpa using h
  | [], vs, n + 1, h => by simp [tkL]
  | d :: ds, [], n + 1, h => by
    simp only [List.drop_nil, List.drop_succ_cons]
    cases ds.drop n <;> simp [tkL]
theorem q_loadRef {o : Oper} {t i off : Nat} {ti : TI} {x : Operand} {c ds : List D} {r : R} {hp : Heap} (hE : EnvOK E) (hop : o.op = .load t x) (hf : ∀ b, w.heap.size ≤ b → γ.rd b = none) (hC : dstOf o ∉ C) (ht : E.ti t = some ti) (hn : ∀ ts, ti.d ≠ .tup ts)
    (hh : HeapOK γ hp dead C w) (hd : rdD w γ (.ref i off) (a.eval x)) (hi : hp[i]? = some c) (htk : takeD ti.size (c.drop off) = some ds) (ha : asR ti.agg ds = some r) (hpos : 0 < ti.size) : Quiet E.P o a γ dead C w r := by
  simp only [rdD] at hd
  obtain ⟨b, hb, hv⟩ := hd
  obtain ⟨h1, h2⟩ := takeD_some htk
  rcases hh.box i c b hi hb with ⟨⟨arr, ty, e1, e2, e3⟩, _, _⟩ | ⟨g1, _, _⟩
  case inr => subst g1; simp at h1; omega
  subst h2
  have hlen := rdL_length e2
  have hr := rdL_take (n := ti.size) (rdL_drop' (n := off) e2)
  obtain ⟨v, hrun, hrr, hone⟩ := run_load (w := w) hE ht hn (b := b) (o := off) (vs := (arr.toList.drop off).take ti.size) (by
      have h1' : ti.size ≤ (arr.toList.drop off).length := by
        have : (c.drop off).length = (arr.toList.drop off).length := by simp only [List.length_drop]; omega
        omega
      simp only [List.length_take]; omega) (fun j v hj => by
      have hj' := get_take hj
      simp only [List.getElem?_drop] at hj'
      simp only [World.cell?, e1]
      simpa using hj') hr ha
  refine .here hf (v := v) (by simp [execOp, hop, hv, Instr.loadAt, Instr.sureAddr, hrun]) hrr ?_
  apply tkR_drop hC
  rcases asR_form ha with ⟨d, rfl⟩ | ⟨l, rfl⟩
  · obtain ⟨q1, q2⟩ := hone d rfl
    simp only [tkR]
    have e4 := tkL_drop (n := off) e3
    cases hds : c.drop off with
    | nil => rw [hds] at q1; simp at q1
    | cons x xs =>
      cases hvs : arr.toList.drop off with
      | nil => rw [hvs] at q2; simp at q2
      | cons y ys =>
        rw [hds, hvs] at e4
        rw [hds] at q1
        rw [hvs] at q2
        simp only [tkL] at e4
        cases hn' : ti.size with
        | zero => rw [hn'] at q1; simp at q1
        | succ m =>
          rw [hn'] at q1 q2
          simp at q1 q2
          exact q1.1 ▸ q2.1 ▸ e4.1
  · simp only [tkR]

theorem ref_load {t i off : Nat} {ti : TI} {u : Value} {c ds : List D} {r : R} {hp : Heap} (hE : EnvOK E) (ht : E.ti t = some ti) (hn : ∀ ts, ti.d ≠ .tup ts)
    (hh : HeapOK γ hp dead C w) (hd : rdD w γ (.ref i off) u) (hi : hp[i]? = some c) (htk : takeD ti.size (c.drop off) = some ds) (ha : asR ti.agg ds = some r) (hpos : 0 < ti.size) : ∃ ad v, u = .pointer (some ad) ∧ (loadVar t ad).run E.P w = .ok v w ∧ rdR w γ r v ∧ tkR γ dead C r v := by
  simp only [rdD] at hd
  obtain ⟨b, hb, hv⟩ := hd
  obtain ⟨h1, h2⟩ := takeD_some htk
  rcases hh.box i c b hi hb with ⟨⟨arr, ty, e1, e2, e3⟩, _, _⟩ | ⟨g1, _, _⟩
  case inr => subst g1; simp at h1; omega
  subst h2
  have hlen := rdL_length e2
  have hr := rdL_take (n := ti.size) (rdL_drop' (n := off) e2)
  obtain ⟨v, hrun, hrr, hone⟩ := run_load (w := w) hE ht hn (b := b) (o := off) (vs := (arr.toList.drop off).take ti.size) (by
      have h1' : ti.size ≤ (arr.toList.drop off).length := by
        have : (c.drop off).length = (arr.toList.drop off).length := by simp only [List.length_drop]; omega
        omega
      simp only [List.length_take]; omega) (fun j v hj => by
      have hj' := get_take hj
      simp only [List.getElem?_drop] at hj'
      simp only [World.cell?, e1]
      simpa using hj') hr ha
  refine ⟨_, v, hv, hrun, hrr, ?_⟩
  rcases asR_form ha with ⟨d, rfl⟩ | ⟨l, rfl⟩
  · obtain ⟨q1, q2⟩ := hone d rfl
    simp only [tkR]
    have e4 := tkL_drop (n := off) e3
    cases hds : c.drop off with
    | nil => rw [hds] at q1; simp at q1
    | cons x xs =>
      cases hvs : arr.toList.drop off with
      | nil => rw [hvs] at q2; simp at q2
      | cons y ys =>
        rw [hds, hvs] at e4
        rw [hds] at q1
        rw [hvs] at q2
        simp only [tkL] at e4
        cases hn' : ti.size with
        | zero => rw [hn'] at q1; simp at q1
        | succ m =>
          rw [hn'] at q1 q2
          simp at q1 q2
          exact q1.1 ▸ q2.1 ▸ e4.1
  · simp only [tkR]

/-! ### Out of an array that is a value -/
theorem q_index {o : Oper} {t n e size j : Nat} {agg : Bool} {gl : Option Ts} {zero : List D} {te : TI} {x i : Operand} {c ds : List D} {r : R} {k : IntKind} (hE : EnvOK E) (hop : o.op = .index t x i) (hf : ∀ b, w.heap.size ≤ b → γ.rd b = none)
    (ht : E.ti t = some ⟨.array n e, size, agg, gl, zero⟩) (hte : E.ti e = some te) {vs : Array Value} (hx : a.eval x = .agg vs) (hd : rdL w γ c vs.toList) (hi : a.eval i = .int k (j : Int)) (hj : j < n)
    (htk : takeD te.size (c.drop (j * te.size)) = some ds) (ha : asR te.agg ds = some r) : Quiet E.P o a γ dead C w (r.map D.strip) := by
  have h1 := (hE.ti _ _ ht).desc
  simp only at h1
  obtain ⟨hu, hnt⟩ := h1
  have hn := hnt te hte
  obtain ⟨info, hinfo, hsz, _⟩ := (hE.ti _ _ hte).info hn
  have e1 : (sizeOf e).run E.P w = .ok te.size w := by simp [sizeOf, typeInfo, hinfo, hsz]
  have e2 := isAgg_run (w := w) hE hte hn
  obtain ⟨h2, h3⟩ := takeD_some htk
  subst h3
  have hlen := rdL_length hd
  have hr := rdL_take (n := te.size) (rdL_drop' (n := j * te.size) hd)
  have hv : ∃ v, (part e vs (j * te.size)).run E.P w = .ok v w ∧ rdR w γ r v := by
    unfold asR at ha
    cases hag : te.agg with
    | true =>
      rw [hag] at ha e2
      simp only [Option.some.injEq] at ha
      subst ha
      refine ⟨.agg (vs.extract (j * te.size) (j * te.size + te.size)), by simp [part, e2, e1], ?_⟩
      simp only [rdR]
      refine ⟨_, rfl, (rdL_map nameOnly_strip).2 ?_⟩
      simpa [Array.toList_extract, List.extract_eq_take_drop] using hr
    | false =>
      rw [hag] at ha e2
      simp only at ha
      split at ha
      · rename_i d hd'
        cases ha
        rw [hd'] at hr
        obtain ⟨v, hv0, hrd⟩ := rdL_get (i := 0) hr rfl
        have hv1 : vs[j * te.size]? = some v := by
          simpa using get_take hv0
        exact ⟨v, by simp [part, e2, hv1], by simpa only [rdR] using hrd⟩
      · cases ha
  obtain ⟨v, hrun, hrr⟩ := hv
  refine .here hf (v := v) (by simp [execOp, hop, hx, hi, Instr.index, asIntOf, run_underlying hu, hj, e1, hrun]) ((rdR_map nameOnly_strip r v).2 hrr) (tkR_strip r v)

/-! ### A new block -/
theorem Grow.alloc (hf : ∀ b, w.heap.size ≤ b → γ.rd b = none) (o : Obj) : Grow γ w (γ.drop dst) (w.alloc o) dst where
  below := (Below.refl _ _).alloc (Nat.le_refl _) o
  bx := rfl
  base := rfl
  rd := fun _ _ => rfl
  fresh := fun b hb => hf b (by simp at hb; omega)
  ow := fun k hk => by simp [Gh.drop, hk]
  new := fun h hh => by simp [Gh.drop] at hh
theorem sees_alloc (o : Obj) : Sees γ w (γ.drop dst) (w.alloc o) :=
  ⟨fun b i u h1 h2 => ⟨by rw [World.cell?_alloc_lt _ _ _ (cell_lt h2)]; exact h2, h1⟩⟩
theorem leaves_sound {r : R} {v : Value} (hl : r.lays = true) (h : rdR w γ r v) : rdL w γ r.leaves v.cells.toList := by
  cases r <;> simp only [R.lays, reduceCtorEq] at hl
  case one d =>
    simp only [rdR] at h
    have hs := rdD_scalar h
    have : v.cells = #[v] := by cases v <;> first | rfl | exact hs.elim
    rw [this]
    simp only [R.leaves, rdL]
    exact ⟨rdD_strip.2 h, trivial⟩
  case agg ds =>
    simp only [rdR] at h
    obtain ⟨vs, rfl, h⟩ := h
    simp only [R.leaves, Value.cells]
    exact (rdL_map nameOnly_strip).2 h
theorem rdC_new {ds : List D} {vs : Array Value} {ty : Nat} (hf : ∀ b, w.heap.size ≤ b → γ.rd b = none) (h : rdL w γ ds vs.toList) : rdC (w.alloc (.cells vs ty)) (γ.drop dst) ds w.heap.size 0 := by
  have key : ∀ (ds : List D) (l : List Value) (o : Nat), rdL w γ ds l → (∀ (j : Nat) v, l[j]? = some v → vs[o + j]? = some v) → rdC (w.alloc (.cells vs ty)) (γ.drop dst) ds w.heap.size o := by
    intro ds
    induction ds with
    | nil => intro l o _ _; simp [rdC]
    | cons d ds ih =>
      intro l o hl hj
      cases l with
      | nil => simp [rdL] at hl
      | cons v l =>
        simp only [rdL] at hl
        simp only [rdC]
        refine ⟨⟨v, ?_, ?_, rdD_mono (sees_alloc _) (fun _ _ h => h) d v hl.1⟩, ih l (o + 1) hl.2 fun j u hu => by have := hj (j + 1) u (by simpa using hu); rwa [show o + (j + 1) = o + 1 + j by omega] at this⟩
        · rw [World.cell?_alloc_new]
          simpa using hj 0 v (by simp)
        · simp [Gh.may, Gh.drop, hf w.heap.size (Nat.le_refl _)]
  exact key ds vs.toList 0 h fun j v hv => by simpa using hv
theorem q_boxConst {o : Oper} {ty ty' : Nat} {x : Operand} {r : R} {lk : Nat → Option R} (hop : o.op = .box ty x) (hf : ∀ b, w.heap.size ≤ b → γ.rd b = none) (hl : LkOK lk γ dead C a w) (h : evalO E ty' lk x = some r) (hr : r.lays = true) :
    Quiet P o a γ dead C w (.one (.cell r.leaves)) := by
  have h1 := leaves_sound hr (evalO_sound hl h).1
  refine .mk (v := .pointer (some ⟨w.heap.size, 0, none⟩)) (w' := w.alloc (.cells (a.eval x).cells ty)) (γ' := γ.drop (dstOf o)) (by simp [execOp, hop, Instr.box, newVar, newRow]) (Grow.alloc hf _) ?_ (by simp [tkR, tkD])
  simp only [rdR, rdD]
  exact ⟨_, _, rfl, rdC_new hf h1⟩
theorem q_allocConst {o : Oper} {ty : Nat} {ti : TI} (hE : EnvOK E) (hop : o.op = .alloc ty) (hf : ∀ b, w.heap.size ≤ b → γ.rd b = none) (ht : E.ti ty = some ti) (hn : ∀ ts, ti.d ≠ .tup ts) :
    Quiet E.P o a γ dead C w (.one (.cell ti.zero)) := by
  obtain ⟨info, hinfo, _, _, z, hz, _, hzero, _⟩ := (hE.ti _ _ ht).info hn
  refine .mk (v := .pointer (some ⟨w.heap.size, 0, none⟩)) (w' := w.alloc (.cells z.cells ty)) (γ' := γ.drop (dstOf o)) (by simp [execOp, hop, Instr.alloc, zeroValue, typeInfo, hinfo, hz, newVar, newRow]) (Grow.alloc hf _) ?_ (by simp [tkR, tkD])
  simp only [rdR, rdD]
  exact ⟨_, _, rfl, rdC_new hf (hzero w γ)⟩
end
end Go.V
