/- Structs, arrays and slices that are built; slices of slices; calls. -/
import Derived.Test.YtelfooangijedaaOps3
namespace Go.V
open Go.RowKit

section
variable {E : Env} {P : Program} {γ : Gh} {dead : List Tok} {C : List Nat} {a : Act} {w : World} {dst : Nat}

theorem putAt_spec : ∀ {ds : List D} {off : Nat} {l ds' : List D}, putAt ds off l = some ds' →
    ds'.length = ds.length ∧ (l ≠ [] → off + l.length ≤ ds.length) ∧ ∀ p : Nat, ds'[p]? = if off ≤ p ∧ p < off + l.length then l[p - off]? else ds[p]?
  | ds, off, [], ds', h => by
    have : ds = ds' := by cases ds <;> simpa [putAt] using h
    subst this
    refine ⟨rfl, by simp, fun p => ?_⟩
    rw [if_neg (by simp only [List.length_nil]; omega)]
  | [], off, v :: l, ds', h => by simp [putAt] at h
  | d :: ds, 0, v :: l, ds', h => by
    simp only [putAt] at h
    split at h
    · rename_i q hq
      cases h
      obtain ⟨h1, h2, h3⟩ := putAt_spec hq
      refine ⟨by simp [h1], fun _ => ?_, fun p => ?_⟩
      · cases l with
        | nil => simp
        | cons _ _ => have := h2 (by simp); simp at this ⊢; omega
      · cases p with
        | zero => simp
        | succ p =>
          have := h3 p
          simp only [List.getElem?_cons_succ, this, List.length_cons]
          by_cases hp : p < l.length
          · rw [if_pos (by omega), if_pos (by omega)]; simp
          · rw [if_neg (by omega), if_neg (by omega)]
    · cases h
  | d :: ds, n + 1, v :: l, ds', h => by
    simp only [putAt] at h
    split at h
    · rename_i q hq
      cases h
      obtain ⟨h1, h2, h3⟩ := putAt_spec hq
      refine ⟨by simp [h1], fun _ => ?_, fun p => ?_⟩
      · have := h2 (by simp); simp at this ⊢; omega
      · cases p with
        | zero => rw [if_neg (by omega)]; simp
        | succ p =>
          have := h3 p
          simp only [List.getElem?_cons_succ, this]
          by_cases hp : n ≤ p ∧ p < n + (v :: l).length
          · rw [if_pos hp, if_pos (by omega), show p + 1 - (n + 1) = p - n by omega]
          · rw [if_neg hp, if_neg (by omega)]
    · cases h

/-- the machine's way to put cells in -/
def putV (off : Nat) (l : Array Value) (cells : Array Value) : Array Value := l.zipIdx.foldl (fun cs (c, j) => cs.setIfInBounds (off + j) c) cells
theorem putV_spec (off : Nat) (l cells : Array Value) (h : off + l.size ≤ cells.size) : (putV off l cells).size = cells.size ∧
    ∀ p : Nat, (putV off l cells)[p]? = if off ≤ p ∧ p < off + l.size then l[p - off]? else cells[p]? := by
  have key : ∀ (l : List Value) (k : Nat) (cells : Array Value), off + k + l.length ≤ cells.size →
      ((l.zipIdx k).foldl (fun (cs : Array Value) (x : Value × Nat) => cs.setIfInBounds (off + x.2) x.1) cells).size = cells.size ∧
      ∀ p : Nat, ((l.zipIdx k).foldl (fun (cs : Array Value) (x : Value × Nat) => cs.setIfInBounds (off + x.2) x.1) cells)[p]? = if off + k ≤ p ∧ p < off + k + l.length then l[p - (off + k)]? else cells[p]? := by
    intro l
    induction l with
    | nil =>
      intro k cells _
      refine ⟨rfl, fun p => ?_⟩
      rw [if_neg (by simp only [List.length_nil]; omega)]
      rfl
    | cons v l ih =>
      intro k cells hk
      simp only [List.length_cons] at hk
      obtain ⟨h1, h2⟩ := ih (k + 1) (cells.setIfInBounds (off + k) v) (by simp; omega)
      simp only [List.zipIdx_cons, List.foldl_cons]
      refine ⟨by rw [h1]; simp, fun p => ?_⟩
      rw [h2 p, Array.getElem?_setIfInBounds]
      simp only [List.length_cons]
      by_cases e1 : off + k = p
      · rw [if_neg (by omega), if_pos e1, if_pos (by omega), if_pos (by omega), ← e1]
        simp
      · by_cases e2 : off + (k + 1) ≤ p ∧ p < off + (k + 1) + l.length
        · rw [if_pos e2, if_pos (by omega), show p - (off + k) = p - (off + (k + 1)) + 1 by omega]
          simp
        · rw [if_neg e2, if_neg e1, if_neg (by omega)]
  have e : putV off l cells = (l.toList.zipIdx 0).foldl (fun (cs : Array Value) (x : Value × Nat) => cs.setIfInBounds (off + x.2) x.1) cells := by
    unfold putV
    rw [← Array.foldl_toList, Array.toList_zipIdx]
  rw [e]
  obtain ⟨h1, h2⟩ := key l.toList 0 cells (by simpa using h)
  exact ⟨h1, fun p => by simpa using h2 p⟩

/-- the parts, as the evaluator and as the machine has them -/
def PartsOK (w : World) (γ : Gh) : List (Nat × R) → List (Nat × Value) → Prop
  | [], [] => True
  | (i, r) :: ps, (j, v) :: vs => i = j ∧ rdR w γ r v ∧ PartsOK w γ ps vs
  | _, _ => False
theorem fill_sound {pl : Nat → Option (Nat × Nat)} {place : Nat → Option (Nat × Nat)} (hpl : ∀ i x, pl i = some x → place i = some x) : ∀ {ps : List (Nat × R)} {vs : List (Nat × Value)} {ds ds' : List D} {cells : Array Value},
    PartsOK w γ ps vs → rdL w γ ds cells.toList → fillD pl ds ps = some ds' → ∃ cells', Instr.fill place cells vs = some cells' ∧ rdL w γ ds' cells'.toList
  | [], [], ds, ds', cells, _, hr, h => by
    simp only [fillD, Option.some.injEq] at h
    subst h
    exact ⟨cells, rfl, hr⟩
  | (i, r) :: ps, (j, v) :: vs, ds, ds', cells, hp, hr, h => by
    simp only [PartsOK] at hp
    obtain ⟨rfl, hrv, hp⟩ := hp
    simp only [fillD] at h
    cases hi : pl i with
    | none => rw [hi] at h; cases h
    | some x =>
      obtain ⟨off, n⟩ := x
      rw [hi] at h
      simp only at h
      cases hc : (r.lays && r.leaves.length.beq n && Nat.blt 0 n) with
      | false => rw [hc] at h; cases h
      | true =>
        rw [hc] at h
        simp only [cond_true] at h
        simp only [Bool.and_eq_true] at hc
        obtain ⟨⟨hl, hn⟩, h0⟩ := hc
        have hn := nbeq.1 hn
        have h0 := nblt.1 h0
        split at h
        · rename_i ds1 hput
          have hlv := leaves_sound hl hrv
          have hlen1 := rdL_length hlv
          have hlen2 := rdL_length hr
          obtain ⟨p1, p2, p3⟩ := putAt_spec hput
          have hvs : v.cells.size = n := by rw [← hn, hlen1]; simp
          have hfit : off + v.cells.size ≤ cells.size := by
            have h1 : r.leaves ≠ [] := fun e => by rw [e] at hn; simp at hn; omega
            have := p2 h1
            simp at hlen2
            omega
          obtain ⟨q1, q2⟩ := putV_spec off v.cells cells hfit
          have hr1 : rdL w γ ds1 (putV off v.cells cells).toList := by
            refine rdL_of_get (by rw [p1, hlen2]; simp [q1]) fun p d u hd hu => ?_
            rw [p3 p] at hd
            have hu' : (putV off v.cells cells)[p]? = some u := by simpa using hu
            rw [q2 p] at hu'
            have hcs : r.leaves.length = v.cells.size := by rw [hlen1]; simp
            by_cases hp : off ≤ p ∧ p < off + v.cells.size
            · rw [if_pos hp] at hu'
              rw [if_pos (by omega)] at hd
              obtain ⟨u', e1, e2⟩ := rdL_get hlv hd
              have : u' = u := by
                have e1' : v.cells[p - off]? = some u' := by simpa using e1
                rw [e1'] at hu'; cases hu'; rfl
              exact this ▸ e2
            · rw [if_neg hp] at hu'
              rw [if_neg (by omega)] at hd
              obtain ⟨u', e1, e2⟩ := rdL_get hr hd
              have : u' = u := by
                have e1' : cells[p]? = some u' := by simpa using e1
                rw [e1'] at hu'; cases hu'; rfl
              exact this ▸ e2
          obtain ⟨cells', e1, e2⟩ := fill_sound hpl hp hr1 h
          refine ⟨cells', ?_, e2⟩
          simp only [Instr.fill, hpl i _ hi]
          rw [if_neg (by simp only [hvs, ne_eq, not_true_eq_false, decide_false, Bool.false_or, decide_eq_true_eq]; omega)]
          exact e1
        · cases h
  | [], _ :: _, _, _, _, hp, _, _ => by simp only [PartsOK] at hp
  | _ :: _, [], _, _, _, hp, _, _ => by simp only [PartsOK] at hp

theorem parts_sound {lk : Nat → Option R} {ty : Nat} (hl : LkOK lk γ dead C a w) : ∀ {xs : List (Nat × Operand)} {ps : List (Nat × R)},
    mapO (fun p => match evalO E ty lk p.2 with | some r => some (p.1, r) | none => none) xs = some ps → PartsOK w γ ps (xs.map fun x => (x.1, a.eval x.2))
  | [], ps, h => by simp only [mapO, Option.some.injEq] at h; subst h; simp [PartsOK]
  | x :: xs, ps, h => by
    simp only [mapO] at h
    split at h
    · rename_i y hy
      split at h
      · rename_i ys hys
        cases h
        split at hy
        · rename_i r hr
          cases hy
          simp only [List.map_cons, PartsOK]
          exact ⟨trivial, (evalO_sound hl hr).1, parts_sound hl hys⟩
        · cases hy
      · cases h
    · cases h
theorem run_mapM {α β : Type} (f : α → Sem β) (g : α → β) : ∀ (xs : List α), (∀ x ∈ xs, (f x).run P w = .ok (g x) w) → (xs.mapM f).run P w = .ok (xs.map g) w
  | [], _ => by simp
  | x :: xs, h => by
    have ih := run_mapM f g xs fun y hy => h y (List.mem_cons_of_mem _ hy)
    simp [List.mapM_cons, h x (by simp), ih]
theorem q_build {o : Oper} {t : Nat} {ti : TI} {parts : Array (Nat × Operand)} {ps : List (Nat × R)} {ds : List D} {lk : Nat → Option R} {ty : Nat} {pl : Nat → Option (Nat × Nat)} (hE : EnvOK E) (hop : o.op = .build t parts)
    (hf : ∀ b, w.heap.size ≤ b → γ.rd b = none) (hl : LkOK lk γ dead C a w) (ht : E.ti t = some ti) (hn : ∀ ts, ti.d ≠ .tup ts)
    (hps : mapO (fun p => match evalO E ty lk p.2 with | some r => some (p.1, r) | none => none) parts.toList = some ps) (hfl : fillD pl ti.zero ps = some ds)
    (hpl : (∃ fs, ti.d = .struct fs ∧ pl = fun i => match fs[i]? with
          | some (off, ft) => (match E.ti ft with
            | some tf => some (off, tf.size)
            | none => none)
          | none => none) ∨ (∃ n e te, ti.d = .array n e ∧ E.ti e = some te ∧ pl = fun i => some (i * te.size, te.size))) :
    Quiet E.P o a γ dead C w (.agg ds) := by
  obtain ⟨info, hinfo, _, _, z, hz, _, hzero, _⟩ := (hE.ti _ _ ht).info hn
  have hp := parts_sound hl hps
  have hdesc := (hE.ti _ _ ht).desc
  have e0 : (zeroValue t).run E.P w = .ok z w := by simp [zeroValue, typeInfo, hinfo, hz]
  have fin : ∀ place : Nat → Option (Nat × Nat), (∀ i x, pl i = some x → place i = some x) →
      (∀ cells, Instr.fill place z.cells (parts.toList.map fun x => (x.1, a.eval x.2)) = some cells → (Instr.build t (parts.map fun x => (x.1, a.eval x.2))).run E.P w = .ok (.agg cells) w) → Quiet E.P o a γ dead C w (.agg ds) := by
    intro place hpl hrun
    obtain ⟨cells, h1, h2⟩ := fill_sound hpl hp (hzero w γ) hfl
    refine .here hf (v := .agg cells) ?_ (by simp only [rdR]; exact ⟨_, rfl, h2⟩) (by simp [tkR])
    have := hrun cells h1
    simp [execOp, hop, this]
  rcases hpl with ⟨fs, hd, rfl⟩ | ⟨n, e, te, hd, hte, rfl⟩
  · rw [hd] at hdesc
    simp only at hdesc
    obtain ⟨fields, hu, hlen, hfs⟩ := hdesc
    have hall : ∀ f ∈ fields.toList, (do pure (f.offset, ← sizeOf f.type) : Sem (Nat × Nat)).run E.P w = .ok (f.offset, ((E.P.info? f.type).map (·.size)).getD 0) w := by
      intro f hf
      obtain ⟨i, hi, he⟩ := List.mem_iff_getElem.1 hf
      have hfi : fields[i]? = some f := by simp at hi; simp [← he, hi]
      have hlt : i < fs.length := by rw [hlen]; simpa using hi
      obtain ⟨f', h1, h2, h3, _, inf, h4, _⟩ := hfs i (fs[i]).1 (fs[i]).2 (by simp [hlt])
      rw [hfi] at h1
      cases h1
      rw [h3]
      simp [sizeOf, typeInfo, h4]
    have hrunM := run_mapM (P := E.P) (w := w) (fun f : Field => (do pure (f.offset, ← sizeOf f.type) : Sem (Nat × Nat))) (fun f => (f.offset, ((E.P.info? f.type).map (·.size)).getD 0)) fields.toList hall
    refine fin (fun i => (fields.map fun f => (f.offset, ((E.P.info? f.type).map (·.size)).getD 0))[i]?) (fun i x hx => ?_) (fun cells hc => ?_)
    · simp only at hx
      split at hx
      · rename_i off ft hi
        split at hx
        · rename_i tf htf
          cases hx
          obtain ⟨f, h1, h2, h3, h6, inf, h4, h5⟩ := hfs i off ft hi
          obtain ⟨inf', h7, h8, _⟩ := (hE.ti _ _ htf).info (h6 tf htf)
          simp [h1, h2, h3, h7, h8]
        · cases hx
      · cases hx
    · simp only [Instr.build, Sem.run_bind, e0, Result.andThen_ok, run_underlying hu, Array.mapM_eq_mapM_toList, Sem.run_map, hrunM, Array.toList_map]
      have e9 : (List.map (fun f : Field => (f.offset, ((E.P.info? f.type).map (·.size)).getD 0)) fields.toList).toArray = fields.map fun f => (f.offset, ((E.P.info? f.type).map (·.size)).getD 0) := by
        apply Array.ext'; simp
      rw [e9, hc]
      simp
  · rw [hd] at hdesc
    simp only at hdesc
    obtain ⟨hu, hnt⟩ := hdesc
    obtain ⟨inf, hinf, hsz, _⟩ := (hE.ti _ _ hte).info (hnt te hte)
    have e1 : (sizeOf e).run E.P w = .ok te.size w := by simp [sizeOf, typeInfo, hinf, hsz]
    refine fin (fun i => some (i * te.size, te.size)) (fun i x hx => hx) (fun cells hc => ?_)
    simp [Instr.build, e0, run_underlying hu, e1, hc]
end
end Go.V
