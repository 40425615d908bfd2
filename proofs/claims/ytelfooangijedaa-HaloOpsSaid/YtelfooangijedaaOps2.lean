/- Operations on memory: addresses, loads, new blocks, slices. -/
import Derived.Test.YtelfooangijedaaOps
namespace Go.V
open Go.RowKit

section
variable {E : Env} {P : Program} {γ : Gh} {dead : List Tok} {C : List Nat} {a : Act} {w : World} {dst : Nat}

theorem q_len {o : Oper} {c : Call} {x : Operand} {d : D} {e : Ts} {xs : List e.den} (hE : EnvOK E) (hop : o.op = .call c) (hc : c.callee = .builtin .len) (ha : c.args.toList = [x]) (hf : ∀ b, w.heap.size ≤ b → γ.rd b = none)
    (hd : rdD w γ d (a.eval x)) (hs : asSl d = some ⟨e, xs⟩) (ht : slOK E (c.argTypes.getD 0 0) e = true) (hty : c.argTypes.size = 1) : Quiet E.P o a γ dead C w (.one (.g (.int .i64) (xs.length : Int))) := by
  have h1 := asSl_sound hs hd
  simp only [rdT] at h1
  obtain ⟨A, cp, hv, hle, _⟩ := h1
  obtain ⟨et, i, hu, _⟩ := slOK_spec hE ht
  have hargs : c.args = #[x] := by apply Array.ext'; simpa using ha
  obtain ⟨t0, hat, ht0⟩ : ∃ t0, c.argTypes[0]? = some t0 ∧ c.argTypes.getD 0 0 = t0 := ⟨c.argTypes.getD 0 0, by simp [hty], rfl⟩
  rw [ht0] at hu
  refine q_plain (v := .int .i64 (xs.length : Int)) hf ?_ (by simp [rdD, rdT]) rfl
  simp [execOp, hop, resolve, hc, hargs, invoke, builtin, Builtin.len_, hat, hv, goInt, run_underlying hu]

theorem max_if (x z : Int) : (if z > x then z else x) = max x z := by simp only [Int.max_def]; split <;> split <;> omega
theorem min_if (x z : Int) : (if z < x then z else x) = min x z := by simp only [Int.min_def]; split <;> split <;> omega
theorem foldMM_sound (mx : Bool) (kk : IntKind) : ∀ (l : List R) (vs : List Value) (x y : Int), (∀ (i : Nat) r v, l[i]? = some r → vs[i]? = some v → rdR w γ r v) → l.length = vs.length → foldMM mx kk x l = some y →
    (vs.foldlM (if mx then Builtin.max2 else Builtin.min2) (.int kk x)).run P w = .ok (.int kk y) w
  | [], [], x, y, _, _, h => by simp [foldMM] at h; subst h; simp
  | .one (.g (.int k) z) :: l, v :: vs, x, y, hv, hl, h => by
    simp only [foldMM] at h
    split at h
    · rename_i hk
      subst hk
      have h0 := hv 0 (.one (.g (.int k) z)) v rfl rfl
      simp only [rdR, rdD, rdT] at h0
      subst h0
      have ih := foldMM_sound mx k l vs _ y (fun i q u hq hu => hv (i + 1) q u (by simpa using hq) (by simpa using hu)) (by simpa using hl) h
      rw [List.foldlM_cons]
      cases mx with
      | true =>
        have e := max_if x z
        simp only [if_true, Builtin.max2, Sem.run_bind, Sem.run_pure, Result.andThen_ok, e]
        simpa using ih
      | false =>
        have e := min_if x z
        simp only [Bool.false_eq_true, if_false, Builtin.min2, Sem.run_bind, Sem.run_pure, Result.andThen_ok, e]
        simpa using ih
    · cases h
  | .one (.g .bool _) :: _, _ :: _, _, _, _, _, h => by simp [foldMM] at h
  | .one (.g (.sl _) _) :: _, _ :: _, _, _, _, _, h => by simp [foldMM] at h
  | .one (.ow _ _ _) :: _, _ :: _, _, _, _, _, h => by simp [foldMM] at h
  | .one (.fn _ _) :: _, _ :: _, _, _, _, _, h => by simp [foldMM] at h
  | .one .nilFn :: _, _ :: _, _, _, _, _, h => by simp [foldMM] at h
  | .one .nilPtr :: _, _ :: _, _, _, _, _, h => by simp [foldMM] at h
  | .one (.cell _) :: _, _ :: _, _, _, _, _, h => by simp [foldMM] at h
  | .one (.ref _ _) :: _, _ :: _, _, _, _, _, h => by simp [foldMM] at h
  | .one .undef :: _, _ :: _, _, _, _, _, h => by simp [foldMM] at h
  | .agg _ :: _, _ :: _, _, _, _, _, h => by simp [foldMM] at h
  | .tup _ :: _, _ :: _, _, _, _, _, h => by simp [foldMM] at h
  | .undef :: _, _ :: _, _, _, _, _, h => by simp [foldMM] at h
  | .skip :: _, _ :: _, _, _, _, _, h => by simp [foldMM] at h
  | [], _ :: _, _, _, _, hl, _ => by simp at hl
  | _ :: _, [], _, _, _, hl, _ => by simp at hl

theorem args_sound {lk : Nat → Option R} {ty : Nat} {xs : List Operand} {rs : List R} (hl : LkOK lk γ dead C a w) (h : mapO (evalO E ty lk) xs = some rs) :
    rs.length = (xs.map a.eval).length ∧ ∀ (i : Nat) r v, rs[i]? = some r → (xs.map a.eval)[i]? = some v → rdR w γ r v ∧ tkR γ dead C r v := by
  obtain ⟨h1, h2⟩ := mapO_some h
  refine ⟨by simp [h1], fun i r v hr hv => ?_⟩
  simp only [List.getElem?_map, Option.map_eq_some_iff] at hv
  obtain ⟨x, hx, rfl⟩ := hv
  obtain ⟨y, hy, he⟩ := h2 i x hx
  rw [hy] at hr
  cases hr
  exact evalO_sound hl he

theorem q_minmax {o : Oper} {c : Call} {b : Builtin} {mx : Bool} {kk : IntKind} {x y : Int} {l : List R} {lk : Nat → Option R} {ty : Nat} (hop : o.op = .call c) (hb : b = if mx then .max else .min) (hc : c.callee = .builtin b)
    (hf : ∀ b, w.heap.size ≤ b → γ.rd b = none) (hl : LkOK lk γ dead C a w) (h : mapO (evalO E ty lk) c.args.toList = some (.one (.g (.int kk) x) :: l)) (hm : foldMM mx kk x l = some y) :
    Quiet E.P o a γ dead C w (.one (.g (.int kk) y)) := by
  obtain ⟨h1, h2⟩ := args_sound hl h
  obtain ⟨x0, xs, hxs⟩ : ∃ x0 xs, c.args.toList = x0 :: xs := by
    cases hh : c.args.toList with
    | nil => rw [hh] at h1; simp at h1
    | cons x0 xs => exact ⟨x0, xs, rfl⟩
  have hargs : c.args = (x0 :: xs).toArray := by apply Array.ext'; simpa using hxs
  rw [hxs] at h1 h2
  have e0 := (h2 0 (.one (.g (.int kk) x)) (a.eval x0) rfl rfl).1
  simp only [rdR, rdD, rdT] at e0
  have hfold := foldMM_sound (P := E.P) (w := w) (γ := γ) mx kk l (xs.map a.eval) x y (fun i r v hr hv => (h2 (i + 1) r v (by simpa using hr) (by simpa using hv)).1) (by simpa using h1) hm
  refine q_plain (v := .int kk y) hf ?_ (by simp [rdD, rdT]) rfl
  subst hb
  cases mx with
  | true =>
    simp only [if_true] at hc hfold
    simp [execOp, hop, resolve, hc, hargs, invoke, builtin, Builtin.max_, e0, hfold]
  | false =>
    simp only [Bool.false_eq_true, if_false] at hc hfold
    simp [execOp, hop, resolve, hc, hargs, invoke, builtin, Builtin.min_, e0, hfold]

/-! ### Addresses -/
theorem rdC_drop : ∀ {c : List D} {b o n : Nat}, rdC w γ c b o → rdC w γ (c.drop n) b (o + n)
  | c, b, o, 0, h => by simpa using h
  | [], b, o, n + 1, h => by simp [rdC]
  | d :: c, b, o, n + 1, h => by
    simp only [rdC] at h
    have := rdC_drop (n := n) h.2
    simpa [Nat.add_assoc, Nat.add_comm 1 n] using this
theorem add_none (b o n : Nat) : (⟨b, o, none⟩ : Addr).add n = ⟨b, o + n, none⟩ := Addr.add_lit b o n

theorem run_fieldAt (hE : EnvOK E) {s i off ft size : Nat} {agg : Bool} {gl : Option Ts} {zero : List D} {fs : List (Nat × Nat)} (ht : E.ti s = some ⟨.struct fs, size, agg, gl, zero⟩) (hi : fs[i]? = some (off, ft)) (b o : Nat) :
    (Instr.fieldAt s (.pointer (some ⟨b, o, none⟩)) i).run E.P w = .ok (.pointer (some ⟨b, o + off, none⟩)) w := by
  have h1 := (hE.ti _ _ ht).desc
  simp only at h1
  obtain ⟨fields, hu, _, hfs⟩ := h1
  obtain ⟨f, hf, ho, hty, _, info, hinfo, hne⟩ := hfs i off ft hi
  have e1 : (sizeOf f.type).run E.P w = .ok info.size w := by simp [sizeOf, typeInfo, hty, hinfo]
  simp [Instr.fieldAt, run_underlying hu, hf, Instr.sureAddr, fieldPlace, e1, hne, add_none, ho]

theorem q_fieldCell {o : Oper} {s i off ft size : Nat} {agg : Bool} {gl : Option Ts} {zero : List D} {fs : List (Nat × Nat)} {x : Operand} {c : List D} (hE : EnvOK E) (hop : o.op = .fieldAddr s x i) (hf : ∀ b, w.heap.size ≤ b → γ.rd b = none)
    (ht : E.ti s = some ⟨.struct fs, size, agg, gl, zero⟩) (hi : fs[i]? = some (off, ft)) (hd : rdD w γ (.cell c) (a.eval x)) : Quiet E.P o a γ dead C w (.one (.cell (c.drop off))) := by
  simp only [rdD] at hd
  obtain ⟨b, p, hv, hc⟩ := hd
  refine q_plain (v := .pointer (some ⟨b, p + off, none⟩)) hf (by simp [execOp, hop, hv, run_fieldAt hE ht hi]) ?_ rfl
  simp only [rdD]
  exact ⟨b, p + off, rfl, rdC_drop hc⟩
theorem q_fieldRef {o : Oper} {s i off ft size r p : Nat} {agg : Bool} {gl : Option Ts} {zero : List D} {fs : List (Nat × Nat)} {x : Operand} (hE : EnvOK E) (hop : o.op = .fieldAddr s x i) (hf : ∀ b, w.heap.size ≤ b → γ.rd b = none)
    (ht : E.ti s = some ⟨.struct fs, size, agg, gl, zero⟩) (hi : fs[i]? = some (off, ft)) (hd : rdD w γ (.ref r p) (a.eval x)) : Quiet E.P o a γ dead C w (.one (.ref r (p + off))) := by
  simp only [rdD] at hd
  obtain ⟨b, hb, hv⟩ := hd
  refine q_plain (v := .pointer (some ⟨b, p + off, none⟩)) hf (by simp [execOp, hop, hv, run_fieldAt hE ht hi]) ?_ rfl
  simp only [rdD]
  exact ⟨b, hb, rfl⟩

theorem run_indexArr (hE : EnvOK E) {t n e size : Nat} {agg : Bool} {gl : Option Ts} {zero : List D} {te : TI} (ht : E.ti t = some ⟨.array n e, size, agg, gl, zero⟩) (hte : E.ti e = some te) (b o : Nat) {j : Nat} (hj : j < n) (k : IntKind) :
    (Instr.indexAt t (.pointer (some ⟨b, o, none⟩)) (.int k (j : Int))).run E.P w = .ok (.pointer (some ⟨b, o + j * te.size, none⟩)) w := by
  have h1 := (hE.ti _ _ ht).desc
  simp only at h1
  obtain ⟨hu, hnt⟩ := h1
  obtain ⟨info, hinfo, hsz, _⟩ := (hE.ti _ _ hte).info (hnt te hte)
  have e1 : (sizeOf e).run E.P w = .ok te.size w := by simp [sizeOf, typeInfo, hinfo, hsz]
  simp [Instr.indexAt, asIntOf, run_underlying hu, Instr.sureAddr, hj, e1, add_none]

theorem atIdx_some {α : Type} {i : Int} {k : Nat → Option α} {r : α} : ∀ {n j : Nat}, atIdx i k j n = some r → ∃ m : Nat, j ≤ m ∧ m < j + n ∧ i = (m : Int) ∧ k m = some r
  | 0, j, h => by simp [atIdx] at h
  | n + 1, j, h => by
    simp only [atIdx] at h
    cases hb : (i == (j : Int)) with
    | true =>
      rw [hb] at h
      exact ⟨j, Nat.le_refl _, by omega, by simpa using hb, h⟩
    | false =>
      rw [hb] at h
      obtain ⟨m, h1, h2, h3, h4⟩ := atIdx_some (n := n) (j := j + 1) h
      exact ⟨m, by omega, by omega, h3, h4⟩

theorem q_indexCell {o : Oper} {t n e size j : Nat} {agg : Bool} {gl : Option Ts} {zero : List D} {te : TI} {x i : Operand} {c : List D} {k : IntKind} (hE : EnvOK E) (hop : o.op = .indexAddr t x i) (hf : ∀ b, w.heap.size ≤ b → γ.rd b = none)
    (ht : E.ti t = some ⟨.array n e, size, agg, gl, zero⟩) (hte : E.ti e = some te) (hd : rdD w γ (.cell c) (a.eval x)) (hi : a.eval i = .int k (j : Int)) (hj : j < n) : Quiet E.P o a γ dead C w (.one (.cell (c.drop (j * te.size)))) := by
  simp only [rdD] at hd
  obtain ⟨b, p, hv, hc⟩ := hd
  refine q_plain (v := .pointer (some ⟨b, p + j * te.size, none⟩)) hf (by simp [execOp, hop, hv, hi, run_indexArr hE ht hte b p hj k]) ?_ rfl
  simp only [rdD]
  exact ⟨b, _, rfl, rdC_drop hc⟩
theorem q_indexRef {o : Oper} {t n e size j r p : Nat} {agg : Bool} {gl : Option Ts} {zero : List D} {te : TI} {x i : Operand} {k : IntKind} (hE : EnvOK E) (hop : o.op = .indexAddr t x i) (hf : ∀ b, w.heap.size ≤ b → γ.rd b = none)
    (ht : E.ti t = some ⟨.array n e, size, agg, gl, zero⟩) (hte : E.ti e = some te) (hd : rdD w γ (.ref r p) (a.eval x)) (hi : a.eval i = .int k (j : Int)) (hj : j < n) : Quiet E.P o a γ dead C w (.one (.ref r (p + j * te.size))) := by
  simp only [rdD] at hd
  obtain ⟨b, hb, hv⟩ := hd
  refine q_plain (v := .pointer (some ⟨b, p + j * te.size, none⟩)) hf (by simp [execOp, hop, hv, hi, run_indexArr hE ht hte b p hj k]) ?_ rfl
  simp only [rdD]
  exact ⟨b, hb, rfl⟩

theorem leaves_rdC : ∀ {ts : Ts} {x : ts.den} {b o : Nat}, rdTs w γ ts x b o → rdC w γ (ts.leaves x) b o
  | .one t, x, b, o, h => by
    simp only [rdTs] at h
    simp only [Ts.leaves, rdC, rdD]
    exact ⟨h, trivial⟩
  | .cons t ts, x, b, o, h => by
    simp only [rdTs] at h
    simp only [Ts.leaves, rdC, rdD]
    exact ⟨h.1, leaves_rdC h.2⟩
theorem q_indexSl {o : Oper} {t : Nat} {x i : Operand} {d : D} {e : Ts} {xs : List e.den} {k : IntKind} {j : Int} (hE : EnvOK E) (hop : o.op = .indexAddr t x i) (hf : ∀ b, w.heap.size ≤ b → γ.rd b = none)
    (hs : slOK E t e = true) (hd : rdD w γ d (a.eval x)) (has : asSl d = some ⟨e, xs⟩) (hi : a.eval i = .int k j) (h0 : 0 ≤ j) (h1 : j < xs.length) :
    Quiet E.P o a γ dead C w (.one (.cell (e.leaves (xs.getD j.toNat e.dflt)))) := by
  obtain ⟨et, info, hu, hinfo, hsz, _⟩ := slOK_spec hE hs
  have h2 := asSl_sound has hd
  simp only [rdT] at h2
  obtain ⟨A, cp, hv, hle, hr⟩ := h2
  have hlt : j.toNat < xs.length := by omega
  obtain ⟨b, p, hA, hrow⟩ := hr j.toNat hlt
  have e1 : (sizeOf et).run E.P w = .ok e.size w := by simp [sizeOf, typeInfo, hinfo, hsz]
  have e2 : xs.getD j.toNat e.dflt = xs[j.toNat] := by simp [List.getD_eq_getElem?_getD, hlt]
  refine q_plain (v := .pointer (some ⟨b, p + j.toNat * e.size, none⟩)) hf ?_ ?_ rfl
  · simp [execOp, hop, hv, hi, Instr.indexAt, asIntOf, run_underlying hu, hA, h0, h1, e1, add_none]
  · simp only [rdD]
    rw [e2]
    exact ⟨b, _, rfl, leaves_rdC hrow⟩

/-! ### Loads -/
theorem takeD_some : ∀ {n : Nat} {c ds : List D}, takeD n c = some ds → n ≤ c.length ∧ ds = c.take n
  | 0, c, ds, h => by simp [takeD] at h; subst h; simp
  | n + 1, [], ds, h => by simp [takeD] at h
  | n + 1, d :: c, ds, h => by
    simp only [takeD] at h
    split at h
    · rename_i l hl
      cases h
      obtain ⟨h1, h2⟩ := takeD_some hl
      exact ⟨by simp; omega, by simp [h2]⟩
    · cases h
theorem rdC_get : ∀ {c : List D} {b o i : Nat} {d : D}, rdC w γ c b o → c[i]? = some d → ∃ u, w.cell? ⟨b, o + i, none⟩ = some u ∧ γ.may b (o + i) ∧ rdD w γ d u
  | d :: c, b, o, 0, q, h, hi => by
    simp only [rdC] at h
    simp at hi
    subst hi
    simpa using h.1
  | d :: c, b, o, i + 1, q, h, hi => by
    simp only [rdC] at h
    have := rdC_get h.2 (by simpa using hi)
    simpa [Nat.add_assoc, Nat.add_comm 1 i] using this
  | [], _, _, _, _, _, hi => by simp at hi
/-- the cells behind an address, as many as are told -/
theorem rdC_list : ∀ {c : List D} {b o : Nat}, rdC w γ c b o → ∃ vs : List Value, vs.length = c.length ∧ rdL w γ c vs ∧ ∀ (j : Nat) v, vs[j]? = some v → w.cell? ⟨b, o + j, none⟩ = some v ∧ γ.may b (o + j)
  | [], b, o, _ => ⟨[], rfl, by simp [rdL], fun j v h => by simp at h⟩
  | d :: c, b, o, h => by
    simp only [rdC] at h
    obtain ⟨⟨u, h1, h2, h3⟩, h4⟩ := h
    obtain ⟨vs, e1, e2, e3⟩ := rdC_list h4
    refine ⟨u :: vs, by simp [e1], by simp only [rdL]; exact ⟨h3, e2⟩, fun j v hj => ?_⟩
    cases j with
    | zero => simp at hj; subst hj; exact ⟨by simpa using h1, by simpa using h2⟩
    | succ j => have := e3 j v (by simpa using hj); simpa [Nat.add_assoc, Nat.add_comm 1 j] using this
theorem rdC_take : ∀ {c : List D} {b o n : Nat}, rdC w γ c b o → rdC w γ (c.take n) b o
  | c, b, o, 0, _ => by simp [rdC]
  | [], b, o, n + 1, _ => by simp [rdC]
  | d :: c, b, o, n + 1, h => by
    simp only [rdC] at h
    simp only [List.take_succ_cons, rdC]
    exact ⟨h.1, rdC_take h.2⟩
theorem isAgg_run (hE : EnvOK E) {t : Nat} {ti : TI} (ht : E.ti t = some ti) (hn : ∀ ts, ti.d ≠ .tup ts) : (isAgg t).run E.P w = .ok ti.agg w := by
  have h := hE.ti _ _ ht
  have h1 := h.desc
  have h2 := h.agg
  cases hd : ti.d <;> rw [hd] at h1 h2 <;> simp only [isAggD] at h1 h2 <;> rw [h2]
  case int k => simp [isAgg, run_underlying h1]
  case bool => simp [isAgg, run_underlying h1]
  case slice e => simp [isAgg, run_underlying h1.1]
  case array n e => simp [isAgg, run_underlying h1.1]
  case struct fs => obtain ⟨f, h1, _, _⟩ := h1; simp [isAgg, run_underlying h1]
  case ptr e => simp [isAgg, run_underlying h1]
  case func => obtain ⟨p, q, r, h1⟩ := h1; simp [isAgg, run_underlying h1]
  case tup ts => exact absurd hd (hn ts)
theorem tkD_strip (d : D) (v : Value) : tkD γ dead C d.strip v := by cases d <;> (unfold D.strip tkD; trivial)
mutual
theorem tkR_strip : (r : R) → (v : Value) → tkR γ dead C (r.map D.strip) v
  | .one d, v => by simp only [R.map, tkR]; exact tkD_strip d v
  | .agg ds, v => by simp only [R.map, tkR]
  | .tup rs, v => by
    simp only [R.map]
    cases v <;> simp only [tkR]
    exact tkRs_strip rs _
  | .undef, v => by simp only [R.map, tkR]
  | .skip, v => by simp only [R.map, tkR]
theorem tkRs_strip : (rs : List R) → (vs : List Value) → tkRs γ dead C (R.mapL D.strip rs) vs
  | r :: rs, v :: vs => by simp only [R.mapL, tkRs]; exact ⟨tkR_strip r v, tkRs_strip rs vs⟩
  | [], _ => by simp only [R.mapL, tkRs]
  | _ :: _, [] => by simp only [R.mapL, tkRs]
end
/-- what is loaded, of a struct or an array, or of one cell -/
theorem run_load (hE : EnvOK E) {t : Nat} {ti : TI} (ht : E.ti t = some ti) (hn : ∀ ts, ti.d ≠ .tup ts) {b o : Nat} {vs : List Value} {ds : List D} {r : R} (hlen : vs.length = ti.size)
    (hc : ∀ (j : Nat) v, vs[j]? = some v → w.cell? ⟨b, o + j, none⟩ = some v) (hr : rdL w γ ds vs) (ha : asR ti.agg ds = some r) :
    ∃ v, (loadVar t ⟨b, o, none⟩).run E.P w = .ok v w ∧ rdR w γ r v ∧ (∀ d, r = .one d → ds = [d] ∧ vs = [v]) := by
  obtain ⟨info, hinfo, hsz, _⟩ := (hE.ti _ _ ht).info hn
  have e1 : (sizeOf t).run E.P w = .ok vs.length w := by simp [sizeOf, typeInfo, hinfo, hsz, hlen]
  have e2 := isAgg_run (w := w) hE ht hn
  unfold asR at ha
  cases hag : ti.agg with
  | true =>
    rw [hag] at ha e2
    simp only [Option.some.injEq] at ha
    subst ha
    have e3 := run_loadCells_list (P := E.P) w ⟨b, o, none⟩ vs (fun j v hj => by rw [add_none]; exact hc j v hj)
    refine ⟨.agg vs.toArray, by simp [loadVar, e2, e1, e3], ?_, fun d hd => by cases hd⟩
    simp only [rdR]
    exact ⟨_, rfl, by simpa using (rdL_map nameOnly_strip).2 hr⟩
  | false =>
    rw [hag] at ha e2
    simp only at ha
    split at ha
    · rename_i d
      cases ha
      cases vs with
      | nil => simp [rdL] at hr
      | cons v vs =>
        cases vs with
        | cons _ _ => simp [rdL] at hr
        | nil =>
          simp only [rdL, and_true] at hr
          have h0 : w.cell? ⟨b, o, none⟩ = some v := by simpa using hc 0 v rfl
          refine ⟨v, by simp [loadVar, e2, Go.run_load, h0], by simpa only [rdR] using hr, fun d' hd => by cases hd; exact ⟨rfl, rfl⟩⟩
    · cases ha
theorem q_loadCell {o : Oper} {t : Nat} {ti : TI} {x : Operand} {c ds : List D} {r : R} (hE : EnvOK E) (hop : o.op = .load t x) (hf : ∀ b, w.heap.size ≤ b → γ.rd b = none) (ht : E.ti t = some ti) (hn : ∀ ts, ti.d ≠ .tup ts)
    (hd : rdD w γ (.cell c) (a.eval x)) (htk : takeD ti.size c = some ds) (ha : asR ti.agg ds = some r) : Quiet E.P o a γ dead C w (r.map D.strip) := by
  simp only [rdD] at hd
  obtain ⟨b, p, hv, hc⟩ := hd
  obtain ⟨h1, h2⟩ := takeD_some htk
  subst h2
  obtain ⟨vs, e1, e2, e3⟩ := rdC_list (rdC_take (n := ti.size) hc)
  obtain ⟨v, hrun, hr, _⟩ := run_load (w := w) hE ht hn (vs := vs) (by rw [e1]; simp; omega) (fun j v hj => (e3 j v hj).1) e2 ha
  refine .here hf (v := v) (by simp [execOp, hop, hv, Instr.loadAt, Instr.sureAddr, hrun]) ((rdR_map nameOnly_strip r v).2 hr) ?_
  exact tkR_strip r v
end
end Go.V
