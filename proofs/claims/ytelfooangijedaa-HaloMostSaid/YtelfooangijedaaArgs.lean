/- Arguments of plain types, opened: what lies in memory is the data that they are read as. -/
import Derived.Test.YtelfooangijedaaEqs
import Derived.Test.YtelfooangijedaaCon
import Derived.Carry
namespace Go.V
open Go.RowKit Go.ChangeShapes
set_option linter.unusedVariables false

/-! ### Numbers are within their kinds, lists are no longer than memory bears -/
mutual
def T.ok : (t : T) → t.den → Prop
  | .int k, x => k.min ≤ x ∧ x ≤ k.max
  | .bool, _ => True
  | .sl e, xs => List.length xs ≤ maxLen ∧ ∀ i (h : i < List.length xs), e.ok (xs[i]'h)
def Ts.ok : (ts : Ts) → ts.den → Prop
  | .one t, x => t.ok x
  | .cons t ts, x => t.ok x.1 ∧ ts.ok x.2
end
inductive Pl : List T → List D → Prop where
  | nil : Pl [] []
  | cons {t : T} {x : t.den} {ks : List T} {ds : List D} : t.ok x → Pl ks ds → Pl (t :: ks) (.g t x :: ds)
theorem Pl.append : ∀ {k l : List T} {a b : List D}, Pl k a → Pl l b → Pl (k ++ l) (a ++ b)
  | _, _, _, _, .nil, h => h
  | _, _, _, _, .cons h1 h2, h => .cons h1 (Pl.append h2 h)
theorem Pl.length : ∀ {k : List T} {a : List D}, Pl k a → a.length = k.length
  | _, _, .nil => rfl
  | _, _, .cons _ h => by simp [Pl.length h]
theorem Pl.leaves : ∀ {ts : Ts} {ds : List D}, Pl ts.list ds → ∃ x : ts.den, ds = ts.leaves x ∧ ts.ok x
  | .one t, ds, h => by
    simp only [Ts.list] at h
    cases h with
    | cons h1 h2 =>
      cases h2
      rename_i x
      exact ⟨x, by simp only [Ts.leaves], by simp only [Ts.ok]; exact h1⟩
  | .cons t ts, ds, h => by
    simp only [Ts.list] at h
    cases h with
    | cons h1 h2 =>
      rename_i x
      obtain ⟨y, rfl, hy⟩ := Pl.leaves h2
      exact ⟨(x, y), by simp only [Ts.leaves], by simp only [Ts.ok]; exact ⟨h1, hy⟩⟩
def tsOf : List T → Option Ts
  | [] => none
  | [t] => some (.one t)
  | t :: l => match tsOf l with
    | some ts => some (.cons t ts)
    | none => none
theorem tsOf_list : ∀ {l : List T} {ts : Ts}, tsOf l = some ts → ts.list = l
  | [], ts, h => by simp [tsOf] at h
  | [t], ts, h => by simp only [tsOf, Option.some.injEq] at h; subst h; rfl
  | t :: u :: l, ts, h => by
    simp only [tsOf] at h
    split at h
    · rename_i us hus
      cases h
      simp only [Ts.list]
      rw [tsOf_list (l := u :: l) hus]
    · cases h
theorem Ts.list_length : ∀ (ts : Ts), ts.list.length = ts.size
  | .one t => by simp only [Ts.list, Ts.size, List.length_singleton]
  | .cons t ts => by simp only [Ts.list, Ts.size, List.length_cons, Ts.list_length ts]
def lvP (P : Program) : Nat → TypeId → Option (List T)
  | 0, _ => none
  | d + 1, t => match P.underlying t with
    | some (.int k) => some [.int k]
    | some .bool => some [.bool]
    | some (.slice e) => match lvP P d e with
      | some ks => match tsOf ks with
        | some ts => bif (P.cellsOf e).beq ks.length then some [.sl ts] else none
        | none => none
      | none => none
    | some (.struct fs) => match eqFs (lvP P d) P 0 fs.toList with
      | some ks => bif (P.cellsOf t).beq ks.length then some ks else none
      | none => none
    | some (.array n e) => match lvP P d e with
      | some ks => bif (P.cellsOf e).beq ks.length && (P.cellsOf t).beq (repL ks n).length then some (repL ks n) else none
      | none => none
    | _ => none
def Free (γ : Gh) : Prop := ∀ b, γ.rd b = none
theorem Free.may {γ : Gh} (h : Free γ) (b i : Nat) : γ.may b i := by simp [Gh.may, h b]
section
variable {H : Type} {enc : TypeId × Value → H} {P : Program} {w : World} {base : Nat} {spare : Nat → Bool} {held : Bool}
theorem rdL_app {γ : Gh} : ∀ {a b : List D} {c d : List Value}, rdL w γ a c → rdL w γ b d → rdL w γ (a ++ b) (c ++ d)
  | [], b, [], d, _, h => by simpa using h
  | x :: a, b, y :: c, d, h1, h2 => by
    simp only [rdL] at h1
    simp only [List.cons_append, rdL]
    exact ⟨h1.1, rdL_app h1.2 h2⟩
  | [], _, _ :: _, _, h, _ => by simp only [rdL] at h
  | _ :: _, _, [], _, h, _ => by simp only [rdL] at h
theorem open_fields {d : Nat} {cs : List Value} (IH : ∀ (t : TypeId) (ks : List T), lvP P d t = some ks → ∀ (fuel : Nat) (cs : List Value) x, DataW.trod enc P w base spare held fuel t cs = some x → ∃ ds, Pl ks ds ∧ ∀ γ : Gh, Free γ → rdL w γ ds cs) (n : Nat) :
    ∀ (fs : List Field) (off : Nat) (ks : List T), eqFs (lvP P d) P off fs = some ks → (∀ (i : Nat) (f : Field), fs[i]? = some f → ∃ y, DataW.trod enc P w base spare held n f.type ((cs.drop f.offset).take (P.cellsOf f.type)) = some y) →
    ∃ ds, Pl ks ds ∧ ∀ γ : Gh, Free γ → rdL w γ ds ((cs.drop off).take ks.length)
  | [], off, ks, h, _ => by
    simp only [eqFs, Option.some.injEq] at h
    subst h
    exact ⟨[], .nil, fun γ _ => by simp [rdL]⟩
  | f :: fs, off, ks, h, hf => by
    simp only [eqFs] at h
    cases hb : ((f.name == "_") || !(f.offset.beq off)) with
    | true => rw [hb] at h; cases h
    | false =>
      rw [hb] at h
      simp only [cond_false] at h
      simp only [Bool.or_eq_false_iff, Bool.not_eq_false'] at hb
      have ho := nbeq.1 hb.2
      split at h
      · rename_i k1 hk1
        cases hc : (P.cellsOf f.type).beq k1.length with
        | false => rw [hc] at h; cases h
        | true =>
          rw [hc] at h
          simp only [cond_true] at h
          split at h
          · rename_i r hr
            cases h
            obtain ⟨y, hy⟩ := hf 0 f rfl
            rw [nbeq.1 hc, ho] at hy
            obtain ⟨d1, p1, q1⟩ := IH f.type k1 hk1 n _ y hy
            obtain ⟨d2, p2, q2⟩ := open_fields IH n fs (off + k1.length) r hr fun i f' hi => hf (i + 1) f' (by simpa using hi)
            refine ⟨d1 ++ d2, p1.append p2, fun γ hγ => ?_⟩
            have := rdL_app (q1 γ hγ) (q2 γ hγ)
            rw [← List.drop_drop] at this
            have e : ∀ (l : List Value) (a b : Nat), l.take a ++ (l.drop a).take b = l.take (a + b) := fun l a b => by rw [List.take_add]
            rw [e] at this
            simpa using this
          · cases h
      · cases h
theorem open_items {d m : Nat} {e : TypeId} {k1 : List T} {cs : List Value} (hk : lvP P d e = some k1) (hc : P.cellsOf e = k1.length)
    (IH : ∀ (t : TypeId) (ks : List T), lvP P d t = some ks → ∀ (fuel : Nat) (cs : List Value) x, DataW.trod enc P w base spare held fuel t cs = some x → ∃ ds, Pl ks ds ∧ ∀ γ : Gh, Free γ → rdL w γ ds cs) :
    ∀ (n j : Nat), (∀ i, i < n → ∃ y, DataW.trod enc P w base spare held m e ((cs.drop ((j + i) * P.cellsOf e)).take (P.cellsOf e)) = some y) → ∃ ds, Pl (repL k1 n) ds ∧ ∀ γ : Gh, Free γ → rdL w γ ds ((cs.drop (j * k1.length)).take (repL k1 n).length)
  | 0, j, _ => ⟨[], by simp only [repL]; exact .nil, fun γ _ => by simp [repL, rdL]⟩
  | n + 1, j, h => by
    obtain ⟨y, hy⟩ := h 0 (by omega)
    rw [hc, Nat.add_zero] at hy
    obtain ⟨d1, p1, q1⟩ := IH e k1 hk m _ y hy
    obtain ⟨d2, p2, q2⟩ := open_items hk hc IH n (j + 1) fun i hi => by
      have := h (i + 1) (by omega)
      rwa [show j + (i + 1) = j + 1 + i by omega] at this
    refine ⟨d1 ++ d2, by simp only [repL]; exact p1.append p2, fun γ hγ => ?_⟩
    have := rdL_app (q1 γ hγ) (q2 γ hγ)
    rw [show (j + 1) * k1.length = j * k1.length + k1.length by rw [Nat.add_mul, Nat.one_mul], ← List.drop_drop] at this
    have e2 : ∀ (l : List Value) (a b : Nat), l.take a ++ (l.drop a).take b = l.take (a + b) := fun l a b => by rw [List.take_add]
    rw [e2] at this
    simpa [repL] using this
theorem choose_list {α : Type} {Q : Nat → α → Prop} : ∀ (n : Nat), (∀ i, i < n → ∃ x, Q i x) → ∃ l : List α, l.length = n ∧ ∀ i (h : i < l.length), Q i (l[i]'h)
  | 0, _ => ⟨[], rfl, fun i h => absurd h (Nat.not_lt_zero _)⟩
  | n + 1, h => by
    obtain ⟨l, hl, hq⟩ := choose_list n fun i hi => h i (by omega)
    obtain ⟨x, hx⟩ := h n (by omega)
    refine ⟨l ++ [x], by simp [hl], fun i hi => ?_⟩
    by_cases hin : i < l.length
    · rw [List.getElem_append_left hin]; exact hq i hin
    · have : i = n := by simp at hi; omega
      subst this
      have e : (l ++ [x])[i]'hi = x := by
        rw [List.getElem_append_right (by omega)]
        simp [hl]
      rw [e]; exact hx
theorem open_lv : ∀ (d : Nat) (t : TypeId) (ks : List T), lvP P d t = some ks → ∀ (fuel : Nat) (cs : List Value) x, DataW.trod enc P w base spare held fuel t cs = some x → ∃ ds, Pl ks ds ∧ ∀ γ : Gh, Free γ → rdL w γ ds cs
  | 0, t, ks, h, _, _, _, _ => by simp [lvP] at h
  | d + 1, t, ks, h, fuel, cs, x, hx => by
    cases hu : P.underlying t with
    | none => simp [lvP, hu] at h
    | some kd =>
      cases kd
      case bool =>
        simp only [lvP, hu, Option.some.injEq] at h
        subst h
        cases fuel with
        | zero => simp [DataW.trod] at hx
        | succ fuel =>
          unfold DataW.trod at hx
          rw [hu] at hx
          split at hx <;> simp_all
          rename_i b
          exact ⟨[.g .bool b], .cons (by simp only [T.ok]) .nil, fun γ _ => by simp [rdL, rdD, rdT]⟩
      case int k =>
        simp only [lvP, hu, Option.some.injEq] at h
        subst h
        obtain ⟨n, rfl, _, hw⟩ := DataW.trod_int hu hx
        simp only [Lit.wf, Bool.and_eq_true, decide_eq_true_eq] at hw
        exact ⟨[.g (.int k) n], .cons (by simp only [T.ok]; exact hw) .nil, fun γ _ => by simp [rdL, rdD, rdT]⟩
      case slice e =>
        simp only [lvP, hu] at h
        split at h
        · rename_i k1 hk1
          split at h
          · rename_i ts hts
            cases hc : (P.cellsOf e).beq k1.length with
            | false => rw [hc] at h; cases h
            | true =>
              rw [hc] at h
              cases h
              have hl := tsOf_list hts
              have hsz : P.cellsOf e = ts.size := by rw [nbeq.1 hc, ← hl, Ts.list_length]
              rcases DataW.trod_slice hu hx with ⟨rfl, _⟩ | ⟨a, len, cap, elems, rest, n, _, rfl, _, hb, hlc, hm, hlen, hel, _, _⟩
              · exact ⟨[.g (.sl ts) []], .cons (by simp only [T.ok]; exact ⟨Nat.zero_le _, fun i hi => absurd hi (Nat.not_lt_zero _)⟩) .nil, fun γ _ => by
                  simp only [rdL, rdD, rdT, and_true]
                  exact ⟨none, 0, rfl, Nat.le_refl _, fun i hi => absurd hi (Nat.not_lt_zero _)⟩⟩
              · have hone : ∀ i, i < len → ∃ y : ts.den, ts.ok y ∧ a.spot = none ∧ ∀ γ : Gh, Free γ → rdTs w γ ts y a.block (a.off + i * ts.size) := fun i hi => by
                  have h1 := hel i hi
                  rw [List.getElem?_eq_getElem (by omega)] at h1
                  obtain ⟨cs, hcs, htr⟩ := Option.bind_eq_some_iff.1 h1
                  obtain ⟨ds, p1, q1⟩ := open_lv d e k1 hk1 n cs _ htr
                  rw [← hl] at p1
                  obtain ⟨y, rfl, hy⟩ := p1.leaves
                  obtain ⟨_, c2, c3⟩ := World.cells?_some hcs
                  have hpos := Ts.size_pos ts
                  rw [hsz] at c2 c3
                  have hget : ∀ j, j < ts.size → ∃ v, cs[j]? = some v ∧ w.cell? ((a.add (i * ts.size)).add j) = some v := fun j hj => by
                    have hlt : j < cs.length := by omega
                    exact ⟨cs[j], List.getElem?_eq_getElem hlt, by rw [c3 j hj]; exact List.getElem?_eq_getElem hlt⟩
                  have haddr : a.spot = none := by
                    have h00 := hel 0 (by omega)
                    rw [List.getElem?_eq_getElem (by omega)] at h00
                    obtain ⟨cs0, hcs0, _⟩ := Option.bind_eq_some_iff.1 h00
                    obtain ⟨_, e2, e3⟩ := World.cells?_some hcs0
                    rw [hsz] at e2 e3
                    have e4 := e3 0 hpos
                    rw [List.getElem?_eq_getElem (by omega)] at e4
                    simp only [Nat.zero_mul, Addr.add, if_true] at e4
                    cases hsp : a.spot with
                    | none => rfl
                    | some q =>
                      unfold World.cell? at e4
                      split at e4
                      · rw [hsp] at e4; simp at e4
                      · cases e4
                  have hadd : ∀ j, (a.add (i * ts.size)).add j = ⟨a.block, a.off + i * ts.size + j, none⟩ := fun j => by
                    obtain ⟨ab, ao, as⟩ := a
                    simp only at haddr
                    subst haddr
                    simp only [add_none]
                  refine ⟨y, hy, haddr, fun γ hγ => rdTs_of_rdC (rdC_of_cells fun j dd hj => ?_)⟩
                  obtain ⟨v, hv, hdv⟩ := rdL_get (q1 γ hγ) hj
                  have hjl : j < ts.size := by
                    have := (List.getElem?_eq_some_iff.1 hj).1
                    rwa [leaves_length] at this
                  obtain ⟨v', hv', hcell⟩ := hget j hjl
                  rw [hv] at hv'
                  cases hv'
                  rw [hadd j] at hcell
                  exact ⟨v, hcell, hγ.may _ _, hdv⟩
                obtain ⟨xs, hxl, hxs⟩ := choose_list len hone
                refine ⟨[.g (.sl ts) xs], .cons (by simp only [T.ok]; exact ⟨by omega, fun i hi => (hxs i hi).1⟩) .nil, fun γ hγ => ?_⟩
                simp only [rdL, rdD, rdT, and_true]
                refine ⟨some a, cap, by rw [hxl], by omega, fun i hi => ?_⟩
                obtain ⟨_, hsp, hr⟩ := hxs i hi
                refine ⟨a.block, a.off, ?_, hr γ hγ⟩
                obtain ⟨ab, ao, as⟩ := a
                simp only at hsp
                subst hsp
                rfl
          · cases h
        · cases h
      case struct fs =>
        simp only [lvP, hu] at h
        split at h
        · rename_i k0 hk0
          have h' := h
          replace h := hk0
          cases hc : (P.cellsOf t).beq k0.length with
          | false => rw [hc] at h'; cases h'
          | true =>
          rw [hc] at h'
          cases h'
          obtain ⟨xs, n, _, _, hl, hlen, hf⟩ := DataW.trod_struct hu hx
          obtain ⟨ds, p1, q1⟩ := open_fields (enc := enc) (w := w) (base := base) (spare := spare) (held := held) (cs := cs) (fun t ks => open_lv d t ks) n fs.toList 0 _ h fun i f hi => by
            have hi' : fs[i]? = some f := by simpa using hi
            have hlt := (Array.getElem?_eq_some_iff.1 hi').1
            exact ⟨xs[i]'(by omega), by rw [hf i f hi']; exact List.getElem?_eq_getElem _⟩
          refine ⟨ds, p1, fun γ hγ => ?_⟩
          have := q1 γ hγ
          rwa [List.drop_zero, List.take_of_length_le (by rw [hl, nbeq.1 hc]; exact Nat.le_refl _)] at this
        · cases h
      case array n e =>
        simp only [lvP, hu] at h
        split at h
        · rename_i k1 hk1
          cases hc : ((P.cellsOf e).beq k1.length && (P.cellsOf t).beq (repL k1 n).length) with
          | false => rw [hc] at h; cases h
          | true =>
            rw [hc] at h
            cases h
            simp only [Bool.and_eq_true] at hc
            obtain ⟨xs, m, _, _, hl, hlen, hi⟩ := DataW.trod_array hu hx
            obtain ⟨ds, p1, q1⟩ := open_items (enc := enc) (w := w) (base := base) (spare := spare) (held := held) (cs := cs) (m := m) hk1 (nbeq.1 hc.1) (fun t ks => open_lv d t ks) n 0 fun i hin => by
              exact ⟨xs[i]'(by omega), by rw [Nat.zero_add, hi i hin]; exact List.getElem?_eq_getElem _⟩
            refine ⟨ds, p1, fun γ hγ => ?_⟩
            have := q1 γ hγ
            rw [Nat.zero_mul, List.drop_zero, List.take_of_length_le (by rw [hl, nbeq.1 hc.2]; exact Nat.le_refl _)] at this
            exact this
        · cases h
      all_goals simp [lvP, hu] at h
/-- an argument: its data, and how it reads -/
def argR (ag : Bool) (ts : Ts) (x : ts.den) : R := match ag with
  | true => .agg (ts.leaves x)
  | false => match ts.leaves x with
    | [d] => .one d
    | _ => .undef
def isAggP (P : Program) (t : TypeId) : Bool := match P.underlying t with
  | some (.struct _) => true
  | some (.array _ _) => true
  | _ => false
/-- what is asked of a parameter's type, as a check that runs -/
def argB (P : Program) (t : TypeId) (ag : Bool) (ts : Ts) : Bool := (match lvP P 9 t with
  | some ks => tsB ks ts.list
  | none => false) && (isAggP P t == ag) && (ag || ts.size.beq 1)
theorem open_arg {r : Reach} {b0 : Nat} {t : TypeId} {ag : Bool} {ts : Ts} {v : Value} {d : DataW H} {ps : List MemPlace} (hb : argB P t ag ts = true) (hval : Value.okWide P w r b0 t v) (h : DataW.Trod enc P w base spare held t v d ps) :
    ∃ x : ts.den, ts.ok x ∧ ∀ γ : Gh, Free γ → rdR w γ (argR ag ts x) v := by
  simp only [argB, Bool.and_eq_true, Bool.or_eq_true] at hb
  obtain ⟨⟨hb1, hb2⟩, hb3⟩ := hb
  split at hb1
  · rename_i ks hks
    obtain rfl := tsB_eq hb1
    obtain ⟨fuel, hf⟩ := h
    obtain ⟨ds, p1, q1⟩ := open_lv 9 t ts.list hks fuel _ _ hf
    obtain ⟨x, rfl, hx⟩ := p1.leaves
    refine ⟨x, hx, fun γ hγ => ?_⟩
    have hr := q1 γ hγ
    have hb2 := eq_of_beq hb2
    cases ag with
    | true =>
      have hcs : ∃ cs, v = .agg cs := by
        unfold isAggP at hb2
        unfold Value.okWide at hval
        split at hb2
        · rename_i hu; rw [hu] at hval; obtain ⟨cs, rfl, _⟩ := hval; exact ⟨cs, rfl⟩
        · rename_i hu; rw [hu] at hval; obtain ⟨cs, rfl, _⟩ := hval; exact ⟨cs, rfl⟩
        · cases hb2
      obtain ⟨cs, rfl⟩ := hcs
      simp only [argR, rdR]
      exact ⟨cs, rfl, hr⟩
    | false =>
      have h1 : ts.size = 1 := by
        rcases hb3 with hb3 | hb3
        · cases hb3
        · exact nbeq.1 hb3
      have hl := leaves_length ts x
      rw [h1] at hl
      simp only [argR]
      cases hlv : ts.leaves x with
      | nil => rw [hlv] at hl; simp at hl
      | cons y ys =>
        have hys : ys = [] := by rw [hlv] at hl; simpa using hl
        subst hys
        rw [hlv] at hr
        simp only [rdR]
        have hlen := rdL_length hr
        have hc : ∃ u, v.cells.toList = [u] := by
          match hh : v.cells.toList, hlen with
          | [u], _ => exact ⟨u, rfl⟩
        obtain ⟨u, hu⟩ := hc
        rw [hu] at hr
        simp only [rdL, and_true] at hr
        have hv : v = u := by
          cases v with
          | agg cs =>
            exfalso
            unfold isAggP at hb2
            unfold Value.okWide at hval
            simp only [lvP] at hks
            split at hb2
            · cases hb2
            · cases hb2
            · rename_i hn1 hn2
              cases hut : P.underlying t with
              | none => rw [hut] at hks; cases hks
              | some kd =>
                rw [hut] at hval hks
                cases kd <;> first | (exact hn1 _ hut) | (exact hn2 _ _ hut) | (simp at hks; done) | (simp only [Cell.okWide, hut] at hval; unfold Cell.ok at hval; rw [hut] at hval; simp at hval)
          | _ => simpa [Value.cells] using hu
        rw [hv]
        exact hr
  · cases hb1
end
end Go.V
