/- Structs and arrays of numbers that are held against each other. -/
import Derived.Test.YtelfooangijedaaEnvB
import Derived.ChangeKeysEq
import Derived.Laws.StructEq
namespace Go.V
open Go.RowKit
set_option linter.unusedVariables false

mutual
theorem T.beq_rfl : (t : T) → T.beq t t = true
  | .int k => by simp [T.beq]
  | .bool => by simp [T.beq]
  | .sl e => by simp only [T.beq]; exact Ts.beq_rfl e
theorem Ts.beq_rfl : (ts : Ts) → Ts.beq ts ts = true
  | .one t => by simp only [Ts.beq]; exact T.beq_rfl t
  | .cons t ts => by simp only [Ts.beq, Bool.and_eq_true]; exact ⟨T.beq_rfl t, Ts.beq_rfl ts⟩
end
theorem unLeaf_g (t : T) (x : t.den) : unLeaf t (.g t x) = some x := by simp [unLeaf, T.beq_rfl, T.cast]
theorem unleaves_leaves : (ts : Ts) → (z : ts.den) → unleaves ts (ts.leaves z) = some z
  | .one t, z => by simp [unleaves, Ts.leaves, unLeaf_g]
  | .cons t ts, z => by simp [unleaves, Ts.leaves, unLeaf_g, unleaves_leaves ts]
def eqV : List Value → List Value → Bool
  | [], [] => true
  | .int _ a :: l, .int _ b :: m => a == b && eqV l m
  | .bool a :: l, .bool b :: m => a == b && eqV l m
  | _, _ => false
def fits : List T → List Value → Bool
  | [], [] => true
  | .int k :: ts, .int k' _ :: vs => decide (k = k') && fits ts vs
  | .bool :: ts, .bool _ :: vs => fits ts vs
  | _, _ => false
theorem fits_cons {t : T} {ts : List T} {vs : List Value} (h : fits (t :: ts) vs = true) : ∃ v l, vs = v :: l ∧ fits ts l = true ∧ ((∃ k n, t = .int k ∧ v = .int k n) ∨ (∃ b, t = .bool ∧ v = .bool b)) := by
  cases t with
  | int k =>
    cases vs with
    | nil => simp [fits] at h
    | cons v l =>
      cases v <;> simp only [fits, Bool.and_eq_true, decide_eq_true_eq, Bool.false_eq_true] at h
      obtain ⟨rfl, h⟩ := h
      exact ⟨_, _, rfl, h, .inl ⟨_, _, rfl, rfl⟩⟩
  | bool =>
    cases vs with
    | nil => simp [fits] at h
    | cons v l =>
      cases v <;> simp only [fits, Bool.false_eq_true] at h
      exact ⟨_, _, rfl, h, .inr ⟨_, rfl, rfl⟩⟩
  | sl e => cases vs <;> simp [fits] at h
theorem fits_length : ∀ {ts : List T} {vs : List Value}, fits ts vs = true → vs.length = ts.length
  | [], [], _ => rfl
  | [], _ :: _, h => by simp [fits] at h
  | t :: ts, vs, h => by
    obtain ⟨v, l, rfl, h1, _⟩ := fits_cons h
    simp [fits_length h1]
theorem fits_split : ∀ {ks ls : List T} {vs : List Value}, fits (ks ++ ls) vs = true → fits ks (vs.take ks.length) = true ∧ fits ls (vs.drop ks.length) = true
  | [], ls, vs, h => ⟨by simp [fits], by simpa using h⟩
  | k :: ks, ls, vs, h => by
    rw [List.cons_append] at h
    obtain ⟨v, l, rfl, h1, h2⟩ := fits_cons h
    obtain ⟨a, b⟩ := fits_split h1
    refine ⟨?_, by simpa using b⟩
    rcases h2 with ⟨q, n, rfl, rfl⟩ | ⟨c, rfl, rfl⟩ <;> simpa [fits] using a
theorem eqV_append : ∀ {ks : List T} {a b c d : List Value}, fits ks a = true → fits ks b = true → eqV (a ++ c) (b ++ d) = (eqV a b && eqV c d)
  | [], a, b, c, d, h1, h2 => by
    have e1 := fits_length h1
    have e2 := fits_length h2
    obtain rfl := List.eq_nil_of_length_eq_zero e1
    obtain rfl := List.eq_nil_of_length_eq_zero e2
    simp [eqV]
  | k :: ks, a, b, c, d, h1, h2 => by
    obtain ⟨v, l, rfl, g1, g2⟩ := fits_cons h1
    obtain ⟨u, m, rfl, g3, g4⟩ := fits_cons h2
    have ih := eqV_append (c := c) (d := d) g1 g3
    rcases g2 with ⟨q, n, rfl, rfl⟩ | ⟨x, rfl, rfl⟩ <;> rcases g4 with ⟨q', n', hq, rfl⟩ | ⟨x', hq, rfl⟩ <;> first | (cases hq; done) | skip
    · simp only [List.cons_append, eqV, ih, Bool.and_assoc]
    · simp only [List.cons_append, eqV, ih, Bool.and_assoc]
def repL (ks : List T) : Nat → List T
  | 0 => []
  | n + 1 => ks ++ repL ks n
def eqFs (g : TypeId → Option (List T)) (P : Program) : Nat → List Field → Option (List T)
  | _, [] => some []
  | off, f :: fs => bif (f.name == "_") || !(f.offset.beq off) then none else match g f.type with
    | some ks => bif (P.cellsOf f.type).beq ks.length then (match eqFs g P (off + ks.length) fs with
      | some r => some (ks ++ r)
      | none => none) else none
    | none => none
def eqLv (P : Program) : Nat → TypeId → Option (List T)
  | 0, _ => none
  | d + 1, t => match P.underlying t with
    | some (.int k) => some [.int k]
    | some .bool => some [.bool]
    | some (.struct fs) => bif P.stoodInHeld t then none else eqFs (eqLv P d) P 0 fs.toList
    | some (.array n e) => match eqLv P d e with
      | some ks => bif (P.cellsOf e).beq ks.length then some (repL ks n) else none
      | none => none
    | _ => none
def Rep (P : Program) (e : TypeId) (a : Value) (l : List Value) : Prop := match P.underlying e with
  | some (.struct _) => ∃ xs, a = .agg xs ∧ xs.toList = l
  | some (.array _ _) => ∃ xs, a = .agg xs ∧ xs.toList = l
  | _ => l = [a]
def EqAt2 (P : Program) (dd : Nat) (e : TypeId) (ks : List T) : Prop :=
  ∀ (w : World) (a b : Value) (la lb : List Value), Rep P e a la → Rep P e b lb → fits ks la = true → fits ks lb = true → (Op.equalIn dd e a b).run P w = .ok (eqV la lb) w
section
variable {P : Program} (w : World)
theorem part_rep {d : Nat} {e : TypeId} {ks : List T} {xs : Array Value} {off : Nat} (he : eqLv P d e = some ks) (hc : P.cellsOf e = ks.length) (hf : fits ks ((xs.toList.drop off).take ks.length) = true) :
    ∃ a, (part e xs off).run P w = .ok a w ∧ Rep P e a ((xs.toList.drop off).take ks.length) := by
  cases d with
  | zero => simp [eqLv] at he
  | succ d =>
    have hlen := fits_length hf
    cases hu : P.underlying e with
    | none => simp [eqLv, hu] at he
    | some kd =>
      obtain ⟨i, hi⟩ := info_of_underlying hu
      have agg : (∃ n e', kd = .array n e') ∨ (∃ fs, kd = .struct fs) → ∃ a, (part e xs off).run P w = .ok a w ∧ Rep P e a ((xs.toList.drop off).take ks.length) := by
        intro hk
        have hl : (xs.extract off (off + P.cellsOf e)).toList = (xs.toList.drop off).take ks.length := by
          rw [Array.toList_extract, hc]
          simp [List.extract]
        refine ⟨.agg (xs.extract off (off + P.cellsOf e)), ?_, ?_⟩
        · rcases hk with ⟨n, e', rfl⟩ | ⟨fs, rfl⟩ <;> simp [part, isAgg, run_underlying hu, run_sizeOf w hi]
        · unfold Rep
          rw [hu]
          rcases hk with ⟨n, e', rfl⟩ | ⟨fs, rfl⟩ <;> exact ⟨_, rfl, hl⟩
      have plain : ks.length = 1 → (part e xs off = do match xs[off]? with | some v => pure v | none => stuck "part: no such cell") ∨ True → (∀ v, xs[off]? = some v → (part e xs off).run P w = .ok v w) → (∀ a l, l = [a] → Rep P e a l) → ∃ a, (part e xs off).run P w = .ok a w ∧ Rep P e a ((xs.toList.drop off).take ks.length) := by
        intro h1 _ h2 h3
        rw [h1] at hlen ⊢
        cases hd : (xs.toList.drop off).take 1 with
        | nil => rw [hd] at hlen; simp at hlen
        | cons v l =>
          have hv : xs[off]? = some v := by
            have : ((xs.toList.drop off).take 1)[0]? = some v := by rw [hd]; rfl
            simpa using this
          have hl : l = [] := by
            rw [hd] at hlen
            simpa using hlen
          subst hl
          exact ⟨v, h2 v hv, h3 v _ rfl⟩
      cases kd
      case bool =>
        simp only [eqLv, hu, Option.some.injEq] at he
        subst he
        exact plain rfl (.inr trivial) (fun v hv => by simp [part, isAgg, run_underlying hu, hv]) (fun a l h => by unfold Rep; rw [hu]; exact h)
      case int k =>
        simp only [eqLv, hu, Option.some.injEq] at he
        subst he
        exact plain rfl (.inr trivial) (fun v hv => by simp [part, isAgg, run_underlying hu, hv]) (fun a l h => by unfold Rep; rw [hu]; exact h)
      case array n e' => exact agg (.inl ⟨n, e', rfl⟩)
      case struct fs => exact agg (.inr ⟨fs, rfl⟩)
      all_goals simp [eqLv, hu] at he
theorem eqFields_sound (dd : Nat) {d : Nat} (IH : ∀ e ks, eqLv P d e = some ks → EqAt2 P dd e ks) (xs ys : Array Value) : ∀ (fs : List Field) (off : Nat) (ks : List T), eqFs (eqLv P d) P off fs = some ks →
    fits ks (xs.toList.drop off) = true → fits ks (ys.toList.drop off) = true → (Op.eqFields dd xs ys fs).run P w = .ok (eqV (xs.toList.drop off) (ys.toList.drop off)) w
  | [], off, ks, h, hx, hy => by
    simp only [eqFs, Option.some.injEq] at h
    subst h
    rw [List.eq_nil_of_length_eq_zero (fits_length hx), List.eq_nil_of_length_eq_zero (fits_length hy)]
    simp [Op.eqFields, eqV]
  | f :: fs, off, ks, h, hx, hy => by
    simp only [eqFs] at h
    cases hb : ((f.name == "_") || !(f.offset.beq off)) with
    | true => rw [hb] at h; cases h
    | false =>
      rw [hb] at h
      simp only [cond_false] at h
      simp only [Bool.or_eq_false_iff, Bool.not_eq_false', beq_eq_false_iff_ne, ne_eq] at hb
      obtain ⟨hn, ho⟩ := hb
      have ho := nbeq.1 ho
      split at h
      · rename_i k1 hk1
        cases hc : (P.cellsOf f.type).beq k1.length with
        | false => rw [hc] at h; cases h
        | true =>
          rw [hc] at h
          simp only [cond_true] at h
          split at h
          · rename_i r hr
            cases h
            obtain ⟨x1, x2⟩ := fits_split hx
            obtain ⟨y1, y2⟩ := fits_split hy
            obtain ⟨a, p1, r1⟩ := part_rep w hk1 (nbeq.1 hc) (xs := xs) (off := off) x1
            obtain ⟨b, p2, r2⟩ := part_rep w hk1 (nbeq.1 hc) (xs := ys) (off := off) y1
            have e := IH f.type k1 hk1 w a b _ _ r1 r2 x1 y1
            simp only [List.drop_drop] at x2 y2
            have ih := eqFields_sound dd IH xs ys fs (off + k1.length) r hr x2 y2
            have e3 : eqV (xs.toList.drop off) (ys.toList.drop off) = (eqV ((xs.toList.drop off).take k1.length) ((ys.toList.drop off).take k1.length) && eqV (xs.toList.drop (off + k1.length)) (ys.toList.drop (off + k1.length))) := by
              rw [← eqV_append x1 y1, ← List.drop_drop, ← List.drop_drop, List.take_append_drop, List.take_append_drop]
            subst ho
            simp only [Op.eqFields, hn, ne_eq, not_false_eq_true, if_true, Sem.run_bind, p1, p2, e, Result.andThen_ok, e3]
            cases eqV ((xs.toList.drop f.offset).take k1.length) ((ys.toList.drop f.offset).take k1.length) with
            | false => simp
            | true => simpa using ih
          · cases h
      · cases h
theorem eqItems_sound (dd : Nat) {d : Nat} {e : TypeId} {k1 : List T} (hk : eqLv P d e = some k1) (hc : P.cellsOf e = k1.length) (IH : EqAt2 P dd e k1) (xs ys : Array Value) : ∀ (n j : Nat),
    fits (repL k1 n) (xs.toList.drop (j * k1.length)) = true → fits (repL k1 n) (ys.toList.drop (j * k1.length)) = true → (Op.eqItems dd e (P.cellsOf e) xs ys (List.range' j n)).run P w = .ok (eqV (xs.toList.drop (j * k1.length)) (ys.toList.drop (j * k1.length))) w
  | 0, j, hx, hy => by
    simp only [repL] at hx hy
    rw [List.eq_nil_of_length_eq_zero (fits_length hx), List.eq_nil_of_length_eq_zero (fits_length hy)]
    simp [Op.eqItems, eqV]
  | n + 1, j, hx, hy => by
    simp only [repL] at hx hy
    obtain ⟨x1, x2⟩ := fits_split hx
    obtain ⟨y1, y2⟩ := fits_split hy
    obtain ⟨a, p1, r1⟩ := part_rep w hk hc (xs := xs) (off := j * k1.length) x1
    obtain ⟨b, p2, r2⟩ := part_rep w hk hc (xs := ys) (off := j * k1.length) y1
    have e1 := IH w a b _ _ r1 r2 x1 y1
    simp only [List.drop_drop] at x2 y2
    have hj : j * k1.length + k1.length = (j + 1) * k1.length := by rw [Nat.add_mul, Nat.one_mul]
    rw [hj] at x2 y2
    have ih := eqItems_sound dd hk hc IH xs ys n (j + 1) x2 y2
    have e3 : eqV (xs.toList.drop (j * k1.length)) (ys.toList.drop (j * k1.length)) = (eqV ((xs.toList.drop (j * k1.length)).take k1.length) ((ys.toList.drop (j * k1.length)).take k1.length) && eqV (xs.toList.drop ((j + 1) * k1.length)) (ys.toList.drop ((j + 1) * k1.length))) := by
      rw [← eqV_append x1 y1, ← hj, ← List.drop_drop, ← List.drop_drop, List.take_append_drop, List.take_append_drop]
    rw [hc] at ih ⊢
    simp only [List.range'_succ, Op.eqItems, Sem.run_bind, p1, p2, e1, Result.andThen_ok, e3]
    cases eqV ((xs.toList.drop (j * k1.length)).take k1.length) ((ys.toList.drop (j * k1.length)).take k1.length) with
    | false => simp
    | true => simpa using ih
end
theorem equal_sound {P : Program} (m : Nat) : ∀ (d : Nat) (e : TypeId) (ks : List T), eqLv P d e = some ks → EqAt2 P (m + d) e ks
  | 0, e, ks, h => by simp [eqLv] at h
  | d + 1, e, ks, h => by
    intro w a b la lb ra rb fa fb
    cases hu : P.underlying e with
    | none => simp [eqLv, hu] at h
    | some kd =>
      simp only [Rep, hu] at ra rb
      cases kd
      case bool =>
        simp only [eqLv, hu, Option.some.injEq] at h
        subst h
        obtain ⟨v, l, e1, g1, g2⟩ := fits_cons fa
        obtain ⟨v', l', e2, g3, g4⟩ := fits_cons fb
        simp only at ra rb
        subst ra; subst rb
        cases e1; cases e2
        rcases g2 with ⟨_, _, hq, _⟩ | ⟨x, _, rfl⟩
        · cases hq
        rcases g4 with ⟨_, _, hq, _⟩ | ⟨y, _, rfl⟩
        · cases hq
        rw [show m + (d + 1) = (m + d) + 1 from rfl, run_equalIn_bool' w (m + d) e x y hu]
        simp [eqV]
      case int k =>
        simp only [eqLv, hu, Option.some.injEq] at h
        subst h
        obtain ⟨v, l, e1, g1, g2⟩ := fits_cons fa
        obtain ⟨v', l', e2, g3, g4⟩ := fits_cons fb
        simp only at ra rb
        subst ra; subst rb
        cases e1; cases e2
        rcases g2 with ⟨q, x, hq, rfl⟩ | ⟨_, hq, _⟩
        case inr => cases hq
        rcases g4 with ⟨q', y, hq', rfl⟩ | ⟨_, hq', _⟩
        case inr => cases hq'
        cases hq; cases hq'
        rw [show m + (d + 1) = (m + d) + 1 from rfl, run_equalIn_int w (m + d) e k k x y hu]
        simp [eqV]
      case array n e' =>
        simp only [eqLv, hu] at h
        obtain ⟨xs, rfl, rfl⟩ := ra
        obtain ⟨ys, rfl, rfl⟩ := rb
        split at h
        · rename_i k1 hk1
          cases hc : (P.cellsOf e').beq k1.length with
          | false => rw [hc] at h; cases h
          | true =>
            rw [hc] at h
            cases h
            have hui : ∃ kd, P.underlying e' = some kd := by
              cases d with
              | zero => simp [eqLv] at hk1
              | succ d =>
                cases hu' : P.underlying e' with
                | none => simp [eqLv, hu'] at hk1
                | some kd => exact ⟨kd, rfl⟩
            obtain ⟨kd, hu'⟩ := hui
            obtain ⟨i, hi⟩ := info_of_underlying hu'
            rw [show m + (d + 1) = (m + d) + 1 from rfl, run_equalIn_array w (m + d) xs ys hu hi]
            have := eqItems_sound w (m + d) hk1 (nbeq.1 hc) (equal_sound m d e' k1 hk1) xs ys n 0 (by simpa using fa) (by simpa using fb)
            simpa [List.range_eq_range'] using this
        · cases h
      case struct fs =>
        simp only [eqLv, hu] at h
        obtain ⟨xs, rfl, rfl⟩ := ra
        obtain ⟨ys, rfl, rfl⟩ := rb
        cases hs : P.stoodInHeld e with
        | true => rw [hs] at h; cases h
        | false =>
          rw [hs] at h
          simp only [cond_false] at h
          have hfs : P.fieldsOf e = fs := by simp [Program.fieldsOf, hu]
          rw [show m + (d + 1) = (m + d) + 1 from rfl, run_equalIn_struct w (m + d) e xs ys (by rw [hfs]; exact hu) hs, hfs]
          have := eqFields_sound w (m + d) (fun e ks => equal_sound m d e ks) xs ys fs.toList 0 ks h (by simpa using fa) (by simpa using fb)
          simpa using this
      all_goals simp [eqLv, hu] at h
/-- the leaves of a type, in a row -/
def Ts.list : Ts → List T
  | .one t => [t]
  | .cons t ts => t :: ts.list
def tsB : List T → List T → Bool
  | [], [] => true
  | a :: l, b :: m => T.beq a b && tsB l m
  | _, _ => false
theorem tsB_eq : ∀ {a b : List T}, tsB a b = true → a = b
  | [], [], _ => rfl
  | a :: l, b :: m, h => by
    simp only [tsB, Bool.and_eq_true] at h
    rw [T.eq_of_beq h.1, tsB_eq h.2]
  | [], _ :: _, h => by cases h
  | _ :: _, [], h => by cases h
def plainL : List T → Bool
  | [] => true
  | .sl _ :: _ => false
  | _ :: l => plainL l
def eqB (E : Env) (t : Nat) : Bool := match E.ti t with
  | some { gl := some ts, .. } => match eqLv E.P 9 t with
    | some ks => tsB ts.list ks && !(E.P.eqGuardType E.P.depth t) && plainL ks && (match E.P.underlying t with
      | some (.struct _) => true
      | some (.array _ _) => true
      | _ => false)
    | none => false
  | _ => false
theorem eq_leaves {w : World} {γ : Gh} : ∀ {ts : Ts} {a b : List D} {u v : ts.den} {c : Bool} {xs ys : List Value}, plainL ts.list = true → unleaves ts a = some u → unleaves ts b = some v → eqD a b = some c → rdL w γ a xs → rdL w γ b ys →
    fits ts.list xs = true ∧ fits ts.list ys = true ∧ c = eqV xs ys
  | .one t, a, b, u, v, c, xs, ys, hp, h1, h2, he, hx, hy => by
    obtain rfl := (unleaves_spec h1).symm
    obtain rfl := (unleaves_spec h2).symm
    simp only [Ts.leaves] at he hx hy
    match xs, ys with
    | [x], [y] =>
      cases t with
      | int k =>
        simp only [rdL, rdD, rdT, and_true] at hx hy
        subst hx; subst hy
        simp only [eqD, if_true, Option.some.injEq] at he
        simp only [Ts.list, fits, decide_true, Bool.and_self, eqV, true_and]
        exact he.symm
      | bool =>
        simp only [rdL, rdD, rdT, and_true] at hx hy
        subst hx; subst hy
        simp only [eqD, Option.some.injEq] at he
        simp only [Ts.list, fits, eqV, true_and]
        exact he.symm
      | sl e => simp [Ts.list, plainL] at hp
    | [], _ => simp only [rdL] at hx
    | _ :: _ :: _, _ => simp only [rdL, and_false] at hx
    | [x], [] => simp only [rdL] at hy
    | [x], _ :: _ :: _ => simp only [rdL, and_false] at hy
  | .cons t ts, a, b, u, v, c, xs, ys, hp, h1, h2, he, hx, hy => by
    obtain rfl := (unleaves_spec h1).symm
    obtain rfl := (unleaves_spec h2).symm
    simp only [Ts.leaves] at he hx hy
    match xs, ys with
    | x :: xs, y :: ys =>
      simp only [rdL] at hx hy
      have hs : ∀ (z : ts.den), unleaves ts (ts.leaves z) = some z := unleaves_leaves ts
      cases t with
      | int k =>
        simp only [rdD, rdT] at hx hy
        obtain ⟨rfl, hx⟩ := hx
        obtain ⟨rfl, hy⟩ := hy
        simp only [eqD, if_true] at he
        split at he
        · rename_i c' hc'
          cases he
          obtain ⟨q1, q2, q3⟩ := eq_leaves (by simpa [Ts.list, plainL] using hp) (hs u.2) (hs v.2) hc' hx hy
          simp only [Ts.list, fits, decide_true, Bool.true_and, eqV, q1, q2, q3, true_and]
        · cases he
      | bool =>
        simp only [rdD, rdT] at hx hy
        obtain ⟨rfl, hx⟩ := hx
        obtain ⟨rfl, hy⟩ := hy
        simp only [eqD] at he
        split at he
        · rename_i c' hc'
          cases he
          obtain ⟨q1, q2, q3⟩ := eq_leaves (by simpa [Ts.list, plainL] using hp) (hs u.2) (hs v.2) hc' hx hy
          simp only [Ts.list, fits, eqV, q1, q2, q3, true_and]
        · cases he
      | sl e => simp [Ts.list, plainL] at hp
    | [], _ => simp only [rdL] at hx
    | _ :: _, [] => simp only [rdL] at hy
def eqsB (E : Env) : List Nat → Bool
  | [] => true
  | t :: l => eqB E t && eqsB E l
theorem eqsB_mem {E : Env} : ∀ {l : List Nat} {t : Nat}, eqsB E l = true → mem t l = true → eqB E t = true
  | [], t, _, h => by cases h
  | s :: l, t, hb, h => by
    simp only [eqsB, Bool.and_eq_true] at hb
    simp only [mem, Bool.or_eq_true] at h
    rcases h with h | h
    · obtain rfl := nbeq.1 h; exact hb.1
    · exact eqsB_mem hb.2 h
theorem envOK2 {E : Env} (h1 : tabB E E.tab = true) (h2 : E.P.follows .mixedOrders = true) (h3 : fnsB E.P.funcs.toList = true) (h4 : eqsB E E.eqs = true) : EnvOK E :=
  ⟨fun t ti ht => tabB_sound h1 t ti ht, h2, fun f fn hf hb => fnsB_sound h3 f fn (by simpa using hf) hb, fun t ht ti ts hti hgl w γ a b u v c x y p q hu hv hc hx hy => by
    have hb := eqsB_mem h4 ht
    unfold eqB at hb
    rw [hti] at hb
    obtain ⟨d, sz, ag, gl, z⟩ := ti
    simp only at hgl
    subst hgl
    simp only at hb
    split at hb
    · rename_i ks hks
      simp only [Bool.and_eq_true, Bool.not_eq_true'] at hb
      obtain ⟨⟨⟨b1, b2⟩, b3⟩, b4⟩ := hb
      obtain rfl := tsB_eq b1
      obtain ⟨f1, f2, rfl⟩ := eq_leaves b3 hu hv hc hx hy
      refine ⟨fun op => run_eqGuard_agg w op t p q x y b2, ?_⟩
      have hr : ∀ z : Array Value, Rep E.P t (.agg z) z.toList := fun z => by
        unfold Rep
        split at b4
        · exact ⟨z, rfl, rfl⟩
        · exact ⟨z, rfl, rfl⟩
        · cases b4
      exact equal_sound 9991 9 t _ hks w (.agg x) (.agg y) _ _ (hr x) (hr y) f1 f2
    · cases hb⟩
end Go.V
