/- Calls that only compute. -/
import Derived.Test.YtelfooangijedaaOps5
namespace Go.V
open Go.RowKit

section
variable {E : Env} {P : Program} {γ : Gh} {dead : List Tok} {C : List Nat} {a : Act} {w : World} {dst : Nat}

def ownD' (γ : Gh) (dst : Nat) : D → Value → Prop
  | .ow e _ _, v => ∃ h, γ.ow (.s dst) = some h ∧ v = .slice h.A h.n h.c ∧ h.sz = e.size
  | _, _ => True
def ownTop (γ : Gh) (dst : Nat) : R → Value → Prop
  | .one d, v => ownD' γ dst d v
  | .tup (.one d :: _), .tuple vs => ∀ v, vs[0]? = some v → ownD' γ dst d v
  | _, _ => True
/-- what is shown of a call: it hands a value back that reads as 'r'; there are new blocks at most -/
def PureOK (E : Env) (cp : CallP) : Prop :=
  ∀ f args r, cp f args = some r → (∃ fn, E.P.funcs[f]? = some fn ∧ fn.body.isSome = true) ∧ ∀ γ w vs dst, rdRs w γ args vs → (∀ b, w.heap.size ≤ b → γ.rd b = none) → γ.base ≤ w.heap.size → (∀ b ∈ γ.bx, b < w.heap.size) →
    Calls E.P f vs.toArray w fun e w' => ∃ v γ', e = .returned v ∧ Grow γ w γ' w' dst ∧ rdR w' γ' r v ∧ ownTop γ' dst r v

theorem castL_rdT {e e' : Ts} (h : Ts.beq e' e = true) {xs : List e'.den} {v : Value} (hx : rdT w γ (.sl e') xs v) : rdT w γ (.sl e) (castL h xs) v := by
  obtain rfl := Ts.eq_of_beq h
  exact hx
theorem unOne_sound {own ag : Bool} {ts : Ts} {r : R} {x : ts.den} {v : Value} (h : unOne own ag ts r = some x) (hr : rdR w γ r v) (ho : own = true → ownTop γ dst r v) :
    rdR w γ (mkOne dst own ag ts x) v ∧ tkR γ dead (dst :: C) (mkOne dst own ag ts x) v := by
  cases own with
  | true =>
    cases ts with
    | cons t us => cases r <;> simp [unOne] at h
    | one t =>
      cases t with
      | int k => cases r <;> simp [unOne] at h
      | bool => cases r <;> simp [unOne] at h
      | sl e =>
        cases r with
        | one d =>
          cases d with
          | ow e' xs k =>
            simp only [unOne] at h
            split at h
            · rename_i hb
              cases h
              have h1 := ho rfl
              simp only [ownTop, ownD'] at h1
              simp only [rdR, rdD] at hr
              simp only [mkOne, rdR, rdD, tkR, tkD]
              obtain ⟨hd, q1, q2, q3⟩ := h1
              exact ⟨castL_rdT hb hr, .inr ⟨hd, q1, q2, by rw [q3]; exact congrArg Ts.size (Ts.eq_of_beq hb)⟩, fun t ht => by cases ht; simp⟩
            · cases h
          | _ => simp [unOne] at h
        | _ => simp [unOne] at h
  | false =>
    cases ag with
    | true =>
      cases r with
      | agg ds =>
        simp only [unOne] at h
        have h1 := unleaves_spec h
        simp only [rdR] at hr
        obtain ⟨vs, rfl, hr⟩ := hr
        have e : mkOne dst false true ts x = .agg (ts.leaves x) := by
          cases ts with
          | cons t us => rfl
          | one t => cases t <;> rfl
        rw [e, h1]
        simp only [rdR, tkR]
        exact ⟨⟨vs, rfl, (rdL_map nameOnly_strip).2 hr⟩, trivial⟩
      | _ => simp [unOne] at h
    | false =>
      cases r with
      | one d =>
        simp only [unOne] at h
        have h1 := unleaves_spec h
        have e : mkOne dst false false ts x = match ts.leaves x with
            | [d] => .one d
            | _ => .undef := by
          cases ts with
          | cons t us => rfl
          | one t => cases t <;> rfl
        rw [e, h1]
        simp only [rdR, tkR] at hr ⊢
        exact ⟨rdD_strip.2 hr, tkD_strip d v⟩
      | _ => simp [unOne] at h

theorem unSh_sound : ∀ {l : Sh} {rs : List R} {x : l.den} {vs : List Value}, unSh l rs = some x → (∀ s ∈ l.tail, s.1 = false) → rdRs w γ rs vs →
    (∀ o ag ts l', l = (o, ag, ts) :: l' → o = true → ∀ r v, rs[0]? = some r → vs[0]? = some v → ownTop γ dst r v) →
    rdRs w γ (mkSh dst l x) vs ∧ tkRs γ dead (dst :: C) (mkSh dst l x) vs
  | [], [], x, vs, _, _, hr, _ => by
    cases vs with
    | nil => simp [mkSh, rdRs, tkRs]
    | cons _ _ => simp only [rdRs] at hr
  | [], _ :: _, x, vs, h, _, _, _ => by simp [unSh] at h
  | [(o, ag, ts)], [r], x, vs, h, _, hr, ho => by
    simp only [unSh] at h
    cases vs with
    | nil => simp only [rdRs] at hr
    | cons v vs =>
      cases vs with
      | cons _ _ => simp [rdRs] at hr
      | nil =>
        simp only [rdRs, and_true] at hr
        obtain ⟨h1, h2⟩ := unOne_sound (dead := dead) (C := C) (dst := dst) h hr (fun hh => ho o ag ts [] rfl hh r v rfl rfl)
        simp only [mkSh, rdRs, tkRs, and_true]
        exact ⟨h1, h2⟩
  | [_], [], x, vs, h, _, _, _ => by simp [unSh] at h
  | [_], _ :: _ :: _, x, vs, h, _, _, _ => by simp [unSh] at h
  | (o, ag, ts) :: s :: l, [], x, vs, h, _, _, _ => by simp [unSh] at h
  | (o, ag, ts) :: s :: l, r :: rs, x, vs, h, hf, hr, ho => by
    simp only [unSh] at h
    cases vs with
    | nil => simp only [rdRs] at hr
    | cons v vs =>
      simp only [rdRs] at hr
      obtain ⟨x1, hx1, h⟩ := Option.bind_eq_some_iff.1 h
      obtain ⟨x2, hx2, h⟩ := Option.bind_eq_some_iff.1 h
      cases h
      obtain ⟨h1, h2⟩ := unOne_sound (dead := dead) (C := C) (dst := dst) hx1 hr.1 (fun hh => ho o ag ts _ rfl hh r v rfl rfl)
      obtain ⟨h3, h4⟩ := unSh_sound (l := s :: l) hx2 (fun s' hs' => hf s' (by simp at hs' ⊢; exact .inr hs')) hr.2 (fun o' ag' ts' l' he ho' r' v' hr' hv' => by
        cases he
        have := hf (o', ag', ts') (by simp)
        simp only at this
        rw [this] at ho'
        cases ho')
      simp only [mkSh, rdRs, tkRs]
      exact ⟨⟨h1, h3⟩, h2, h4⟩

theorem mapO_false {E : Env} {ts : List Nat} {l : Sh} (h : mapO (fun t => match E.ti t with | some { agg := a, gl := some ts, .. } => some (false, a, ts) | _ => none) ts = some l) : ∀ s ∈ l, s.1 = false := by
  intro s hs
  obtain ⟨i, hi, he⟩ := List.mem_iff_getElem.1 hs
  obtain ⟨h1, h2⟩ := mapO_some h
  have hlt : i < ts.length := by omega
  obtain ⟨y, hy, hf⟩ := h2 i ts[i] (by simp [hlt])
  rw [List.getElem?_eq_getElem hi] at hy
  cases hy
  split at hf
  · have := Option.some.inj hf
    rw [← he, ← this]
  · cases hf

theorem typed_sound {α : Type} {own : Bool} {ty : Nat} {r : R} {k : R → Option α} {res : α} (h : typed E own dst ty r k = some res) :
    ∃ r', k r' = some res ∧ ∀ (w : World) (γ : Gh) (v : Value), rdR w γ r v → ownTop γ dst r v → rdR w γ r' v ∧ tkR γ dead (dst :: C) r' v := by
  unfold typed at h
  split at h
  · rename_i l hl
    obtain ⟨x, hx, hk⟩ := Option.bind_eq_some_iff.1 h
    refine ⟨_, hk, fun w γ v hr ho => ?_⟩
    cases r <;> simp only [unTup, reduceCtorEq] at hx
    case tup rs =>
      simp only [rdR] at hr
      obtain ⟨vs, rfl, hr⟩ := hr
      have hfalse : ∀ s ∈ l.tail, s.1 = false := by
        unfold shapeOf at hl
        split at hl
        · split at hl
          · rename_i o ag ts' l' hm
            cases hl
            intro s hs
            exact mapO_false hm s (by simp at hs ⊢; exact .inr hs)
          · cases hl; intro s hs; simp at hs
          · cases hl
        · cases hl
      obtain ⟨h1, h2⟩ := unSh_sound (dead := dead) (C := C) (dst := dst) (vs := vs.toList) hx hfalse hr (fun o ag ts l' _ _ q u hq hu => by
        cases rs with
        | nil => simp at hq
        | cons q' rs' =>
          simp at hq
          subst hq
          cases q' with
          | one d =>
            simp only [ownTop] at ho ⊢
            exact ho u (by simpa using hu)
          | tup _ =>
            cases l with
            | nil => simp [unSh] at hx
            | cons s l2 =>
              obtain ⟨o1, a1, t1⟩ := s
              cases l2 with
              | nil => cases rs' <;> simp only [unSh, reduceCtorEq] at hx; cases o1 <;> cases a1 <;> simp [unOne] at hx
              | cons _ _ => simp only [unSh] at hx; obtain ⟨y, hy, _⟩ := Option.bind_eq_some_iff.1 hx; cases o1 <;> cases a1 <;> simp [unOne] at hy
          | agg _ => simp only [ownTop]
          | undef => simp only [ownTop]
          | skip => simp only [ownTop])
      simp only [rdR, tkR]
      exact ⟨⟨vs, rfl, h1⟩, h2⟩
  · split at h
    · obtain ⟨x, hx, hk⟩ := Option.bind_eq_some_iff.1 h
      exact ⟨_, hk, fun w γ v hr ho => unOne_sound hx hr (fun _ => ho)⟩
    · refine ⟨_, h, fun w γ v hr ho => ?_⟩
      have retok_sound : ∀ (r : R) (v : Value), rdR w γ r v → ownTop γ dst r v → rdR w γ (retok dst r) v ∧ tkR γ dead (dst :: C) (retok dst r) v := by
        intro r v hr ho
        have gen : rdR w γ (r.map D.strip) v ∧ tkR γ dead (dst :: C) (r.map D.strip) v := ⟨(rdR_map nameOnly_strip r v).2 hr, tkR_strip r v⟩
        cases r with
        | one d =>
          cases d with
          | ow e xs k =>
            simp only [ownTop, ownD'] at ho
            simp only [rdR, rdD] at hr
            simp only [retok, rdR, rdD, tkR, tkD]
            exact ⟨hr, .inr ho, fun t ht => by cases ht; simp⟩
          | _ => exact gen
        | _ => exact gen
      cases r with
      | tup rs =>
        cases rs with
        | nil => exact ⟨(rdR_map nameOnly_strip _ v).2 hr, tkR_strip (.tup []) v⟩
        | cons q rs =>
          simp only [rdR] at hr
          obtain ⟨vs, rfl, hr⟩ := hr
          cases hvs : vs.toList with
          | nil => rw [hvs] at hr; simp only [rdRs] at hr
          | cons u us =>
            rw [hvs] at hr
            simp only [rdRs] at hr
            simp only [stripTail, rdR, tkR, hvs]
            have hq : rdR w γ (retok dst q) u ∧ tkR γ dead (dst :: C) (retok dst q) u := by
              cases q with
              | one d =>
                refine retok_sound (.one d) u hr.1 ?_
                simp only [ownTop] at ho ⊢
                exact ho u (by have : vs.toList[0]? = some u := by rw [hvs]; rfl
                               simpa using this)
              | tup qs => exact ⟨(rdR_map nameOnly_strip (.tup qs) u).2 hr.1, tkR_strip (.tup qs) u⟩
              | _ => exact retok_sound _ u hr.1 (by simp [ownTop])
            refine ⟨⟨vs, rfl, ?_⟩, ?_⟩
            · rw [hvs]
              simp only [rdRs]
              exact ⟨hq.1, (rdRs_map nameOnly_strip rs us).2 hr.2⟩
            · simp only [tkRs]
              exact ⟨hq.2, tkRs_strip rs us⟩
      | _ => simp only [stripTail]; exact retok_sound _ _ hr ho

/-- a call -/
theorem rdRs_append : ∀ {r1 r2 : List R} {v1 v2 : List Value}, rdRs w γ r1 v1 → rdRs w γ r2 v2 → rdRs w γ (r1 ++ r2) (v1 ++ v2)
  | [], r2, [], v2, _, h => h
  | r :: r1, r2, v :: v1, v2, h1, h2 => by
    simp only [rdRs] at h1
    simp only [List.cons_append, rdRs]
    exact ⟨h1.1, rdRs_append h1.2 h2⟩
  | [], _, _ :: _, _, h, _ => by simp only [rdRs] at h
  | _ :: _, _, [], _, h, _ => by simp only [rdRs] at h
theorem rdRs_of_args {lk : Nat → Option R} {ty : Nat} : ∀ {xs : List Operand} {rs : List R}, LkOK lk γ dead C a w → mapO (evalO E ty lk) xs = some rs → rdRs w γ rs (xs.map a.eval)
  | [], rs, _, h => by simp only [mapO, Option.some.injEq] at h; subst h; simp [rdRs]
  | x :: xs, rs, hl, h => by
    simp only [mapO] at h
    split at h
    · rename_i y hy
      split at h
      · rename_i ys hys
        cases h
        simp only [List.map_cons, rdRs]
        exact ⟨(evalO_sound hl hy).1, rdRs_of_args hl hys⟩
      · cases h
    · cases h
theorem rdRs_of_caps : ∀ {ds : List D} {vs : List Value}, rdL w γ ds vs → rdRs w γ (ds.map R.one) vs
  | [], [], _ => by simp [rdRs]
  | d :: ds, v :: vs, h => by
    simp only [rdL] at h
    simp only [List.map_cons, rdRs, rdR]
    exact ⟨h.1, rdRs_of_caps h.2⟩
  | [], _ :: _, h => by simp only [rdL] at h
  | _ :: _, [], h => by simp only [rdL] at h
theorem rdRs_strip : ∀ {rs : List R} {vs : List Value}, rdRs w γ rs vs → rdRs w γ (rs.map (R.map D.strip)) vs
  | [], [], _ => by simp [rdRs]
  | r :: rs, v :: vs, h => by
    simp only [rdRs] at h
    simp only [List.map_cons, rdRs]
    exact ⟨(rdR_map nameOnly_strip r v).2 h.1, rdRs_strip h.2⟩
  | [], _ :: _, h => by simp only [rdRs] at h
  | _ :: _, [], h => by simp only [rdRs] at h
/-- the machine enters the function that a value names -/
theorem run_call (hE : EnvOK E) {o : Oper} {c : Call} {x : Operand} {g : Nat} {caps : Array Value} {fn : Func} (hop : o.op = .call c) (hc : c.callee = .value x) (hx : a.eval x = .func (.func g) #[] caps) (hfn : E.P.funcs[g]? = some fn) (hb : fn.body.isSome = true) :
    (execOp a.eval o).run E.P w = .ok (.enter g (c.args.map a.eval ++ caps)) w := by
  have hname := hE.fns g fn hfn hb
  have hname' : ¬ fn.name = "runtime.NumGoroutine" := by simpa using hname
  have hb' : ¬ fn.body = none := fun h => by simp [h] at hb
  simp [execOp, hop, resolve, hc, hx, Deferred.ofValue, invoke, callFunc, hfn, hname', hb']
theorem q_call {o : Oper} {c : Call} {x : Operand} {g : Nat} {caps : List D} {args : List R} {cp : CallP} {lk : Nat → Option R} {ty : Nat} {r : R} {r' : R} (hE : EnvOK E) (hcp : PureOK E cp) (hop : o.op = .call c) (hc : c.callee = .value x)
    (hf : ∀ b, w.heap.size ≤ b → γ.rd b = none) (hbase : γ.base ≤ w.heap.size) (hbx : ∀ b ∈ γ.bx, b < w.heap.size) (hl : LkOK lk γ dead C a w) (hx : evalO E ty lk x = some (.one (.fn g caps))) (ha : mapO (evalO E ty lk) c.args.toList = some args)
    (hr : cp g ((args ++ caps.map R.one).map (R.map D.strip)) = some r) (hty : ∀ (w : World) (γ : Gh) (v : Value), rdR w γ r v → ownTop γ (dstOf o) r v → rdR w γ r' v ∧ tkR γ dead (dstOf o :: C) r' v) : Quiet E.P o a γ dead C w r' := by
  intro next Q h
  have h1 := evalO_one hl hx
  simp only [rdD] at h1
  obtain ⟨vs, hv, hcaps⟩ := h1
  obtain ⟨fn, hfn, hb⟩ := (hcp g _ r hr).1
  unfold Oper.wp
  rw [run_call hE hop hc hv hfn hb]
  simp only [Oper.upon]
  have hargs : rdRs w γ ((args ++ caps.map R.one).map (R.map D.strip)) (c.args.toList.map a.eval ++ vs.toList) := rdRs_strip (rdRs_append (rdRs_of_args hl ha) (rdRs_of_caps hcaps))
  have hcall := (hcp g _ r hr).2 γ w _ (dstOf o) hargs hf hbase hbx
  have e : (c.args.toList.map a.eval ++ vs.toList).toArray = c.args.map a.eval ++ vs := by apply Array.ext'; simp
  rw [e] at hcall
  refine hcall.mono fun e w' ⟨v, γ', he, hg, hr1, ho⟩ => ?_
  subst he
  obtain ⟨q1, q2⟩ := hty w' γ' v hr1 ho
  exact h v γ' w' hg q1 q2
end
end Go.V
