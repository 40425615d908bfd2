/- Contracts: what a call computes, told by a plain function; rules that join pieces of code. -/
import Derived.Test.YtelfooangijedaaUse
namespace Go.V
open Go.RowKit
set_option linter.unusedVariables false
variable {E : Env} {cp : CallP} {ce : CallE} {f : Nat}

/-! ### Short words for data -/
abbrev di (x : Int) : D := .g (.int .i64) x
abbrev dk (k : IntKind) (x : Int) : D := .g (.int k) x
abbrev db (x : Bool) : D := .g .bool x
abbrev dl (e : Ts) (xs : List e.den) : D := .g (.sl e) xs
abbrev ri (x : Int) : R := .one (di x)
abbrev rk (k : IntKind) (x : Int) : R := .one (dk k x)
abbrev rb (x : Bool) : R := .one (db x)
abbrev rl (e : Ts) (xs : List e.den) : R := .one (dl e xs)
abbrev rF (i : Nat) : R := .one (.ref i 0)
abbrev rO (e : Ts) (xs : List e.den) (v : Nat) : R := .one (.ow e xs (.v v))
abbrev rA (e : Ts) (x : e.den) : R := .agg (e.leaves x)
abbrev rC (e : Ts) (x : e.den) : R := .one (.cell (e.leaves x))
/-- an element; without the bounds the given one -/
def gt {α : Type} (xs : List α) (i : Int) (d : α) : α := xs.getD i.toNat d

/-! ### Shapes of what goes in and comes out -/
mutual
inductive Ps where
  | g (t : T) | ow (e : Ts) | fn (f : Nat) (caps : Pss) | cell (c : Pss) | ref (i off : Nat) | nilFn | nilPtr | undef | alt (a b : Ps)
inductive Pss where
  | nil | cons (p : Ps) (ps : Pss)
end
mutual
@[reducible] def Ps.den : Ps → Type
  | .g t => t.den
  | .ow e => List e.den
  | .fn _ caps => caps.den
  | .cell c => c.den
  | .ref _ _ => Unit
  | .nilFn => Unit
  | .nilPtr => Unit
  | .undef => Unit
  | .alt a b => a.den ⊕ b.den
@[reducible] def Pss.den : Pss → Type
  | .nil => Unit
  | .cons p ps => p.den × ps.den
end
mutual
def Ps.enc : (p : Ps) → p.den → D
  | .g t, x => .g t x
  | .ow e, x => .ow e x (.s 0)
  | .fn f caps, x => .fn f (caps.enc x)
  | .cell c, x => .cell (c.enc x)
  | .ref i off, _ => .ref i off
  | .nilFn, _ => .nilFn
  | .nilPtr, _ => .nilPtr
  | .undef, _ => .undef
  | .alt a b, x => match x with
    | .inl u => a.enc u
    | .inr v => b.enc v
def Pss.enc : (ps : Pss) → ps.den → List D
  | .nil, _ => []
  | .cons p ps, x => p.enc x.1 :: ps.enc x.2
end
mutual
/-- what is done with a datum, case by case -/
def Ps.app {α : Type} : (p : Ps) → p.den → (D → α) → α
  | .g t, x, k => k (.g t x)
  | .ow e, x, k => k (.ow e x (.s 0))
  | .fn f caps, x, k => caps.app x fun ds => k (.fn f ds)
  | .cell c, x, k => c.app x fun ds => k (.cell ds)
  | .ref i off, _, k => k (.ref i off)
  | .nilFn, _, k => k .nilFn
  | .nilPtr, _, k => k .nilPtr
  | .undef, _, k => k .undef
  | .alt a b, x, k => match x with
    | .inl u => a.app u k
    | .inr v => b.app v k
def Pss.app {α : Type} : (ps : Pss) → ps.den → (List D → α) → α
  | .nil, _, k => k []
  | .cons p ps, x, k => p.app x.1 fun d => ps.app x.2 fun ds => k (d :: ds)
end
mutual
theorem Ps.app_eq {α : Type} : (p : Ps) → (x : p.den) → (k : D → α) → p.app x k = k (p.enc x)
  | .g t, x, k => by simp only [Ps.app, Ps.enc]
  | .ow e, x, k => by simp only [Ps.app, Ps.enc]
  | .fn f caps, x, k => by simp only [Ps.app, Ps.enc]; exact Pss.app_eq caps x _
  | .cell c, x, k => by simp only [Ps.app, Ps.enc]; exact Pss.app_eq c x _
  | .ref i off, _, k => by simp only [Ps.app, Ps.enc]
  | .nilFn, _, k => by simp only [Ps.app, Ps.enc]
  | .nilPtr, _, k => by simp only [Ps.app, Ps.enc]
  | .undef, _, k => by simp only [Ps.app, Ps.enc]
  | .alt a b, x, k => by
    cases x with
    | inl u => simp only [Ps.app, Ps.enc]; exact Ps.app_eq a u k
    | inr v => simp only [Ps.app, Ps.enc]; exact Ps.app_eq b v k
theorem Pss.app_eq {α : Type} : (ps : Pss) → (x : ps.den) → (k : List D → α) → ps.app x k = k (ps.enc x)
  | .nil, _, k => by simp only [Pss.app, Pss.enc]
  | .cons p ps, x, k => by
    simp only [Pss.app, Pss.enc]
    rw [Ps.app_eq p x.1, Pss.app_eq ps x.2]
end
def unG (t : T) : D → Option t.den := unLeaf t
mutual
def Ps.dec : (p : Ps) → D → Option p.den
  | .g t, d => unLeaf t d
  | .ow e, d => none
  | .fn f caps, .fn f' ds => bif Nat.beq f f' then caps.dec ds else none
  | .cell c, .cell ds => c.dec ds
  | .ref i off, .ref i' off' => bif Nat.beq i i' && Nat.beq off off' then some () else none
  | .nilFn, .nilFn => some ()
  | .nilPtr, .nilPtr => some ()
  | .undef, .undef => some ()
  | .alt a b, d => match a.dec d with
    | some u => some (.inl u)
    | none => match b.dec d with
      | some v => some (.inr v)
      | none => none
  | _, _ => none
def Pss.dec : (ps : Pss) → List D → Option ps.den
  | .nil, [] => some ()
  | .cons p ps, d :: ds => match p.dec d with
    | some x => match ps.dec ds with
      | some y => some (x, y)
      | none => none
    | none => none
  | _, _ => none
end
theorem unLeaf_eq {t : T} {d : D} {x : t.den} (h : unLeaf t d = some x) : d = .g t x := by
  unfold unLeaf at h
  split at h
  · rename_i u y
    split at h
    · rename_i hb
      cases h
      have := T.eq_of_beq hb
      subst this
      rfl
    · cases h
  · cases h
mutual
theorem Ps.dec_eq : (p : Ps) → (d : D) → (x : p.den) → p.dec d = some x → d = p.enc x
  | .g t, d, x, h => by simp only [Ps.dec] at h; simp only [Ps.enc]; exact unLeaf_eq h
  | .ow e, d, x, h => by simp only [Ps.dec, reduceCtorEq] at h
  | .fn f caps, d, x, h => by
    cases d <;> simp only [Ps.dec, reduceCtorEq] at h
    rename_i f' ds
    cases hb : Nat.beq f f' with
    | false => rw [hb] at h; cases h
    | true =>
      rw [hb] at h
      obtain rfl := nbeq.1 hb
      simp only [Ps.enc]
      rw [Pss.dec_eq caps ds x h]
  | .cell c, d, x, h => by
    cases d <;> simp only [Ps.dec, reduceCtorEq] at h
    rename_i ds
    simp only [Ps.enc]
    rw [Pss.dec_eq c ds x h]
  | .ref i off, d, x, h => by
    cases d <;> simp only [Ps.dec, reduceCtorEq] at h
    rename_i i' off'
    cases hb : (Nat.beq i i' && Nat.beq off off') with
    | false => rw [hb] at h; cases h
    | true =>
      simp only [Bool.and_eq_true] at hb
      obtain rfl := nbeq.1 hb.1
      obtain rfl := nbeq.1 hb.2
      simp only [Ps.enc]
  | .nilFn, d, x, h => by cases d <;> simp only [Ps.dec, reduceCtorEq] at h; simp only [Ps.enc]
  | .nilPtr, d, x, h => by cases d <;> simp only [Ps.dec, reduceCtorEq] at h; simp only [Ps.enc]
  | .undef, d, x, h => by cases d <;> simp only [Ps.dec, reduceCtorEq] at h; simp only [Ps.enc]
  | .alt a b, d, x, h => by
    simp only [Ps.dec] at h
    split at h
    · rename_i u hu
      cases h
      simp only [Ps.enc]
      exact Ps.dec_eq a d u hu
    · split at h
      · rename_i v hv
        cases h
        simp only [Ps.enc]
        exact Ps.dec_eq b d v hv
      · cases h
theorem Pss.dec_eq : (ps : Pss) → (ds : List D) → (x : ps.den) → ps.dec ds = some x → ds = ps.enc x
  | .nil, [], x, h => by simp only [Pss.enc]
  | .nil, _ :: _, x, h => by simp only [Pss.dec, reduceCtorEq] at h
  | .cons p ps, [], x, h => by simp only [Pss.dec, reduceCtorEq] at h
  | .cons p ps, d :: ds, x, h => by
    simp only [Pss.dec] at h
    split at h
    · rename_i u hu
      split at h
      · rename_i v hv
        cases h
        simp only [Pss.enc]
        rw [← Ps.dec_eq p d u hu, ← Pss.dec_eq ps ds v hv]
      · cases h
    · cases h
end
/-- an argument, or what comes out: one datum, or a struct's leaves; plain structs by their type -/
inductive Pr where
  | one (p : Ps) | agg (ts : Ts) | aggs (ps : Pss)
abbrev pI : Pr := .one (.g (.int .i64))
abbrev pB : Pr := .one (.g .bool)
abbrev pL (e : Ts) : Pr := .one (.g (.sl e))
@[reducible] def Pr.den : Pr → Type
  | .one p => p.den
  | .agg ts => ts.den
  | .aggs ps => ps.den
def Pr.enc : (p : Pr) → p.den → R
  | .one p, x => .one (p.enc x)
  | .agg ts, x => .agg (ts.leaves x)
  | .aggs ps, x => .agg (ps.enc x)
def Pr.app {α : Type} : (p : Pr) → p.den → (R → α) → α
  | .one p, x, k => p.app x fun d => k (.one d)
  | .agg ts, x, k => k (.agg (ts.leaves x))
  | .aggs ps, x, k => ps.app x fun ds => k (.agg ds)
theorem Pr.app_eq {α : Type} (p : Pr) (x : p.den) (k : R → α) : p.app x k = k (p.enc x) := by
  cases p with
  | one p => simp only [Pr.app, Pr.enc]; exact Ps.app_eq p x _
  | agg ts => simp only [Pr.app, Pr.enc]
  | aggs ps => simp only [Pr.app, Pr.enc]; exact Pss.app_eq ps x _
def Pr.dec : (p : Pr) → R → Option p.den
  | .one p, .one d => p.dec d
  | .agg ts, .agg ds => unleaves ts ds
  | .aggs ps, .agg ds => ps.dec ds
  | _, _ => none
theorem unleaves_eq : {ts : Ts} → {ds : List D} → {x : ts.den} → unleaves ts ds = some x → ds = ts.leaves x
  | .one t, ds, x, h => by
    match ds with
    | [] => simp [unleaves] at h
    | [d] => simp only [unleaves] at h; simp only [Ts.leaves]; rw [unLeaf_eq h]
    | _ :: _ :: _ => simp [unleaves] at h
  | .cons t ts, ds, x, h => by
    match ds with
    | [] => simp [unleaves] at h
    | d :: ds =>
      simp only [unleaves] at h
      split at h
      · rename_i u v hu hv
        cases h
        simp only [Ts.leaves]
        rw [unLeaf_eq hu, unleaves_eq hv]
      · cases h
theorem Pr.dec_eq (p : Pr) (r : R) (x : p.den) (h : p.dec r = some x) : r = p.enc x := by
  cases p with
  | one p => cases r <;> simp only [Pr.dec, reduceCtorEq] at h; simp only [Pr.enc]; rw [Ps.dec_eq p _ x h]
  | agg ts => cases r <;> simp only [Pr.dec, reduceCtorEq] at h; simp only [Pr.enc]; rw [unleaves_eq h]
  | aggs ps => cases r <;> simp only [Pr.dec, reduceCtorEq] at h; simp only [Pr.enc]; rw [Pss.dec_eq ps _ x h]
@[reducible] def denL : List Pr → Type
  | [] => Unit
  | p :: ps => p.den × denL ps
def encL : (l : List Pr) → denL l → List R
  | [], _ => []
  | p :: ps, x => p.enc x.1 :: encL ps x.2
def appL {α : Type} : (l : List Pr) → denL l → (List R → α) → α
  | [], _, k => k []
  | p :: ps, x, k => p.app x.1 fun r => appL ps x.2 fun rs => k (r :: rs)
theorem appL_eq {α : Type} : (l : List Pr) → (x : denL l) → (k : List R → α) → appL l x k = k (encL l x)
  | [], _, k => by simp only [appL, encL]
  | p :: ps, x, k => by simp only [appL, encL]; rw [Pr.app_eq p x.1, appL_eq ps x.2]
def decL : (l : List Pr) → List R → Option (denL l)
  | [], [] => some ()
  | p :: ps, r :: rs => match p.dec r with
    | some x => match decL ps rs with
      | some y => some (x, y)
      | none => none
    | none => none
  | _, _ => none
theorem decL_eq : (l : List Pr) → (rs : List R) → (x : denL l) → decL l rs = some x → rs = encL l x
  | [], [], x, h => by simp only [encL]
  | [], _ :: _, x, h => by simp only [decL, reduceCtorEq] at h
  | p :: ps, [], x, h => by simp only [decL, reduceCtorEq] at h
  | p :: ps, r :: rs, x, h => by
    simp only [decL] at h
    split at h
    · rename_i u hu
      split at h
      · rename_i v hv
        cases h
        simp only [encL]
        rw [← Pr.dec_eq p r u hu, ← decL_eq ps rs v hv]
      · cases h
    · cases h
/-- what comes out: one, or several -/
inductive Po where
  | one (p : Pr) | tup (l : List Pr) | unit
@[reducible] def Po.den : Po → Type
  | .one p => p.den
  | .tup l => denL l
  | .unit => Unit
def Po.enc : (p : Po) → p.den → R
  | .one p, x => p.enc x
  | .tup l, x => .tup (encL l x)
  | .unit, _ => .tup []
def Po.app {α : Type} : (p : Po) → p.den → (R → α) → α
  | .one p, x, k => p.app x k
  | .tup l, x, k => appL l x fun rs => k (.tup rs)
  | .unit, _, k => k (.tup [])
theorem Po.app_eq {α : Type} (p : Po) (x : p.den) (k : R → α) : p.app x k = k (p.enc x) := by
  cases p with
  | one p => simp only [Po.app, Po.enc]; exact Pr.app_eq p x k
  | tup l => simp only [Po.app, Po.enc]; exact appL_eq l x _
  | unit => simp only [Po.app, Po.enc]

/-! ### Contracts of calls that only compute -/
def withC {Y : Type} (cp : CallP) (f : Nat) (l : List Pr) (o : Po) (cv : Y → o.den) (sh : denL l → Option Y) : CallP where
  f g args := bif Nat.beq f g then (match decL l args with
    | some x => (sh x).bind fun y => some (o.enc (cv y))
    | none => cp.f g args) else cp.f g args
  k α g args q := bif Nat.beq f g then (match decL l args with
    | some x => (sh x).bind fun y => o.app (cv y) q
    | none => cp.k α g args q) else cp.k α g args q
  hk α g args q := by
    cases Nat.beq f g with
    | false => exact cp.hk α g args q
    | true =>
      simp only [cond_true]
      split
      · rename_i x _
        cases sh x with
        | none => rfl
        | some y => simp only [Option.bind_some, Po.app_eq]
      · exact cp.hk α g args q
theorem withC_ok {Y : Type} {l : List Pr} {o : Po} {cv : Y → o.den} {sh : denL l → Option Y} {cp' : CallP} (hcp : PureOK E cp) (hcp' : PureOK E cp') (h : ∀ x y, sh x = some y → cp' f (encL l x) = some (o.enc (cv y))) : PureOK E (withC cp f l o cv sh) := by
  intro g args r hr
  change (bif Nat.beq f g then (match decL l args with
    | some x => (sh x).bind fun y => some (o.enc (cv y))
    | none => cp.f g args) else cp.f g args) = some r at hr
  cases hb : Nat.beq f g with
  | true =>
    obtain rfl := nbeq.1 hb
    rw [hb] at hr
    simp only [cond_true] at hr
    split at hr
    · rename_i x hx
      rw [decL_eq l args x hx]
      obtain ⟨y, hy, hy2⟩ := Option.bind_eq_some_iff.1 hr
      exact hcp' f _ r ((h x y hy).trans hy2)
    · exact hcp f args r hr
  | false => rw [hb] at hr; exact hcp g args r hr
/-- from the equation of a function to what its contract asks -/
theorem con_of {Y : Type} {p : Option Y} {q : Option R} {enc : Y → R} (h : q = p.bind fun y => some (enc y)) : ∀ y, p = some y → q = some (enc y) := fun y hy => by rw [h, hy]; rfl

/-! ### What is handed back, with names or without -/
def noNames (r : R) : R := r.map D.strip
theorem ownD_strip (γ : Gh) (dst : Nat) (d : D) (v : Value) : ownD' γ dst d.strip v := by cases d <;> simp [D.strip, ownD']
theorem ownTop_strip (γ : Gh) (dst : Nat) (r : R) (v : Value) : ownTop γ dst r v → ownTop γ dst (noNames r) v := by
  intro _
  cases r with
  | one d => simp only [noNames, R.map, ownTop]; exact ownD_strip γ dst d v
  | tup rs =>
    cases rs with
    | nil => cases v <;> simp [noNames, R.map, R.mapL, ownTop]
    | cons r rs =>
      cases r <;> cases v <;> simp only [noNames, R.map, R.mapL, ownTop]
      exact fun u _ => ownD_strip γ dst _ u
  | _ => simp [noNames, R.map, ownTop]
noncomputable def stepS (E : Env) (cp : CallP) (ce : CallE) : CallP := pureOfG noNames (callBody E cp ce)
noncomputable def stepO (E : Env) (cp : CallP) (ce : CallE) : CallP := pureOfG (fun r => r) (callBody E cp ce)
theorem stepS_ok (hE : EnvOK E) (hcp : PureOK E cp) (hce : EffOK E ce) : PureOK E (stepS E cp ce) := pureG_sound (fun w γ r v h => (rdR_map nameOnly_strip r v).2 h) ownTop_strip (callBody_sound hE hcp hce)
theorem stepO_ok (hE : EnvOK E) (hcp : PureOK E cp) (hce : EffOK E ce) : PureOK E (stepO E cp ce) := pureG_sound (fun _ _ _ _ h => h) (fun _ _ _ _ h => h) (callBody_sound hE hcp hce)

theorem conS {Y : Type} {l : List Pr} {o : Po} {cv : Y → o.den} {sh : denL l → Option Y} (hE : EnvOK E) (hcp : PureOK E cp) (hce : EffOK E ce) (h : ∀ x, stepS E cp ce f (encL l x) = (sh x).bind fun y => some (Po.enc o (cv y))) : PureOK E (withC cp f l o cv sh) :=
  withC_ok hcp (stepS_ok hE hcp hce) fun x => con_of (enc := fun y => Po.enc o (cv y)) (h x)
theorem conO {Y : Type} {l : List Pr} {o : Po} {cv : Y → o.den} {sh : denL l → Option Y} (hE : EnvOK E) (hcp : PureOK E cp) (hce : EffOK E ce) (h : ∀ x, stepO E cp ce f (encL l x) = (sh x).bind fun y => some (Po.enc o (cv y))) : PureOK E (withC cp f l o cv sh) :=
  withC_ok hcp (stepO_ok hE hcp hce) fun x => con_of (enc := fun y => Po.enc o (cv y)) (h x)

/-! ### Contracts of calls that are handed boxes -/
def withE {X Y : Type} (ce : CallE) (f : Nat) (dec : List R → Heap → Option X) (o : Po) (cv : Y → o.den) (hp : X → Y → Heap) (sh : X → Option Y) : CallE := fun α g args h k =>
  bif Nat.beq f g then (match dec args h with
    | some x => (sh x).bind fun y => o.app (cv y) fun r => k r (hp x y)
    | none => ce α g args h k) else ce α g args h k
theorem withE_ok {X Y : Type} {dec : List R → Heap → Option X} {o : Po} {cv : Y → o.den} {hp : X → Y → Heap} {sh : X → Option Y} {ce' : CallE} (hce : EffOK E ce) (hce' : EffOK E ce')
    (h : ∀ α args hh x (k : R → Heap → Option α), dec args hh = some x → ce' α f args hh k = (sh x).bind fun y => k (o.enc (cv y)) (hp x y)) : EffOK E (withE ce f dec o cv hp sh) := by
  intro α g args hh k res hr
  unfold withE at hr
  cases hb : Nat.beq f g with
  | true =>
    obtain rfl := nbeq.1 hb
    rw [hb] at hr
    simp only [cond_true] at hr
    split at hr
    · rename_i x hx
      simp only [Po.app_eq] at hr
      exact hce' α f args hh k res (by rw [h α args hh x k hx]; exact hr)
    · exact hce α f args hh k res hr
  | false => rw [hb] at hr; exact hce α g args hh k res hr

/-! ### Pieces of code, joined -/
def either {σ ζ β : Type} (A : σ → β) (B : ζ → β) : σ ⊕ ζ → β
  | .inl x => A x
  | .inr y => B y
theorem bif_g {α : Type} {c : Bool} {A A' B B' : α} (h1 : A = A') (h2 : B = B') : (bif c then A else B) = (bif c then A' else B') := by rw [h1, h2]
theorem bind_g {α β : Type} {p : Option α} {F G : α → Option β} (h : ∀ y, F y = G y) : p.bind F = p.bind G := by rw [funext h]
theorem either_g {σ ζ β : Type} {A A' : σ → β} {B B' : ζ → β} (h1 : ∀ x, A x = A' x) (h2 : ∀ x, B x = B' x) (m : σ ⊕ ζ) : either A B m = either A' B' m := by cases m <;> simp [either, h1, h2]
theorem bif_b {τ α : Type} {c : Bool} {K : τ → Option α} {A B : Option α} {a b : Option τ} (ha : A = a.bind K) (hb : B = b.bind K) : (bif c then A else B) = (bif c then a else b).bind K := by cases c <;> assumption
theorem bind_b {σ τ α : Type} {p : Option σ} {K : τ → Option α} {F : σ → Option α} {G : σ → Option τ} (h : ∀ y, F y = (G y).bind K) : p.bind F = (p.bind G).bind K := by
  cases p with
  | none => rfl
  | some y => exact h y
theorem either_b {σ ζ τ α : Type} {K : τ → Option α} {A : σ → Option α} {B : ζ → Option α} {a : σ → Option τ} {b : ζ → Option τ} (h1 : ∀ x, A x = (a x).bind K) (h2 : ∀ x, B x = (b x).bind K) (m : σ ⊕ ζ) : either A B m = (either a b m).bind K := by
  cases m with
  | inl x => exact h1 x
  | inr x => exact h2 x
theorem either_k {σ ζ τ α : Type} {K : τ → α} {A : σ → α} {B : ζ → α} {a : σ → τ} {b : ζ → τ} (h1 : ∀ x, A x = K (a x)) (h2 : ∀ x, B x = K (b x)) (m : σ ⊕ ζ) : either A B m = K (either a b m) := by
  cases m with
  | inl x => exact h1 x
  | inr x => exact h2 x
theorem none_b {τ α : Type} {K : τ → Option α} : (none : Option α) = (none : Option τ).bind K := rfl
theorem some_b {τ α : Type} {K : τ → Option α} {t : τ} : K t = (some t).bind K := rfl
section
variable {β σ ζ ξ : Type} {K0 : σ → Option β} {K1 : ζ → Option β} {K2 : ξ → Option β}
theorem e2_0 {t : σ} : K0 t = (some (Sum.inl t)).bind (either K0 K1) := rfl
theorem e2_1 {t : ζ} : K1 t = (some (Sum.inr t)).bind (either K0 K1) := rfl
theorem e3_0 {t : σ} : K0 t = (some (Sum.inl t)).bind (either K0 (either K1 K2)) := rfl
theorem e3_1 {t : ζ} : K1 t = (some (Sum.inr (Sum.inl t))).bind (either K0 (either K1 K2)) := rfl
theorem e3_2 {t : ξ} : K2 t = (some (Sum.inr (Sum.inr t))).bind (either K0 (either K1 K2)) := rfl
end
noncomputable def seqC {α : Type} (E : Env) (f : Nat) (cp : CallP) (ce : CallE) (c : Code) (k : Kont α) : Kont α := fun e st => match e with
  | .normal => runCode E f cp ce c (st.into E f c) k
  | .exit j => k (.exit j) st
  | .ret => k .ret st
/-- regions in a row, ahead of what follows -/
noncomputable def preK {α : Type} (E : Env) (f : Nat) (cp : CallP) (ce : CallE) : Nat → Code → St → (St → Option α) → Option α
  | 0, _, st, K => K st
  | n + 1, c, st, K => match c with
    | .seq (.region id ops draw) b => regionK E f cp ce id ops.toList draw st fun st => preK E f cp ce n b (st.into E f b) K
    | _ => none
def preB : Nat → Code → Bool
  | 0, _ => true
  | n + 1, .seq (.region _ _ _) b => preB n b
  | _ + 1, _ => false
def dropR : Nat → Code → Code
  | 0, c => c
  | n + 1, c => dropR n c.r
theorem pre_eq {α : Type} {k : Kont α} : ∀ (n : Nat) (c : Code) (st : St), preB n c = true → preK E f cp ce n c st (fun st => runCode E f cp ce (dropR n c) st k) = runCode E f cp ce c st k
  | 0, c, st, _ => rfl
  | n + 1, c, st, h => by
    cases c with
    | seq a b =>
      cases a with
      | region id ops draw =>
        simp only [preB] at h
        have ih := fun st => pre_eq (k := k) n b st h
        show regionK E f cp ce id ops.toList draw st (fun st => preK E f cp ce n b (st.into E f b) fun st => runCode E f cp ce (dropR n b) st k) = regionK E f cp ce id ops.toList draw st fun st => runCode E f cp ce b (st.into E f b) k
        exact congrArg _ (funext fun st => ih _)
      | _ => simp [preB] at h
    | _ => simp [preB] at h
theorem pre {α : Type} {k : Kont α} {n : Nat} {c c' : Code} {st : St} {T : Option α} (hb : preB n c = true) (hc : dropR n c = c') (h : preK E f cp ce n c st (fun st => runCode E f cp ce c' st k) = T) : runCode E f cp ce c st k = T := by
  subst hc
  exact (pre_eq n c st hb).symm.trans h
theorem pre1 {α : Type} {k : Kont α} {c : Code} {st : St} {T : Option α} (h : preK E f cp ce 1 c st (fun st => runCode E f cp ce c.r st k) = T) (hb : preB 1 c = true := by kernel_rfl) : runCode E f cp ce c st k = T := pre hb rfl h
theorem pre2 {α : Type} {k : Kont α} {c : Code} {st : St} {T : Option α} (h : preK E f cp ce 2 c st (fun st => runCode E f cp ce c.r.r st k) = T) (hb : preB 2 c = true := by kernel_rfl) : runCode E f cp ce c st k = T := pre hb rfl h
theorem pre3 {α : Type} {k : Kont α} {c : Code} {st : St} {T : Option α} (h : preK E f cp ce 3 c st (fun st => runCode E f cp ce c.r.r.r st k) = T) (hb : preB 3 c = true := by kernel_rfl) : runCode E f cp ce c st k = T := pre hb rfl h
def _root_.Go.Code.b : Code → Code
  | .loop c => c
  | .block _ c => c
  | c => c
section
variable {α : Type} {k : Kont α} {c : Code} {st st' : St}
theorem seq_push (hc : c = .seq c.l c.r := by kernel_rfl) : runCode E f cp ce c st k = runCode E f cp ce c.l st (seqC E f cp ce c.r k) :=
  congrArg (fun z => runCode E f cp ce z st k) hc
theorem seqC_normal (hs : st.into E f c = st' := by kernel_rfl) : seqC E f cp ce c k .normal st = runCode E f cp ce c st' k := by rw [← hs]; rfl
def intoB (E : Env) (f : Nat) (c : Code) : Bool := match headId c with
  | some id => match look E.into f with
    | some l => (look l id).isNone
    | none => true
  | none => true
theorem seqC_same (h : intoB E f c = true := by kernel_rfl) : seqC E f cp ce c k .normal st = runCode E f cp ce c st k := by
  have : st.into E f c = st := by
    unfold St.into
    unfold intoB at h
    split
    · rename_i id hid
      rw [hid] at h
      split
      · rename_i l hl
        simp only [hl] at h
        split
        · rename_i s hs
          rw [hs] at h
          cases h
        · rfl
      · rfl
    · rfl
  exact seqC_normal this
theorem seqC_exit {j : Nat} : seqC E f cp ce c k (.exit j) st = k (.exit j) st := rfl
theorem seqC_ret : seqC E f cp ce c k .ret st = k .ret st := rfl
theorem block_push {id : Nat} (hc : c = .block id (c.b) := by kernel_rfl) : runCode E f cp ce c st k = runCode E f cp ce (c.b) st (blockK id k) :=
  congrArg (fun z => runCode E f cp ce z st k) hc
theorem block_normal {id : Nat} : blockK id k .normal st = k .normal st := rfl
theorem block_ret {id : Nat} : blockK id k .ret st = k .ret st := rfl
theorem block_same {id : Nat} : blockK id k (.exit id) st = k .normal st := by simp only [blockK, nbeq.2 rfl, cond_true]
theorem block_other {id j : Nat} (h : j.beq id = false := by kernel_rfl) : blockK id k (.exit j) st = k (.exit j) st := by simp only [blockK, h, cond_false]
theorem skip_eq (hc : c = .skip := by kernel_rfl) : runCode E f cp ce c st k = k .normal st := congrArg (fun z => runCode E f cp ce z st k) hc
theorem exit_eq {j : Nat} (hc : c = .exit j := by kernel_rfl) : runCode E f cp ce c st k = k (.exit j) st := congrArg (fun z => runCode E f cp ce z st k) hc
theorem ret_eq (hc : c = .ret := by kernel_rfl) : runCode E f cp ce c st k = k .ret st := congrArg (fun z => runCode E f cp ce z st k) hc
def pastB (E : Env) (f : Nat) (c : Operand) : Bool := match c, look E.conds f with
  | .tmp t, some l => !(mem t l)
  | _, _ => true
theorem past_same {o : Operand} (h : pastB E f o = true) : st.past E f o = st := by
  unfold pastB at h
  unfold St.past
  split
  · rename_i t l hl
    rw [hl] at h
    simp only [Bool.not_eq_true'] at h
    rw [h]
    rfl
  · rfl
theorem cond_s {b : Bool} (hc : c = .cond (condOf c) c.t c.e := by kernel_rfl) (hx : evalO E 0 (look st.regs) (condOf c) = some (.one (.g .bool b)) := by kernel_rfl) (hs : pastB E f (condOf c) = true := by kernel_rfl) :
    runCode E f cp ce c st k = bif b then runCode E f cp ce c.t st k else runCode E f cp ce c.e st k := cond_eq hc hx (past_same hs)
theorem cond_ts (hc : c = .cond (condOf c) c.t c.e := by kernel_rfl) (hx : evalO E 0 (look st.regs) (condOf c) = some (.one (.g .bool true)) := by kernel_rfl) (hs : pastB E f (condOf c) = true := by kernel_rfl) : runCode E f cp ce c st k = runCode E f cp ce c.t st k := (cond_eq hc hx (past_same hs)).trans rfl
theorem cond_fs (hc : c = .cond (condOf c) c.t c.e := by kernel_rfl) (hx : evalO E 0 (look st.regs) (condOf c) = some (.one (.g .bool false)) := by kernel_rfl) (hs : pastB E f (condOf c) = true := by kernel_rfl) : runCode E f cp ce c st k = runCode E f cp ce c.e st k := (cond_eq hc hx (past_same hs)).trans rfl
theorem cond_t (hc : c = .cond (condOf c) c.t c.e := by kernel_rfl) (hx : evalO E 0 (look st.regs) (condOf c) = some (.one (.g .bool true)) := by kernel_rfl) (hs : st.past E f (condOf c) = st' := by kernel_rfl) : runCode E f cp ce c st k = runCode E f cp ce c.t st' k := (cond_eq hc hx hs).trans rfl
theorem cond_f (hc : c = .cond (condOf c) c.t c.e := by kernel_rfl) (hx : evalO E 0 (look st.regs) (condOf c) = some (.one (.g .bool false)) := by kernel_rfl) (hs : st.past E f (condOf c) = st' := by kernel_rfl) : runCode E f cp ce c st k = runCode E f cp ce c.e st' k := (cond_eq hc hx hs).trans rfl
theorem cond_e {b : Bool} (hc : c = .cond (condOf c) c.t c.e := by kernel_rfl) (hx : evalO E 0 (look st.regs) (condOf c) = some (.one (.g .bool b)) := by kernel_rfl) (hs : st.past E f (condOf c) = st' := by kernel_rfl) :
    runCode E f cp ce c st k = bif b then runCode E f cp ce c.t st' k else runCode E f cp ce c.e st' k := cond_eq hc hx hs
end

/-! ### Loops -/
def iterN {σ ζ : Type} (p : σ → Option (σ ⊕ ζ)) : Nat → σ → Option ζ
  | 0, _ => none
  | n + 1, s => (p s).bind (either (fun s' => iterN p n s') some)
/-- what is done where a round ends -/
def loopKont {α : Type} (n0 : Nat) (k : Kont α) : Kont α := fun e st => match e with
  | .normal => match st.trunc n0 with
    | some st => k .normal st
    | none => none
  | .exit j => match st.trunc n0 with
    | some st => k (.exit j) st
    | none => none
  | .ret => k .ret st
def VExit.isN : VExit → Bool
  | .normal => true
  | _ => false
section
variable {α σ ζ ζ1 ζ2 ζ3 : Type} {run : St → Kont α → Option α} {S : σ → St} {n0 : Nat} {k : Kont α}
theorem loop_iter {p : σ → Option (σ ⊕ ζ)} {Y : ζ → VExit × St}
    (hb : ∀ s (k : Kont α), run (S s) (loopKont n0 k) = (p s).bind (either (fun s' => k .normal (S s')) (fun z => k (Y z).1 (Y z).2))) (he : ∀ z, (Y z).1.isN = false) :
    ∀ m s, loopK run n0 m (S s) k = (iterN p m s).bind fun z => k (Y z).1 (Y z).2
  | 0, s => rfl
  | m + 1, s => by
    have e : loopK run n0 (m + 1) (S s) k = run (S s) (loopKont n0 fun e st => match e with
        | .normal => loopK run n0 m st k
        | .exit j => k (.exit j) st
        | .ret => k .ret st) := by
      simp only [loopK]
      refine congrArg (run (S s)) (funext fun e => funext fun st => ?_)
      cases e <;> rfl
    rw [e, hb]
    simp only [iterN]
    cases hp : p s with
    | none => rfl
    | some r =>
      cases r with
      | inl s' => exact loop_iter hb he m s'
      | inr z =>
        simp only [Option.bind_some, either]
        have h1 := he z
        generalize (Y z).1 = e at h1
        cases e with
        | normal => cases h1
        | exit j => rfl
        | ret => rfl
theorem loop_iter1 {p : σ → Option (σ ⊕ ζ1)} {Y1 : ζ1 → VExit × St}
    (hb : ∀ s (k : Kont α), run (S s) (loopKont n0 k) = (p s).bind (either (fun s' => k .normal (S s')) (fun z => k (Y1 z).1 (Y1 z).2))) (he1 : ∀ z, (Y1 z).1.isN = false) (m : Nat) (s : σ) :
    loopK run n0 m (S s) k = (iterN p m s).bind fun z => k (Y1 z).1 (Y1 z).2 := loop_iter hb he1 m s
theorem loop_iter2 {p : σ → Option (σ ⊕ (ζ1 ⊕ ζ2))} {Y1 : ζ1 → VExit × St} {Y2 : ζ2 → VExit × St}
    (hb : ∀ s (k : Kont α), run (S s) (loopKont n0 k) = (p s).bind (either (fun s' => k .normal (S s')) (either (fun z => k (Y1 z).1 (Y1 z).2) (fun z => k (Y2 z).1 (Y2 z).2))))
    (he1 : ∀ z, (Y1 z).1.isN = false) (he2 : ∀ z, (Y2 z).1.isN = false) (m : Nat) (s : σ) :
    loopK run n0 m (S s) k = (iterN p m s).bind (either (fun z => k (Y1 z).1 (Y1 z).2) (fun z => k (Y2 z).1 (Y2 z).2)) := by
  have e : ∀ (A : ζ1 → VExit × St) (B : ζ2 → VExit × St) (k : Kont α), (fun z => k (either A B z).1 (either A B z).2) = either (fun z => k (A z).1 (A z).2) (fun z => k (B z).1 (B z).2) := fun A B k => funext fun z => by cases z <;> rfl
  rw [← e Y1 Y2]
  exact loop_iter (Y := either Y1 Y2) (fun s k => by rw [hb, ← e Y1 Y2]) (fun z => by cases z with | inl z => exact he1 z | inr z => exact he2 z) m s
theorem loop_iter3 {p : σ → Option (σ ⊕ (ζ1 ⊕ (ζ2 ⊕ ζ3)))} {Y1 : ζ1 → VExit × St} {Y2 : ζ2 → VExit × St} {Y3 : ζ3 → VExit × St}
    (hb : ∀ s (k : Kont α), run (S s) (loopKont n0 k) = (p s).bind (either (fun s' => k .normal (S s')) (either (fun z => k (Y1 z).1 (Y1 z).2) (either (fun z => k (Y2 z).1 (Y2 z).2) (fun z => k (Y3 z).1 (Y3 z).2)))))
    (he1 : ∀ z, (Y1 z).1.isN = false) (he2 : ∀ z, (Y2 z).1.isN = false) (he3 : ∀ z, (Y3 z).1.isN = false) (m : Nat) (s : σ) :
    loopK run n0 m (S s) k = (iterN p m s).bind (either (fun z => k (Y1 z).1 (Y1 z).2) (either (fun z => k (Y2 z).1 (Y2 z).2) (fun z => k (Y3 z).1 (Y3 z).2))) := by
  have e : ∀ (A : ζ1 → VExit × St) (B : ζ2 → VExit × St) (C : ζ3 → VExit × St) (k : Kont α), (fun z => k (either A (either B C) z).1 (either A (either B C) z).2) = either (fun z => k (A z).1 (A z).2) (either (fun z => k (B z).1 (B z).2) (fun z => k (C z).1 (C z).2)) := fun A B C k => funext fun z => by
    cases z with
    | inl z => rfl
    | inr z => cases z <;> rfl
  rw [← e Y1 Y2 Y3]
  exact loop_iter (Y := either Y1 (either Y2 Y3)) (fun s k => by rw [hb, ← e Y1 Y2 Y3])
    (fun z => by
      rcases z with z | z | z
      · exact he1 z
      · exact he2 z
      · exact he3 z) m s
end
/-- how many rounds at most -/
def LL : Nat := 1000000
theorem loop_push {α : Type} {k : Kont α} {c : Code} {st : St} (hc : c = .loop (c.b)) : runCode E f cp ce c st k = loopK (fun st k => runCode E f cp ce (c.b) st k) st.heap.length E.L st k :=
  congrArg (fun z => runCode E f cp ce z st k) hc

/-! ### Whole functions -/
def kRet {α : Type} (E : Env) (f : Nat) (k : R → Heap → Option α) : Kont α := fun e st => match e with
  | .exit _ => none
  | _ => match resR E (resultsOf E.P f) st with
    | some r => k r st.heap
    | none => none
def kEndG (g : R → R) (E : Env) (f : Nat) : Kont R := kRet E f fun r h => some (g (fin h r))
def bodyE (P : Program) (f : Nat) (n nt : Nat) : Bool := match P.funcs[f]? with
  | some fn => fn.body.isSome && fn.ntmps.beq nt && n.ble nt
  | none => false
theorem body_is {α : Type} {nt : Nat} {args : List R} {h : Heap} {k : R → Heap → Option α} {regs : List (Nat × R)} (hb : bodyE E.P f args.length nt = true) (hr : initRegs 0 args = regs) :
    callBody E cp ce α f args h k = runCode E f cp ce (codeOf E.P f) ⟨regs, h, [], nt⟩ (kRet E f k) := by
  unfold bodyE at hb
  unfold callBody codeOf kRet resultsOf
  cases hf : E.P.funcs[f]? with
  | none => rw [hf] at hb; cases hb
  | some fn =>
    rw [hf] at hb
    simp only [Bool.and_eq_true, nbeq] at hb
    obtain ⟨⟨h1, h2⟩, h3⟩ := hb
    cases hc : fn.body with
    | none => rw [hc] at h1; cases h1
    | some c =>
      simp only [hc, ← h2, hr]
      rw [h2, h3]
      simp only [cond_true]
      rfl
theorem stepG_is {g : R → R} {nt : Nat} {args : List R} {regs : List (Nat × R)} (hb : (bodyE E.P f args.length nt && !(anyRef args || R.hasOwL args)) = true := by kernel_rfl) (hr : initRegs 0 args = regs := by kernel_rfl) :
    pureOfG g (callBody E cp ce) f args = runCode E f cp ce (codeOf E.P f) ⟨regs, [], [], nt⟩ (kEndG g E f) := by
  simp only [Bool.and_eq_true, Bool.not_eq_true'] at hb
  change (bif anyRef args || R.hasOwL args then none else callBody E cp ce R f args [] fun r h => some (g (fin h r))) = _
  rw [hb.2, cond_false]
  exact body_is hb.1 hr
end Go.V
