/- V1: Val, Rd, Sim, one behind the other. -/
import Derived.Control
import Derived.Below
namespace Go.V
noncomputable section
mutual
inductive T where
  | int (k : IntKind) | bool | sl (e : Ts)
inductive Ts where
  | one (t : T) | cons (t : T) (ts : Ts)
end
mutual
@[reducible] def T.den : T → Type
  | .int _ => Int
  | .bool => Bool
  | .sl e => List e.den
@[reducible] def Ts.den : Ts → Type
  | .one t => t.den
  | .cons t ts => t.den × ts.den
end
mutual
def T.dflt : (t : T) → t.den
  | .int _ => (0 : Int)
  | .bool => false
  | .sl _ => []
def Ts.dflt : (t : Ts) → t.den
  | .one t => t.dflt
  | .cons t ts => (t.dflt, ts.dflt)
end
def Ts.size : Ts → Nat
  | .one _ => 1
  | .cons _ ts => ts.size + 1
mutual
def T.beq : T → T → Bool
  | .int k, .int k' => k == k'
  | .bool, .bool => true
  | .sl e, .sl e' => Ts.beq e e'
  | _, _ => false
def Ts.beq : Ts → Ts → Bool
  | .one t, .one u => T.beq t u
  | .cons t ts, .cons u us => T.beq t u && Ts.beq ts us
  | _, _ => false
end
mutual
theorem T.eq_of_beq : {a b : T} → T.beq a b = true → a = b
  | .int k, .int k', h => by simp [T.beq] at h; rw [h]
  | .bool, .bool, _ => rfl
  | .sl _, .sl _, h => congrArg T.sl (Ts.eq_of_beq (by simpa [T.beq] using h))
  | .int _, .bool, h => by simp [T.beq] at h
  | .int _, .sl _, h => by simp [T.beq] at h
  | .bool, .int _, h => by simp [T.beq] at h
  | .bool, .sl _, h => by simp [T.beq] at h
  | .sl _, .int _, h => by simp [T.beq] at h
  | .sl _, .bool, h => by simp [T.beq] at h
theorem Ts.eq_of_beq : {a b : Ts} → Ts.beq a b = true → a = b
  | .one _, .one _, h => congrArg Ts.one (T.eq_of_beq (by simpa [Ts.beq] using h))
  | .cons t ts, .cons u us, h => by
    simp [Ts.beq] at h
    rw [T.eq_of_beq h.1, Ts.eq_of_beq h.2]
  | .one _, .cons _ _, h => by simp [Ts.beq] at h
  | .cons _ _, .one _, h => by simp [Ts.beq] at h
end
def T.cast {a b : T} (h : T.beq a b = true) (x : a.den) : b.den := T.eq_of_beq h ▸ x
def Ts.cast {a b : Ts} (h : Ts.beq a b = true) (x : a.den) : b.den := Ts.eq_of_beq h ▸ x
mutual
inductive Ps where
  | g (t : T) | ow (e : Ts) | fn (f : Nat) (caps : Pss) | cell (c : Pss) | ref (i off : Nat) | nilFn | nilPtr | undef | alt (a b : Ps) | owh (e : Ts) (i off : Nat) | vec (t : T) | vref (i : Nat) | chn (i : Nat) | sem
inductive Pss where
  | nil | cons (p : Ps) (ps : Pss)
end
mutual
@[reducible] def Ps.den : Ps → Type
  | .g t => t.den
  | .ow e => List e.den
  | .fn _ caps => caps.den
  | .cell c => c.den
  | .ref _ _ => Unit
  | .nilFn => Unit
  | .nilPtr => Unit
  | .undef => Unit
  | .alt a b => a.den ⊕ b.den
  | .owh e _ _ => List e.den
  | .vec t => List t.den
  | .vref _ => Nat
  | .chn _ => Unit
  | .sem => List Int
@[reducible] def Pss.den : Pss → Type
  | .nil => Unit
  | .cons p ps => p.den × ps.den
end
mutual
def Ps.dflt : (p : Ps) → p.den
  | .g t => t.dflt
  | .ow _ => []
  | .fn _ caps => caps.dflt
  | .cell c => c.dflt
  | .ref _ _ => ()
  | .nilFn => ()
  | .nilPtr => ()
  | .undef => ()
  | .alt a _ => .inl a.dflt
  | .owh _ _ _ => []
  | .vec _ => []
  | .vref _ => (0 : Nat)
  | .chn _ => ()
  | .sem => []
def Pss.dflt : (ps : Pss) → ps.den
  | .nil => ()
  | .cons p ps => (p.dflt, ps.dflt)
end
mutual
def Ps.beq : Ps → Ps → Bool
  | .g t, .g u => T.beq t u
  | .ow e, .ow e' => Ts.beq e e'
  | .fn f c, .fn f' c' => f.beq f' && c.beq c'
  | .cell c, .cell c' => c.beq c'
  | .nilFn, .nilFn => true
  | .alt a b, .alt a' b' => a.beq a' && b.beq b'
  | _, _ => false
def Pss.beq : Pss → Pss → Bool
  | .nil, .nil => true
  | .cons p ps, .cons q qs => p.beq q && ps.beq qs
  | _, _ => false
end
mutual
theorem Ps.eq_of_beq : {a b : Ps} → Ps.beq a b = true → a = b
  | .g t, .g u, h => by simp only [Ps.beq] at h; rw [T.eq_of_beq h]
  | .ow e, .ow e', h => by simp only [Ps.beq] at h; rw [Ts.eq_of_beq h]
  | .fn f c, .fn f' c', h => by simp only [Ps.beq, Bool.and_eq_true] at h; rw [Nat.eq_of_beq_eq_true h.1, Pss.eq_of_beq h.2]
  | .cell c, .cell c', h => by simp only [Ps.beq] at h; rw [Pss.eq_of_beq h]
  | .nilFn, .nilFn, _ => rfl
  | .alt a b, .alt a' b', h => by simp only [Ps.beq, Bool.and_eq_true] at h; rw [Ps.eq_of_beq h.1, Ps.eq_of_beq h.2]
theorem Pss.eq_of_beq : {a b : Pss} → Pss.beq a b = true → a = b
  | .nil, .nil, _ => rfl
  | .cons p ps, .cons q qs, h => by simp only [Pss.beq, Bool.and_eq_true] at h; rw [Ps.eq_of_beq h.1, Pss.eq_of_beq h.2]
end
inductive It where
  | one (p : Ps) | agg (e : Ts) | aggs (ps : Pss)
@[reducible] def It.den : It → Type
  | .one p => p.den
  | .agg e => e.den
  | .aggs ps => ps.den
def It.dflt : (i : It) → i.den
  | .one p => p.dflt
  | .agg e => e.dflt
  | .aggs ps => ps.dflt
abbrev Us := List It
@[reducible] def Us.den : Us → Type
  | [] => Unit
  | [i] => i.den
  | i :: j :: l => i.den × Us.den (j :: l)
def Us.dflt : (l : Us) → Us.den l
  | [] => ()
  | [i] => i.dflt
  | i :: j :: l => (i.dflt, Us.dflt (j :: l))
def either {σ ζ β : Type} (A : σ → β) (B : ζ → β) : σ ⊕ ζ → β
  | .inl x => A x
  | .inr y => B y
def both {α : Type} (x y : Option α) : Option α := @ite _ (x = y) (Classical.propDecidable _) x none
structure Br where
  ρ : Type
  fail : ρ
  gd : Bool → ρ → ρ
  br : Bool → ρ → ρ → ρ
  bnd : (u : Us) → Option (Us.den u) → (Us.den u → ρ) → ρ
  sum : (p q : Ps) → p.den ⊕ q.den → (p.den → ρ) → (q.den → ρ) → ρ
  both : ρ → ρ → ρ
@[reducible] def oB (α : Type) : Br := ⟨Option α, none, fun c a => bif c then a else none, fun c a b => bif c then a else b, fun _ x k => x.bind k, fun _ _ x f g => either f g x, both⟩
structure Br.Hom (B B' : Br) where
  φ : B.ρ → B'.ρ
  fail : φ B.fail = B'.fail
  gd : ∀ c a, φ (B.gd c a) = B'.gd c (φ a)
  br : ∀ c a b, φ (B.br c a b) = B'.br c (φ a) (φ b)
  bnd : ∀ u x k, φ (B.bnd u x k) = B'.bnd u x fun y => φ (k y)
  sum : ∀ p q x f g, φ (B.sum p q x f g) = B'.sum p q x (fun u => φ (f u)) fun v => φ (g v)
def Br.ob (B : Br) {τ : Type} (x : Option τ) (k : τ → B.ρ) : B.ρ := match x with
  | some y => k y
  | none => B.fail
inductive Tok where
  | s (slot : Nat) | v (slot : Nat) | h (i off : Nat)
  deriving DecidableEq
def Tok.beq : Tok → Tok → Bool
  | .s a, .s b => a.beq b
  | .v a, .v b => a.beq b
  | .h a c, .h b d => a.beq b && c.beq d
  | _, _ => false
def tokIn (k : Tok) : List Tok → Bool
  | [] => false
  | x :: l => k.beq x || tokIn k l
inductive D where
  | g (t : T) (x : t.den)
  | ow (e : Ts) (xs : List e.den) (k : Tok)
  | fn (f : Nat) (caps : List D)
  | nilFn
  | nilPtr
  | cell (c : List D)
  | ref (i off : Nat)
  | undef
  | nilS (e : Ts)
  | vec (t : T) (xs : List t.den)
  | vref (i n : Nat)
  | vat (i j : Nat)
  | chn (i : Nat)
  | sem (cs : List Int)
  | alt (p q : Ps) (x : p.den ⊕ q.den)
inductive R where
  | one (d : D) | agg (ds : List D) | tup (rs : List R) | undef | skip
abbrev Heap := List (List D)
mutual
def Ps.enc : (p : Ps) → p.den → D
  | .g t, x => .g t x
  | .ow e, x => .ow e x (.s 0)
  | .fn f caps, x => .fn f (caps.enc x)
  | .cell c, x => .cell (c.enc x)
  | .ref i off, _ => .ref i off
  | .nilFn, _ => .nilFn
  | .nilPtr, _ => .nilPtr
  | .undef, _ => .undef
  | .alt a b, x => .alt a b x
  | .owh e i off, x => .ow e x (.h i off)
  | .vec t, xs => .vec t xs
  | .vref i, n => .vref i n
  | .chn i, _ => .chn i
  | .sem, cs => .sem cs
def Pss.enc : (ps : Pss) → ps.den → List D
  | .nil, _ => []
  | .cons p ps, x => p.enc x.1 :: ps.enc x.2
end
def forkP (B : Br) : (p : Ps) → p.den → (D → B.ρ) → B.ρ
  | .alt a b, x, k => B.sum a b x (fun u => forkP B a u k) fun v => forkP B b v k
  | p, x, k => k (p.enc x)
def forkD (B : Br) (d : D) (k : D → B.ρ) : B.ρ := match d with
  | .alt p q x => forkP B (.alt p q) x k
  | d => k d
def expand1 : D → List D
  | .vec t xs => xs.map (.g t)
  | d => [d]
def expand : List D → List D
  | [d] => expand1 d
  | ds => ds
def plainB : List D → Bool
  | .vec _ _ :: _ => false
  | .sem _ :: _ => false
  | _ => true
def D.isVref : D → Bool
  | .vref _ _ => true
  | _ => false
def anyVref : List R → Bool
  | [] => false
  | .one d :: rs => d.isVref || anyVref rs
  | _ :: rs => anyVref rs
def Ts.leaves : (ts : Ts) → ts.den → List D
  | .one t, x => [.g t x]
  | .cons t ts, x => .g t x.1 :: ts.leaves x.2
def D.strip : D → D
  | .ow e xs _ => .g (.sl e) xs
  | d => d
def D.kill (dead : List Tok) : D → D
  | .ow e xs k => bif tokIn k dead then .g (.sl e) xs else .ow e xs k
  | d => d
def D.rename (a b : Tok) : D → D
  | .ow e xs k => bif k.beq a then .ow e xs b else bif k.beq b then .g (.sl e) xs else .ow e xs k
  | d => d
def D.onlyH : D → D
  | .ow e xs (.h i o) => .ow e xs (.h i o)
  | d => d.strip
def D.noS : D → D
  | .ow e xs (.s _) => .g (.sl e) xs
  | d => d
mutual
def R.map (f : D → D) : R → R
  | .one d => .one (f d)
  | .agg ds => .agg (ds.map f)
  | .tup rs => .tup (R.mapL f rs)
  | .undef => .undef
  | .skip => .skip
def R.mapL (f : D → D) : List R → List R
  | [] => []
  | r :: rs => r.map f :: R.mapL f rs
end
def R.leaves : R → List D
  | .one d => [d.strip]
  | .agg ds => ds.map D.strip
  | _ => []
def R.stripAgg : R → R
  | .agg ds => .agg (ds.map D.strip)
  | r => r
mutual
def D.hasRef : D → Bool
  | .ref _ _ => true
  | .fn _ caps => hasRefs caps
  | .cell c => hasRefs c
  | .vref _ _ => true
  | .vat _ _ => true
  | .chn _ => true
  | _ => false
def hasRefs : List D → Bool
  | [] => false
  | d :: ds => d.hasRef || hasRefs ds
end
def R.hasRef : R → Bool
  | .one d => d.hasRef
  | .agg ds => hasRefs ds
  | .tup _ => true
  | _ => false
def anyRef : List R → Bool
  | [] => false
  | r :: rs => r.hasRef || anyRef rs
-- no reference from box n on
mutual
def D.refsBelow (n : Nat) : D → Bool
  | .ref i _ => i.blt n
  | .fn _ caps => refsBelowL n caps
  | .cell c => refsBelowL n c
  | .vref i _ => i.blt n
  | .vat i _ => i.blt n
  | .chn i => i.blt n
  | _ => true
def refsBelowL (n : Nat) : List D → Bool
  | [] => true
  | d :: ds => d.refsBelow n && refsBelowL n ds
end
mutual
def R.refsBelow (n : Nat) : R → Bool
  | .one d => d.refsBelow n
  | .agg ds => V.refsBelowL n ds
  | .tup rs => R.refsBelowL n rs
  | .undef => true
  | .skip => true
def R.refsBelowL (n : Nat) : List R → Bool
  | [] => true
  | r :: rs => r.refsBelow n && R.refsBelowL n rs
end
-- A reference into a box becomes what the box holds: it is written no more.
def D.freeze (h : Heap) : Nat → D → D
  | 0, _ => .undef
  | n + 1, .ref i off => match h[i]? with
    | some ds => bif plainB ds then .cell ((ds.drop off).map (D.freeze h n)) else .undef
    | none => .undef
  | n + 1, .fn f caps => .fn f (caps.map (D.freeze h n))
  | n + 1, .cell c => .cell (c.map (D.freeze h n))
  | _ + 1, .vref _ _ => .undef
  | _ + 1, .vat _ _ => .undef
  | _ + 1, .chn _ => .undef
  | _ + 1, d => d.strip
inductive TD where
  | int (k : IntKind) | bool | slice (e : Nat) | array (n e : Nat) | struct (fs : List (Nat × Nat)) | ptr (e : Nat) | func | tup (ts : List Nat)
structure TI where
  d : TD
  size : Nat
  agg : Bool
  gl : Option Ts
  zero : List D
structure Env where
  P : Program
  tab : List (Nat × TI)
  cbox : List (Nat × List Nat)
  live : List (Nat × List (Nat × List Nat))
  gives : List Nat
  eqs : List Nat
  L : Nat
  drop : List (Nat × List (Nat × List Nat)) := []
  soft : List (Nat × List (Nat × List Nat)) := []
  conds : List (Nat × List Nat) := []
  into : List (Nat × List (Nat × List Nat)) := []
  nils : List (Nat × List Nat) := []
  vecs : List (Nat × List Nat) := []
  mild : List (Nat × List (Nat × List Nat)) := []
  news : List Nat := []
  thin : List Nat := []
  neat : List Nat := []
  cnts : List Nat := []
  strict : List Nat := []
  lent : List Nat := []
def look {α : Type} : List (Nat × α) → Nat → Option α
  | [], _ => none
  | (s, r) :: l, t => bif s.beq t then some r else look l t
def mem : Nat → List Nat → Bool
  | _, [] => false
  | t, s :: l => s.beq t || mem t l
def Env.ti (E : Env) (t : Nat) : Option TI := look E.tab t
structure St where
  regs : List (Nat × R)
  heap : Heap
  dead : List Tok
  nt : Nat
  nb : Nat
def setR : List (Nat × R) → Nat → R → List (Nat × R)
  | [], t, v => [(t, v)]
  | (s, r) :: l, t, v => bif s.beq t then (t, v) :: l else bif t.blt s then (t, v) :: (s, r) :: l else (s, r) :: setR l t v
def takeD : Nat → List D → Option (List D)
  | 0, _ => some []
  | n + 1, d :: ds => match takeD n ds with | some l => some (d :: l) | none => none
  | _ + 1, [] => none
def asR (agg : Bool) (ds : List D) : Option R :=
  match agg with
  | true => some (.agg (ds.map D.strip))
  | false => match ds with
    | [d] => some (.one d)
    | _ => none
def putAt : List D → Nat → List D → Option (List D)
  | ds, _, [] => some ds
  | [], _, _ :: _ => none
  | _ :: ds, 0, v :: vs => match putAt ds 0 vs with | some l => some (v :: l) | none => none
  | d :: ds, n + 1, vs => match putAt ds n vs with | some l => some (d :: l) | none => none
def setAt : Heap → Nat → List D → Heap
  | [], _, _ => []
  | _ :: h, 0, ds => ds :: h
  | d :: h, n + 1, ds => d :: setAt h n ds
def mapO {α β : Type} (f : α → Option β) : List α → Option (List β)
  | [] => some []
  | x :: l => match f x with
    | some y => match mapO f l with
      | some ys => some (y :: ys)
      | none => none
    | none => none
def unLeaf (t : T) : D → Option t.den
  | .g u x => if h : T.beq u t = true then some (T.cast h x) else none
  | _ => none
def unleaves : (ts : Ts) → List D → Option ts.den
  | .one t, ds => match ds with
    | [d] => unLeaf t d
    | _ => none
  | .cons t ts, ds => match ds with
    | d :: l => match unLeaf t d, unleaves ts l with
      | some x, some r => some (x, r)
      | _, _ => none
    | [] => none
def constR (E : Env) (ty : Nat) : Value → Option R
  | .int k n => some (.one (.g (.int k) n))
  | .bool b => some (.one (.g .bool b))
  | .nilFunc => some (.one .nilFn)
  | .pointer none => some (.one .nilPtr)
  | .slice none 0 0 => match E.ti ty with
    | some { gl := some (.one (.sl e)), .. } => some (.one (.g (.sl e) []))
    | _ => none
  | _ => none
def evalO (E : Env) (ty : Nat) (lk : Nat → Option R) : Operand → Option R
  | .tmp t => lk t
  | .const v => constR E ty v
  | .func f => some (.one (.fn f []))
  | .global _ => none
structure Eff where
  r : R
  wr : Option (Nat × List D) := none
  push : Option (List D) := none
  die : Option Tok := none
  rd : List Nat := []
def binI (op : BinOp) (k : IntKind) (x y : Int) : Option D :=
  match op with
  | .add => some (.g (.int k) (k.wrap (x + y)))
  | .sub => some (.g (.int k) (k.wrap (x - y)))
  | .mul => some (.g (.int k) (k.wrap (x * y)))
  | .and => some (.g (.int k) (k.wrap (BitVec.ofInt k.bits x &&& BitVec.ofInt k.bits y).toNat))
  | .or => some (.g (.int k) (k.wrap (BitVec.ofInt k.bits x ||| BitVec.ofInt k.bits y).toNat))
  | .xor => some (.g (.int k) (k.wrap (BitVec.ofInt k.bits x ^^^ BitVec.ofInt k.bits y).toNat))
  | .eql => some (.g .bool (x == y))
  | .neq => some (.g .bool (x != y))
  | .lss => some (.g .bool (decide (x < y)))
  | .leq => some (.g .bool (decide (x ≤ y)))
  | .gtr => some (.g .bool (decide (x > y)))
  | .geq => some (.g .bool (decide (x ≥ y)))
  | _ => none
def eqD : List D → List D → Option Bool
  | [], [] => some true
  | .g (.int k) x :: l, .g (.int k') y :: m => if k = k' then match eqD l m with
      | some b => some (x == y && b)
      | none => none
    else none
  | .g .bool x :: l, .g .bool y :: m => match eqD l m with
      | some b => some (x == y && b)
      | none => none
  | _, _ => none
def asSl : D → Option ((e : Ts) × List e.den)
  | .g (.sl e) xs => some ⟨e, xs⟩
  | .ow e xs _ => some ⟨e, xs⟩
  | .nilS e => some ⟨e, []⟩
  | _ => none
def D.nilz : D → D
  | .g (.sl e) _ => .nilS e
  | d => d
def zeroOf (E : Env) (f dst : Nat) (ti : TI) : List D := bif mem dst ((look E.nils f).getD []) then ti.zero.map D.nilz else ti.zero
def flatB : List D → Bool
  | [] => true
  | .g _ _ :: ds => flatB ds
  | .ow _ _ _ :: ds => flatB ds
  | _ :: _ => false
def anyLend : List R → Bool
  | [] => false
  | .one (.vref _ _) :: _ => true
  | .one (.ref _ _) :: _ => true
  | _ :: rs => anyLend rs
def lendK (B : Br) (h : Heap) : List R → (List R → List Nat → B.ρ) → B.ρ
  | [], k => k [] []
  | r :: rs, k => match r with
    | .one (.vref i n) => match h[i]? with
      | some [.vec t xs] => B.gd (Nat.beq n xs.length) (lendK B h rs fun as is => k (.one (.g (.sl (.one t)) xs) :: as) (i :: is))
      | _ => B.fail
    | .one (.ref i off) => match h[i]? with
      | some ds => bif flatB ds then lendK B h rs fun as is => k (.one (.cell ((ds.drop off).map D.strip)) :: as) (i :: is) else B.fail
      | none => B.fail
    | r => lendK B h rs fun as is => k (r :: as) is
def plainT : T → Bool
  | .int _ => true
  | .bool => true
  | .sl _ => false
def plainTs : Ts → Bool
  | .one t => plainT t
  | .cons t ts => plainT t && plainTs ts
def plainSh : List (Bool × Bool × Ts) → Bool
  | [] => true
  | (_, _, ts) :: l => plainTs ts && plainSh l
def slOK (E : Env) (t : Nat) (e : Ts) : Bool := match E.ti t with
  | some { d := .slice et, .. } => (match E.ti et with
    | some te => te.size.beq e.size
    | none => false)
  | _ => false
def atIdx (B : Br) (i : Int) (k : Nat → B.ρ) : Nat → Nat → B.ρ
  | _, 0 => B.fail
  | j, n + 1 => B.br (i == (j : Int)) (k j) (atIdx B i k (j + 1) n)
def chunks (ts : Ts) : Nat → List D → Option (List ts.den)
  | 0, [] => some []
  | 0, _ :: _ => none
  | n + 1, ds => match unleaves ts ((ds.take ts.size).map D.strip) with
    | some x => match chunks ts n (ds.drop ts.size) with
      | some xs => some (x :: xs)
      | none => none
    | none => none
def R.lays : R → Bool
  | .one _ => true
  | .agg _ => true
  | _ => false
def fillD (pl : Nat → Option (Nat × Nat)) : List D → List (Nat × R) → Option (List D)
  | ds, [] => some ds
  | ds, (i, r) :: l => match pl i with
    | some (off, n) => bif r.lays && r.leaves.length.beq n && Nat.blt 0 n then match putAt ds off r.leaves with
        | some ds' => fillD pl ds' l
        | none => none
      else none
    | none => none
def maxL : Nat := 2147483648
def TD.nt : TD → Bool
  | .tup _ => false
  | _ => true
def R.cellsD : R → List D
  | .one d => [d]
  | r => r.leaves
def isBoolT (E : Env) (t : Nat) : Bool := match E.ti t with
  | some { d := .bool, .. } => true
  | _ => false
def foldMM (mx : Bool) (kk : IntKind) : Int → List R → Option Int
  | x, [] => some x
  | x, .one (.g (.int k) y) :: l => if k = kk then foldMM mx kk (bif mx then max x y else min x y) l else none
  | _, _ => none
structure CallP where
  f : Nat → List R → Option R
  k : (B : Br) → Nat → List R → (R → B.ρ) → B.ρ
  hk : ∀ (α : Type) g args (q : R → Option α), k (oB α) g args q = (f g args).bind q
  hn : ∀ {B B' : Br} (m : Br.Hom B B') g args q, m.φ (k B g args q) = k B' g args fun r => m.φ (q r)
instance : CoeFun CallP fun _ => Nat → List R → Option R := ⟨CallP.f⟩
theorem Br.ob_hom {B B' : Br} (m : Br.Hom B B') {τ : Type} (x : Option τ) (k : τ → B.ρ) : m.φ (B.ob x k) = B'.ob x fun y => m.φ (k y) := by
  cases x with
  | none => exact m.fail
  | some y => rfl
def CallP.of (f : Nat → List R → Option R) : CallP := ⟨f, fun B g args q => B.ob (f g args) q, fun _ g args _ => by unfold Br.ob; cases f g args <;> rfl, fun m g args q => Br.ob_hom m (f g args) q⟩
abbrev Sh := List (Bool × Bool × Ts)
@[reducible] def Sh.den : Sh → Type
  | [] => Unit
  | [(_, _, ts)] => ts.den
  | (_, _, ts) :: s :: l => ts.den × Sh.den (s :: l)
def castL {a b : Ts} (h : Ts.beq a b = true) (xs : List a.den) : List b.den := Ts.eq_of_beq h ▸ xs
def vecOf : (e : Ts) → List e.den → List e.den → Option ((vt : T) × List vt.den)
  | .one vt, xs, zs => bif xs.isEmpty then some ⟨vt, zs⟩ else none
  | _, _, _ => none
theorem vecOf_some {e : Ts} {xs zs : List e.den} {vt : T} {ys : List vt.den} (h : vecOf e xs zs = some ⟨vt, ys⟩) : e = .one vt ∧ xs = [] ∧ HEq zs ys := by
  cases e with
  | one t =>
    simp only [vecOf] at h
    cases hx : xs.isEmpty with
    | true =>
      rw [hx] at h
      simp only [cond_true, Option.some.injEq, Sigma.mk.injEq] at h
      obtain ⟨rfl, h⟩ := h
      exact ⟨rfl, List.isEmpty_iff.1 hx, h⟩
    | false => rw [hx] at h; cases h
  | cons t l => simp only [vecOf, reduceCtorEq] at h
def unOne : (own a : Bool) → (ts : Ts) → R → Option ts.den
  | true, _, .one (.sl e), .one (.ow e' xs _) => if h : Ts.beq e' e = true then some (castL h xs) else none
  | false, true, ts, .agg ds => unleaves ts (ds.map D.strip)
  | false, false, ts, .one d => unleaves ts [d.strip]
  | _, _, _, _ => none
def mkOne (dst : Nat) : (own a : Bool) → (ts : Ts) → ts.den → R
  | true, _, .one (.sl e), xs => .one (.ow e xs (.s dst))
  | _, true, ts, x => .agg (ts.leaves x)
  | _, false, ts, x => match ts.leaves x with
    | [d] => .one d
    | _ => .undef
def unSh : (l : Sh) → List R → Option l.den
  | [], [] => some ()
  | [(o, a, ts)], [r] => unOne o a ts r
  | (o, a, ts) :: s :: l, r :: rs => (unOne o a ts r).bind fun x => (unSh (s :: l) rs).bind fun y => some (x, y)
  | _, _ => none
def mkSh (dst : Nat) : (l : Sh) → l.den → List R
  | [], _ => []
  | [(o, a, ts)], x => [mkOne dst o a ts x]
  | (o, a, ts) :: s :: l, x => mkOne dst o a ts x.1 :: mkSh dst (s :: l) x.2
def plOne (dst : Nat) (a : Bool) (ts : Ts) (y : ts.den) : R := bif plainTs ts then mkOne dst false a ts y else .undef
def mkPl (dst : Nat) : (l : Sh) → l.den → List R
  | [], _ => []
  | [(_, a, ts)], x => [plOne dst a ts x]
  | (_, a, ts) :: s :: l, x => plOne dst a ts x.1 :: mkPl dst (s :: l) x.2
def unTup (l : Sh) : R → Option l.den
  | .tup rs => unSh l rs
  | _ => none
def shapeOf (E : Env) (own : Bool) (ty : Nat) : Option Sh :=
  match E.ti ty with
  | some { d := .tup ts, .. } => match mapO (fun t => match E.ti t with | some { agg := a, gl := some ts, .. } => some (false, a, ts) | _ => none) ts with
    | some ((_, a, ts) :: l) => some ((own, a, ts) :: l)
    | some [] => some []
    | none => none
  | _ => none
def retok (dst : Nat) : R → R
  | .one (.ow e xs _) => .one (.ow e xs (.s dst))
  | r => r.map D.strip
def stripTail (dst : Nat) : R → R
  | .tup (r :: rs) => .tup (retok dst r :: R.mapL D.strip rs)
  | r => retok dst r
def typed (B : Br) (E : Env) (own : Bool) (dst ty : Nat) (r : R) (k : R → B.ρ) : B.ρ :=
  match shapeOf E own ty with
  | some l => B.ob (unTup l r) fun x => k (.tup (mkSh dst l x))
  | none => match E.ti ty with
    | some { agg := a, gl := some ts, .. } => B.ob (unOne own a ts r) fun x => k (mkOne dst own a ts x)
    | _ => k (stripTail dst r)
def isNilC : Operand → Bool
  | .const (.slice none 0 0) => true
  | _ => false
def dstOf (o : Oper) : Nat := o.dst.getD 1000000
def storeV (E : Env) (f t : Nat) (lk : Nat → Option R) (v : Operand) : Option R := bif mem 1000001 ((look E.nils f).getD []) && isNilC v then match E.ti t with
    | some { gl := some (.one (.sl e)), .. } => some (.one (.nilS e))
    | _ => none
  else evalO E t lk v
def semIn (i : Int) : Bool := decide (0 ≤ i ∧ i < 8)
def countV (cs : List Int) (i : Int) : Int := bif semIn i then cs.getD i.toNat 0 else 0
def countOf (h : Heap) : List D → List R → Option (Nat × Int)
  | [], [.one (.ref i 0), .one (.g (.int .i64) x)] => match h[i]? with
    | some [.sem cs] => some (i, countV cs x)
    | _ => none
  | _, _ => none
def vecK (B : Br) (n : Nat) (t : Tok) (p : Option ((vt : T) × List vt.den)) (k : Eff → B.ρ) : B.ρ := match p with
  | some ⟨vt, zs⟩ => B.gd (!zs.isEmpty) (k { r := .one (.vref n zs.length), push := some [.vec vt zs], die := some t })
  | none => B.fail
def effB (B : Br) (E : Env) (f : Nat) (call : CallP) (o : Oper) (lk : Nat → Option R) (h : Heap) (k : Eff → B.ρ) : B.ρ :=
  match o.op with
  | .move x | .assign x => match x with
    | .const (.slice none 0 0) => match E.ti o.type with
      | some { gl := some (.one (.sl e)), .. } => k { r := .one (.ow e [] (.s (dstOf o))) }
      | _ => B.fail
    | x => match evalO E o.type lk x with
      | some r => k { r := r }
      | none => B.fail
  | .pick c a b => match evalO E 0 lk c with
    | some (.one (.g .bool true)) => match evalO E o.type lk a with
      | some r => k { r := r }
      | none => B.fail
    | some (.one (.g .bool false)) => match evalO E o.type lk b with
      | some r => k { r := r }
      | none => B.fail
    | _ => B.fail
  | .binOp op xt x y _ => match evalO E 0 lk x, evalO E 0 lk y with
    | some (.one (.g (.int kk) a)), some (.one (.g (.int kk') b)) =>
      (match op with
      | .shl => B.gd (decide (0 ≤ b)) (k { r := .one (.g (.int kk) (kk.wrap (a * 2 ^ min b.toNat kk.bits))) })
      | .shr => B.gd (decide (0 ≤ b)) (k { r := .one (.g (.int kk) (a.fdiv (2 ^ min b.toNat kk.bits))) })
      | .quo => if kk = kk' then B.br (b == 0) B.fail (k { r := .one (.g (.int kk) (kk.wrap (Int.tdiv a b))) }) else B.fail
      | .rem => if kk = kk' then B.br (b == 0) B.fail (k { r := .one (.g (.int kk) (Int.tmod a b)) }) else B.fail
      | op => if kk = kk' then match binI op kk a b with | some d => k { r := .one d } | none => B.fail else B.fail)
    | some (.one (.g .bool a)), some (.one (.g .bool b)) => bif isBoolT E xt then match op with
      | .eql => k { r := .one (.g .bool (a == b)) }
      | .neq => k { r := .one (.g .bool (!(a == b))) }
      | _ => B.fail
      else B.fail
    | some (.agg a), some (.agg b) => bif mem xt E.eqs then match E.ti xt with
      | some { gl := some ts, .. } => match unleaves ts a, unleaves ts b with
        | some _, some _ => match op, eqD a b with
          | .eql, some c => k { r := .one (.g .bool c) }
          | .neq, some c => k { r := .one (.g .bool (!c)) }
          | _, _ => B.fail
        | _, _ => B.fail
      | _ => B.fail
      else B.fail
    | _, _ => B.fail
  | .unOp op _ x => match op, evalO E 0 lk x with
    | .not, some (.one (.g .bool a)) => k { r := .one (.g .bool (!a)) }
    | .neg, some (.one (.g (.int kk) a)) => k { r := .one (.g (.int kk) (kk.wrap (0 - a))) }
    | _, _ => B.fail
  | .convert src dst x => match evalO E 0 lk x, E.ti src, E.ti dst with
    | some (.one (.g (.int _) a)), some { d := .int _, .. }, some { d := .int kk, .. } => k { r := .one (.g (.int kk) (kk.wrap a)) }
    | _, _, _ => B.fail
  | .box ty v => match evalO E ty lk v with
    | some r => bif r.lays then bif mem (dstOf o) ((look E.cbox f).getD []) then k { r := .one (.cell r.leaves) }
      else k { r := .one (.ref h.length 0), push := some r.leaves } else B.fail
    | none => B.fail
  | .alloc ty => match E.ti ty with
    | some ti => bif ti.d.nt then bif mem (dstOf o) ((look E.cbox f).getD []) then k { r := .one (.cell ti.zero) }
      else k { r := .one (.ref h.length 0), push := some (zeroOf E f (dstOf o) ti) } else B.fail
    | none => B.fail
  | .nilCheck x => match evalO E 0 lk x with
    | some (.one (.cell c)) => k { r := .one (.cell c) }
    | some (.one (.ref i off)) => k { r := .one (.ref i off) }
    | _ => B.fail
  | .fieldAddr s x i => match evalO E 0 lk x, E.ti s with
    | some (.one (.cell c)), some { d := .struct fs, .. } => match fs[i]? with
      | some (off, _) => k { r := .one (.cell (c.drop off)) }
      | none => B.fail
    | some (.one (.ref b o)), some { d := .struct fs, .. } => match fs[i]? with
      | some (off, _) => k { r := .one (.ref b (o + off)) }
      | none => B.fail
    | _, _ => B.fail
  | .indexAddr t x i => match evalO E 0 lk x, evalO E 0 lk i with
    | some (.one d), some (.one (.g (.int _) i)) => match d with
      | .vref b n => match h[b]? with
        | some [.vec vt _] => bif slOK E t (.one vt) then B.gd (decide (0 ≤ i)) (B.gd (decide (i < n)) (k { r := .one (.vat b i.toNat), rd := [b] })) else B.fail
        | _ => B.fail
      | .cell c => match E.ti t with
        | some { d := .array n e, .. } => match E.ti e with
          | some te => atIdx B i (fun j => k { r := .one (.cell (c.drop (j * te.size))) }) 0 n
          | none => B.fail
        | _ => B.fail
      | .ref b o => match E.ti t with
        | some { d := .array n e, .. } => match E.ti e with
          | some te => atIdx B i (fun j => k { r := .one (.ref b (o + j * te.size)) }) 0 n
          | none => B.fail
        | _ => B.fail
      | d => match asSl d with
        | some ⟨e, xs⟩ => bif slOK E t e then B.gd (decide (0 ≤ i)) (B.gd (decide (i < xs.length)) (k { r := .one (.cell (e.leaves (xs.getD i.toNat e.dflt))) })) else B.fail
        | none => B.fail
    | _, _ => B.fail
  | .index t x i => match evalO E 0 lk x, evalO E 0 lk i, E.ti t with
    | some (.agg c), some (.one (.g (.int _) i)), some { d := .array n e, .. } => match E.ti e with
      | some te => atIdx B i (fun j => match takeD te.size (c.drop (j * te.size)) with
        | some ds => match asR te.agg ds with
          | some r => k { r := r.map D.strip }
          | none => B.fail
        | none => B.fail) 0 n
      | none => B.fail
    | _, _, _ => B.fail
  | .load t x => match evalO E 0 lk x, E.ti t with
    | some (.one (.cell c)), some ti => bif ti.d.nt then match takeD ti.size c with
      | some ds => match asR ti.agg ds with
        | some r => k { r := r.map D.strip }
        | none => B.fail
      | none => B.fail
      else B.fail
    | some (.one (.ref b o)), some ti => bif ti.d.nt && Nat.blt 0 ti.size then match h[b]? with
      | some c => bif plainB c then match takeD ti.size (c.drop o) with
        | some ds => match asR ti.agg ds with
          | some r => k { r := r, rd := [b] }
          | none => B.fail
        | none => B.fail
        else B.fail
      | none => B.fail
      else B.fail
    | some (.one (.vat b j)), some ti => bif ti.d.nt && ti.size.beq 1 && !ti.agg then match h[b]? with
      | some [.vec vt xs] => B.gd (decide (j < xs.length)) (k { r := .one (.g vt (xs.getD j vt.dflt)), rd := [b] })
      | _ => B.fail
      else B.fail
    | _, _ => B.fail
  | .store t x v => match evalO E 0 lk x, storeV E f t lk v, E.ti t with
    | some (.one (.ref b o)), some r, some ti => match h[b]? with
      | some c => bif r.lays && r.cellsD.length.beq ti.size && Nat.blt 0 ti.size && ti.d.nt && plainB c then match putAt c o r.cellsD with
            | some c' => k { r := .undef, wr := some (b, c'), rd := [b] }
            | none => B.fail
          else B.fail
      | none => B.fail
    | some (.one (.vat b j)), some (.one d), some ti => match h[b]? with
      | some [.vec vt xs] => bif ti.size.beq 1 && ti.d.nt then B.gd (decide (j < xs.length)) (match unLeaf vt d.strip with
          | some x => k { r := .undef, wr := some (b, [.vec vt (xs.set j x)]), rd := [b] }
          | none => B.fail)
        else B.fail
      | _ => B.fail
    | _, _, _ => B.fail
  | .build t parts => match E.ti t, mapO (fun p => match evalO E 0 lk p.2 with | some r => some (p.1, r) | none => none) parts.toList with
    | some ti, some ps => match ti.d with
      | .struct fs => match fillD (fun i => match fs[i]? with
          | some (off, ft) => (match E.ti ft with
            | some tf => some (off, tf.size)
            | none => none)
          | none => none) (zeroOf E f (dstOf o) ti) ps with
        | some ds => k { r := .agg ds }
        | none => B.fail
      | .array _ e => match E.ti e with
        | some te => match fillD (fun i => some (i * te.size, te.size)) (zeroOf E f (dstOf o) ti) ps with
          | some ds => k { r := .agg ds }
          | none => B.fail
        | none => B.fail
      | _ => B.fail
    | _, _ => B.fail
  | .buildSlice t n parts => match E.ti t with
    | some { gl := some (.one (.sl e)), .. } =>
      match mapO (fun p => match evalO E 0 lk p.2 with | some r => unleaves e r.leaves | none => none) parts.toList with
      | some xs => bif (xs.length.beq n) && ((n * e.size).ble 16777216) && slOK E t e && idxOk 0 parts.toList then k { r := .one (.ow e xs (.s (dstOf o))) } else B.fail
      | none => B.fail
    | _ => B.fail
  | .makeSlice t l c => match evalO E 0 lk l, evalO E 0 lk c, E.ti t with
    | some (.one (.g (.int _) n)), some (.one (.g (.int _) m)), some { d := .slice et, gl := some (.one (.sl e)), .. } => match E.ti et with
      | some te => match unleaves e te.zero with
        | some z => bif slOK E t e then B.gd (decide (0 ≤ n)) (B.gd (decide (n ≤ m)) (B.gd (decide (m ≤ (maxL : Int)))
            (bif mem (dstOf o) ((look E.vecs f).getD []) then match e, z with
              | .one vt, z => B.gd (n == m) (k { r := .one (.vref h.length n.toNat), push := some [.vec vt (List.replicate n.toNat z)] })
              | _, _ => B.fail
            else k { r := .one (.ow e (List.replicate n.toNat z) (.s (dstOf o))) }))) else B.fail
        | none => B.fail
      | none => B.fail
    | _, _, _ => B.fail
  | .makeFunc fn first caps => match fn, first.toList with
    | .func g, [] => match mapO (fun p => match evalO E 0 lk p with | some (.one d) => some d.strip | _ => none) caps.toList with
      | some ds => k { r := .one (.fn g ds) }
      | none => B.fail
    | _, _ => B.fail
  | .slice t x lo hi mx => match evalO E 0 lk x with
    | some (.one (.ref b 0)) => match E.ti t, h[b]?, mx with
      | some { d := .array n e, .. }, some c, none => bif plainB c then match E.ti e with
        | some { gl := some ts, size := sz, .. } => match chunks ts n c, sliceLo lo lk E, sliceHi n hi lk E with
          | some xs, some l, some u => bif sz.beq ts.size && Nat.blt 0 c.length then B.gd (decide (0 ≤ l)) (B.gd (decide (l ≤ u)) (B.gd (decide (u ≤ n))
              (k { r := .one (.g (.sl ts) ((xs.take u.toNat).drop l.toNat)), wr := some (b, []), rd := [b] }))) else B.fail
          | _, _, _ => B.fail
        | _ => B.fail
        else B.fail
      | _, _, _ => B.fail
    | some (.one d) => match asSl d with
      | some ⟨e, xs⟩ => bif slOK E t e then match mx with
        | none => match sliceLo lo lk E, sliceHi xs.length hi lk E with
          | some l, some u => B.gd (decide (0 ≤ l)) (B.gd (decide (l ≤ u)) (B.gd (decide (u ≤ xs.length))
              (k { r := .one (.g (.sl e) ((xs.take u.toNat).drop l.toNat)) })))
          | _, _ => B.fail
        | some m => match evalO E 0 lk m, sliceLo lo lk E, sliceHi xs.length hi lk E with
          | some (.one (.g (.int _) m)), some l, some u => bif l == 0 && u == 0 && m == 0 && hi.isSome then k { r := .one (.ow e [] (.s (dstOf o))) } else B.fail
          | _, _, _ => B.fail
        else B.fail
      | none => B.fail
    | _ => B.fail
  | .extract x i => match evalO E 0 lk x with
    | some (.tup rs) => match rs[i]? with
      | some r => k { r := r }
      | none => B.fail
    | _ => B.fail
  | .call c => match c.callee with
    | .value g => match evalO E 0 lk g, mapO (evalO E 0 lk) c.args.toList with
      | some (.one d), some args => forkD B d fun d => match d with
        | .fn g caps => bif mem g E.cnts then (match countOf h caps args with
            | some (i, x) => k { r := .one (.g (.int .i64) x), rd := [i] }
            | none => B.fail)
          else bif anyLend args then
            match shapeOf E false o.type, E.ti o.type with
            | none, some { agg := a, gl := some ts, .. } => bif plainTs ts then lendK B h args fun args is => call.k B g ((args ++ caps.map R.one).map (R.map D.strip)) fun r => B.ob (unOne false a ts r) fun x => k { r := mkOne (dstOf o) false a ts x, rd := is } else B.fail
            | some sh, _ => lendK B h args fun args is => call.k B g ((args ++ caps.map R.one).map (R.map D.strip)) fun r => B.ob (unTup sh r) fun x => k { r := .tup (mkPl (dstOf o) sh x), rd := is }
            | _, _ => B.fail
          else call.k B g ((args ++ caps.map R.one).map (R.map D.strip)) fun r => typed B E (mem g E.gives) (dstOf o) o.type r fun r => k { r := r }
        | _ => B.fail
      | _, _ => B.fail
    | .builtin b => match b, mapO (evalO E 0 lk) c.args.toList with
      | .len, some [.one (.vref b n)] => match h[b]? with
        | some [.vec vt _] => bif slOK E (c.argTypes.getD 0 0) (.one vt) && c.argTypes.size.beq 1 then k { r := .one (.g (.int .i64) (n : Int)), rd := [b] } else B.fail
        | _ => B.fail
      | .len, some [.one d] => match asSl d with
        | some ⟨e, xs⟩ => bif slOK E (c.argTypes.getD 0 0) e && c.argTypes.size.beq 1 then k { r := .one (.g (.int .i64) (xs.length : Int)) } else B.fail
        | none => B.fail
      | .min, some (.one (.g (.int kk) a) :: l) => match foldMM false kk a l with
        | some x => k { r := .one (.g (.int kk) x) }
        | none => B.fail
      | .max, some (.one (.g (.int kk) a) :: l) => match foldMM true kk a l with
        | some x => k { r := .one (.g (.int kk) x) }
        | none => B.fail
      | .append, some [.one (.ow e xs t), .one d] => match asSl d with
        | some ⟨e', ys⟩ => bif slOK E (c.argTypes.getD 0 0) e && (c.argTypes.getD 0 0).beq (c.argTypes.getD 1 0) && c.argTypes.size.beq 2 then if he : Ts.beq e' e = true then B.gd (decide (xs.length + ys.length ≤ maxL))
            (bif mem (dstOf o) ((look E.vecs f).getD []) then vecK B h.length t (vecOf e xs (castL he ys)) k else k { r := .one (.ow e (xs ++ castL he ys) (.s (dstOf o))), die := some t }) else B.fail else B.fail
        | none => B.fail
      | _, _ => B.fail
    | _ => B.fail
  | _ => B.fail
where
  idxOk : Nat → List (Nat × Operand) → Bool
    | _, [] => true
    | j, p :: l => p.1.beq j && idxOk (j + 1) l
  sliceLo (lo : Option Operand) (lk : Nat → Option R) (E : Env) : Option Int := match lo with
    | none => some 0
    | some x => match evalO E 0 lk x with
      | some (.one (.g (.int _) i)) => some i
      | _ => none
  sliceHi (n : Nat) (hi : Option Operand) (lk : Nat → Option R) (E : Env) : Option Int := match hi with
    | none => some n
    | some x => match evalO E 0 lk x with
      | some (.one (.g (.int _) i)) => some i
      | _ => none
@[reducible] def effK {α : Type} (E : Env) (f : Nat) (call : CallP) (o : Oper) (lk : Nat → Option R) (h : Heap) (k : Eff → Option α) : Option α := effB (oB α) E f call o lk h k
structure Fp where
  rd : List Nat
  wr : List Nat
  push : Bool
  die : Bool
def St.put (st : St) (dst : Option Nat) (r : R) : Option St :=
  match dst with
  | some t => bif t.blt st.nt then some { st with regs := setR st.regs t r } else none
  | none => some st
def St.app (st : St) (dst : Option Nat) (e : Eff) : Option St :=
  match e.die with
  | some t => bif tokIn t st.dead then none else match e.wr, e.push with
    | none, none => St.put { st with dead := t :: st.dead } dst e.r
    | none, some ds => St.put { st with dead := t :: st.dead, heap := st.heap ++ [ds] } dst e.r
    | _, _ => none
  | none => match e.wr, e.push with
    | some (b, c), none => St.put { st with heap := setAt st.heap b c } dst e.r
    | none, some ds => St.put { st with heap := st.heap ++ [ds] } dst e.r
    | none, none => St.put st dst e.r
    | _, _ => none
def Eff.fp (n : Nat) (e : Eff) : Fp := ⟨e.rd, match e.wr, e.push with | some (b, _), none => [b] | some (b, _), some _ => [b, n] | none, some _ => [n] | none, none => [], e.push.isSome, e.die.isSome⟩
def guardK (B : Br) (all : List Oper) (o : Oper) (st : St) (yes no : St → B.ρ) : B.ρ :=
  match o.guard with
  | none => yes st
  | some (i, v) => match (all[i]?).bind (·.dst) with
    | none => B.fail
    | some t => match look st.regs t with
      | some (.one (.g .bool b)) =>
        B.br b (bif v then yes { st with regs := setR st.regs t (.one (.g .bool true)) } else no { st with regs := setR st.regs t (.one (.g .bool true)) })
          (bif v then no { st with regs := setR st.regs t (.one (.g .bool false)) } else yes { st with regs := setR st.regs t (.one (.g .bool false)) })
      | some .skip => no st
      | _ => B.fail
def opsK (B : Br) (E : Env) (f : Nat) (cp : CallP) (all : List Oper) : List Oper → St → List Fp → (St → List Fp → B.ρ) → B.ρ
  | [], st, fs, k => k st fs
  | o :: os, st, fs, k =>
    guardK B all o st
      (fun st0 => effB B E f cp o (look st0.regs) st0.heap fun e => match st0.app o.dst e with
        | some st => opsK B E f cp all os st (e.fp st0.heap.length :: fs) k
        | none => B.fail)
      (fun st => match st.put o.dst .skip with
        | some st => opsK B E f cp all os st (⟨[], [], false, false⟩ :: fs) k
        | none => B.fail)
def Operand.slot : Operand → List Nat
  | .tmp t => [t]
  | _ => []
def readsOf (all : List Oper) (o : Oper) : List Nat :=
  (match o.guard with
    | some (i, _) => match (all[i]?).bind (·.dst) with | some t => [t] | none => []
    | none => []) ++ o.op.operands.toList.flatMap Operand.slot
def meets (a b : List Nat) : Bool := match a with
  | [] => false
  | x :: l => mem x b || meets l b
def Fp.apart (a b : Fp) : Bool := !(meets a.wr b.rd) && !(meets a.wr b.wr) && !(meets b.wr a.rd) && !(a.push && b.push) && !(a.die && b.die)
def slotApart (all : List Oper) (a b : Oper) : Bool :=
  match a.dst, b.dst with
  | some x, some y => !(x.beq y) && !(mem x (readsOf all b)) && !(mem y (readsOf all a))
  | some x, none => !(mem x (readsOf all b))
  | none, some y => !(mem y (readsOf all a))
  | none, none => true
def predsOf (o : Oper) (done : List Nat) : Nat :=
  o.after.toList.foldr (fun e acc => bif Region.binds .any e then acc ||| (2 ^ e.on) ||| (done[e.on]?).getD 0 else acc) 0
def closure : List Oper → List Nat → List Nat
  | [], done => done
  | o :: os, done => closure os (done ++ [predsOf o done])
def edgesBack : Nat → List Oper → Bool
  | _, [] => true
  | i, o :: os => (o.after.toList.all fun e => !(Region.binds .any e) || e.on.blt i) && edgesBack (i + 1) os
def apartFrom (all : List Oper) (i : Nat) (a : Oper) (fa : Fp) : List Oper → List Fp → List Nat → Bool
  | b :: bs, fb :: fs, p :: ps => (p.testBit i || (slotApart all a b && fa.apart fb)) && apartFrom all i a fa bs fs ps
  | [], [], [] => true
  | _, _, _ => false
def apartAll (all : List Oper) : Nat → List Oper → List Fp → List Nat → Bool
  | i, a :: os, fa :: fs, _ :: ps => apartFrom all i a fa os fs ps && apartAll all (i + 1) os fs ps
  | _, [], [], [] => true
  | _, _, _, _ => false
def drawOk (ops : List Oper) (fs : List Fp) : Bool := edgesBack 0 ops && apartAll ops 0 ops fs (closure ops [])
def noDst (t : Nat) : List Oper → Bool
  | [] => true
  | o :: os => (match o.dst with
    | some u => !(t.beq u)
    | none => true) && noDst t os
def distinctDst : List Oper → Bool
  | [] => true
  | o :: os => (match o.dst with
    | some t => Nat.blt t 1000000 && noDst t os
    | none => true) && distinctDst os
def mapRegs (g : D → D) : List (Nat × R) → List (Nat × R)
  | [] => []
  | (s, r) :: l => (s, r.map g) :: mapRegs g l
def mapHeap (g : D → D) : Heap → Heap
  | [] => []
  | ds :: h => ds.map g :: mapHeap g h
def keepRegs (l : List Nat) : List (Nat × R) → List (Nat × R)
  | [] => []
  | (s, r) :: rs => bif mem s l then (s, r) :: keepRegs l rs else keepRegs l rs
def St.mapD (g : D → D) (st : St) : St := { st with regs := mapRegs g st.regs, heap := mapHeap g st.heap }
def nameLeaf (loc : Tok) (st : St) : D → St
  | .ow _ _ (.s t) => st.mapD (D.rename (.s t) loc)
  | _ => st
def nameHeapAt (i off : Nat) (st : St) : St :=
  match st.heap[i]? with
  | some ds => match ds[off]? with
    | some d => nameLeaf (.h i off) st d
    | none => st
  | none => st
def nameBox (i : Nat) : Nat → St → St
  | 0, st => st
  | n + 1, st => nameHeapAt i n (nameBox i n st)
def nameHeap : Nat → St → St
  | 0, st => st
  | n + 1, st => nameBox n ((st.heap[n]?.map List.length).getD 0) (nameHeap n st)
def nameSlot (s : Nat) (st : St) : St :=
  match look st.regs s with
  | some (.one d) => nameLeaf (.v s) st d
  | _ => st
def nameSlots : List (Nat × R) → St → St
  | [], st => st
  | (s, _) :: l, st => nameSlots l (nameSlot s st)
def sproutAt (i off : Nat) (st : St) : St :=
  match st.heap[i]? with
  | some ds => match ds[off]? with
    | some (.nilS e) => match st.mapD (D.kill [.h i off]) with
      | st => { st with heap := setAt st.heap i (ds.map (D.kill [.h i off]) |>.set off (.ow e [] (.h i off))) }
    | _ => st
  | none => st
def sproutBox (i : Nat) : Nat → St → St
  | 0, st => st
  | n + 1, st => sproutAt i n (sproutBox i n st)
def sproutHeap : Nat → St → St
  | 0, st => st
  | n + 1, st => sproutBox n ((st.heap[n]?.map List.length).getD 0) (sproutHeap n st)
def D.isNilS : D → Bool
  | .nilS _ => true
  | _ => false
def anyNilS : List D → Bool
  | [] => false
  | d :: l => d.isNilS || anyNilS l
def heapNil : Heap → Bool
  | [] => false
  | ds :: h => anyNilS ds || heapNil h
def St.sprout (st : St) : St := bif heapNil st.heap then sproutHeap st.heap.length st else st
def D.isOw : D → Bool
  | .ow _ _ _ => true
  | _ => false
def anyOwD : List D → Bool
  | [] => false
  | d :: l => d.isOw || anyOwD l
mutual
def R.hasOw : R → Bool
  | .one d => d.isOw
  | .tup rs => R.hasOwL rs
  | _ => false
def R.hasOwL : List R → Bool
  | [] => false
  | r :: rs => r.hasOw || R.hasOwL rs
end
def regsOw : List (Nat × R) → Bool
  | [] => false
  | (_, r) :: l => r.hasOw || regsOw l
def heapOw : Heap → Bool
  | [] => false
  | ds :: h => anyOwD ds || heapOw h
def St.keep (E : Env) (f id : Nat) (st : St) : St :=
  match (look E.live f).bind fun l => look l id with
  | some l => { st with regs := keepRegs l st.regs }
  | none => st
def St.names (st : St) : St :=
  bif regsOw st.regs || heapOw st.heap then
    match { St.mapD (D.kill st.dead) st with dead := [] } with
    | st => match nameHeap st.heap.length st with
      | st => match nameSlots st.regs st with
        | st => st.mapD D.noS
  else { st with dead := [] }
def tab2 (t : List (Nat × List (Nat × List Nat))) (f id : Nat) : List Nat := match look t f with
  | some l => match look l id with
    | some r => r
    | none => []
  | none => []
def giveUp (regs : List (Nat × R)) : List Nat → Heap → Heap
  | [], h => h
  | s :: l, h => match look regs s with
    | some (.one (.ref i _)) => giveUp regs l (setAt h i [])
    | _ => giveUp regs l h
def softR (l : List Nat) : List (Nat × R) → List (Nat × R)
  | [] => []
  | (s, r) :: rs => (s, bif mem s l then r.map D.strip else r) :: softR l rs
def softRegs (l : List Nat) (rs : List (Nat × R)) : List (Nat × R) := match l with
  | [] => rs
  | l => softR l rs
def St.ease (E : Env) (f id : Nat) (st : St) : St := { st with regs := softRegs (tab2 E.soft f id) st.regs, heap := giveUp st.regs (tab2 E.drop f id) st.heap }
def St.norm (E : Env) (f id : Nat) (st : St) : St := ((st.ease E f id).keep E f id).sprout.names
def deadOw (dead : List Tok) : List D → Bool
  | [] => false
  | .ow _ _ t :: l => tokIn t dead || deadOw dead l
  | _ :: l => deadOw dead l
def heapDead (dead : List Tok) : Heap → Bool
  | [] => false
  | ds :: h => deadOw dead ds || heapDead dead h
def St.bad (E : Env) (f id : Nat) (st : St) : Bool := mem f E.strict && heapDead st.dead (st.ease E f id).heap
def stripBoxes (regs : List (Nat × R)) : List Nat → Heap → Heap
  | [], h => h
  | s :: l, h => match look regs s with
    | some (.one (.ref i _)) => match h[i]? with
      | some ds => stripBoxes regs l (setAt h i (ds.map D.strip))
      | none => stripBoxes regs l h
    | _ => stripBoxes regs l h
def St.mild (l : List Nat) (st : St) : St := match l with
  | [] => st
  | l => { st with regs := softRegs l st.regs, heap := stripBoxes st.regs l st.heap }
inductive VExit where
  | normal | exit (id : Nat) | ret
structure CallE where
  k : (B : Br) → Nat → List R → Heap → (R → Heap → B.ρ) → B.ρ
  hn : ∀ {B B' : Br} (m : Br.Hom B B') g args h q, m.φ (k B g args h q) = k B' g args h fun r h => m.φ (q r h)
abbrev CallF := (α : Type) → Nat → List R → Heap → (R → Heap → Option α) → Option α
@[reducible] def CallE.f (ce : CallE) : CallF := fun α => ce.k (oB α)
instance : CoeFun CallE fun _ => CallF := ⟨CallE.f⟩
def asCall (E : Env) (st : St) (o : Oper) : Option (Nat × List R) :=
  match o.op with
  | .call c => match c.callee with
    | .value g => match evalO E 0 (look st.regs) g, mapO (evalO E 0 (look st.regs)) c.args.toList with
      | some (.one (.fn g caps)), some args => match (args ++ caps.map R.one).map (R.map D.strip) with
        | as => bif (anyRef as && !(anyVref as || mem g E.lent)) || mem g E.news then some (g, as) else none
      | _, _ => none
    | _ => none
  | _ => none
def asNil (E : Env) (st : St) (o : Oper) : Option (Bool × Bool) :=
  match o.op with
  | .binOp op t x (.const (.slice none 0 0)) _ => match evalO E 0 (look st.regs) x with
    | some (.one d) => match asSl d with
      | some ⟨e, xs⟩ => bif slOK E t e then (match op with
        | .eql => some (xs.isEmpty, true)
        | .neq => some (xs.isEmpty, false)
        | _ => none) else none
      | none => none
    | _ => none
  | .binOp op t x (.const (.pointer none)) _ => match evalO E 0 (look st.regs) x with
    | some (.one (.ref _ _)) => (match E.ti t with
      | some ti => (match ti.d with
        | .ptr _ => (match op with
          | .eql => some (false, true)
          | .neq => some (false, false)
          | _ => none)
        | _ => none)
      | none => none)
    | _ => none
  | _ => none
def opsE (B : Br) (E : Env) (f : Nat) (cp : CallP) (ce : CallE) (all : List Oper) : List Oper → St → (St → B.ρ) → B.ρ
  | [], st, k => k st
  | o :: os, st, k =>
    guardK B all o st
      (fun st => match asCall E st o with
        | some (g, as) => ce.k B g as (mapHeap (fun d => (d.kill st.dead).onlyH) st.heap) fun r h => match St.put { st with regs := mapRegs D.strip st.regs, heap := mapHeap D.onlyH h, dead := [] } o.dst (r.map D.strip) with
          | some st => opsE B E f cp ce all os st k
          | none => B.fail
        | none => match asNil E st o with
        | some (em, b) => B.br em (B.both (match St.put st o.dst (.one (.g .bool true)) with
            | some st => opsE B E f cp ce all os st k
            | none => B.fail) (match St.put st o.dst (.one (.g .bool false)) with
            | some st => opsE B E f cp ce all os st k
            | none => B.fail))
          (match St.put st o.dst (.one (.g .bool (!b))) with
            | some st => opsE B E f cp ce all os st k
            | none => B.fail)
        | none => effB B E f cp o (look st.regs) st.heap fun e => match st.app o.dst e with
          | some st => opsE B E f cp ce all os st k
          | none => B.fail)
      (fun st => match st.put o.dst .skip with
        | some st => opsE B E f cp ce all os st k
        | none => B.fail)
def regionB (B : Br) (E : Env) (f : Nat) (cp : CallP) (ce : CallE) (id : Nat) (ops : List Oper) (draw : Bool) (st : St) (k : St → B.ρ) : B.ρ :=
  bif distinctDst ops then
    bif draw then opsK B E f cp ops ops st [] fun st fs => bif drawOk ops fs.reverse then (bif st.bad E f id then B.fail else k (st.norm E f id)) else B.fail
    else opsE B E f cp ce ops ops st fun st => bif st.bad E f id then B.fail else k (st.norm E f id)
  else B.fail
def refsOk (n : Nat) : List (Nat × R) → Bool
  | [] => true
  | (_, r) :: l => r.refsBelow n && refsOk n l
def heapRefsOk (n : Nat) : Heap → Bool
  | [] => true
  | ds :: h => refsBelowL n ds && heapRefsOk n h
def St.trunc (n : Nat) (st : St) : Option St :=
  bif st.heap.length.beq n then some st else
  bif refsOk n st.regs && heapRefsOk n (st.heap.take n) then some { st with heap := st.heap.take n } else none
def headId : Code → Option Nat
  | .region id _ _ => some id
  | .seq a _ => headId a
  | .block _ c => headId c
  | .loop c => headId c
  | .cond _ a b => match headId a with
    | some i => some (i + 1000000)
    | none => match headId b with
      | some i => some (i + 2000000)
      | none => none
  | _ => none
mutual
def D.leads (i : Nat) : D → Bool
  | .ref j _ => j.beq i
  | .fn _ caps => leadsL i caps
  | .cell c => leadsL i c
  | .vref j _ => j.beq i
  | .vat j _ => j.beq i
  | .chn j => j.beq i
  | .ow _ _ (.h j _) => j.beq i
  | _ => false
def leadsL (i : Nat) : List D → Bool
  | [] => false
  | d :: ds => d.leads i || leadsL i ds
end
def R.leads (i : Nat) : R → Bool
  | .one d => d.leads i
  | .agg ds => leadsL i ds
  | .tup _ => true
  | _ => false
def regsLead (i : Nat) : List (Nat × R) → Bool
  | [] => false
  | (_, r) :: l => r.leads i || regsLead i l
def heapLead (i : Nat) : Heap → Bool
  | [] => false
  | ds :: h => leadsL i ds || heapLead i h
mutual
def D.reRef (a b : Nat) : D → D
  | .ref j o => .ref (bif j.beq a then b else j) o
  | .fn f caps => .fn f (reRefL a b caps)
  | .cell c => .cell (reRefL a b c)
  | .vref j n => .vref (bif j.beq a then b else j) n
  | .vat j n => .vat (bif j.beq a then b else j) n
  | .chn j => .chn (bif j.beq a then b else j)
  | d => d
def reRefL (a b : Nat) : List D → List D
  | [] => []
  | d :: ds => d.reRef a b :: reRefL a b ds
end
def R.reRef (a b : Nat) : R → R
  | .one d => .one (d.reRef a b)
  | .agg ds => .agg (reRefL a b ds)
  | r => r
def reRegs (a b : Nat) : List (Nat × R) → List (Nat × R)
  | [] => []
  | (s, r) :: l => (s, r.reRef a b) :: reRegs a b l
def reHeap (a b : Nat) : Heap → Heap
  | [] => []
  | ds :: h => reRefL a b ds :: reHeap a b h
def D.isTok (i : Nat) : D → Bool
  | .ow _ _ (.h j _) => j.beq i
  | .fn _ _ => true
  | .cell _ => true
  | _ => false
def toksL (i : Nat) : List D → Bool
  | [] => false
  | d :: ds => d.isTok i || toksL i ds
def R.isTok (i : Nat) : R → Bool
  | .one d => d.isTok i
  | .agg ds => toksL i ds
  | _ => false
def toksR (i : Nat) : List (Nat × R) → Bool
  | [] => false
  | (_, r) :: l => r.isTok i || toksR i l
def toksH (i : Nat) : Heap → Bool
  | [] => false
  | ds :: h => toksL i ds || toksH i h
def holeOf (st : St) : Nat → Nat → Option Nat
  | 0, _ => none
  | m + 1, i => bif regsLead i st.regs || heapLead i st.heap then holeOf st m (i + 1) else some i
def St.fill (st : St) (z a : Nat) : St := bif Nat.blt a z && (Nat.beq st.heap.length (z + 1) && (Nat.ble st.nb a && (!(regsLead a st.regs || heapLead a st.heap) && !(toksR z st.regs || toksH z st.heap)))) then
    { st with regs := reRegs z a st.regs, heap := reHeap z a ((setAt st.heap a (match st.heap[z]? with | some ds => ds | none => [])).take z) } else st
def St.drop1 (st : St) (z : Nat) : St := bif Nat.beq st.heap.length (z + 1) && (Nat.ble st.nb z && (refsOk z st.regs && heapRefsOk z (st.heap.take z))) then { st with heap := st.heap.take z } else st
def St.tidy1 (st : St) : St := match st.heap.length with
  | 0 => st
  | z + 1 => match holeOf st (z + 1 - st.nb) st.nb with
    | some a => bif Nat.beq a z then st.drop1 z else st.fill z a
    | none => st
def St.tidy : Nat → St → St
  | 0, st => st
  | m + 1, st => St.tidy m st.tidy1
def St.neatly (E : Env) (f : Nat) (st : St) : St := bif mem f E.neat then st.tidy 4 else st
def St.into (E : Env) (f : Nat) (c : Code) (st : St) : St := match headId c with
  | some id => match look E.into f with
    | some l => match look l id with
      | some s => (({ st with regs := keepRegs s st.regs } : St).mild (tab2 E.mild f id)).neatly E f
      | none => st
    | none => st
  | none => st
def eraseR (t : Nat) : List (Nat × R) → List (Nat × R)
  | [] => []
  | (s, r) :: l => bif s.beq t then eraseR t l else (s, r) :: eraseR t l
def St.past (E : Env) (f : Nat) (c : Operand) (st : St) : St := match c, look E.conds f with
  | .tmp t, some l => bif mem t l then { st with regs := eraseR t st.regs } else st
  | _, _ => st
def initRegs : Nat → List R → List (Nat × R)
  | _, [] => []
  | i, r :: rs => (i, r) :: initRegs (i + 1) rs
def resOne (E : Env) (st : St) : ResultVar → Option R
  | .tmp t => look st.regs t
  | .cell t ty => match look st.regs t, E.ti ty with
    | some (.one (.ref b o)), some ti => bif ti.d.nt && Nat.blt 0 ti.size then match st.heap[b]? with
      | some c => bif plainB c then match takeD ti.size (c.drop o) with
        | some ds => asR ti.agg ds
        | none => none
        else none
      | none => none
      else none
    | _, _ => none
def resR (E : Env) (rs : List ResultVar) (st : St) : Option R :=
  match rs with
  | [x] => resOne E st x
  | rs => match mapO (resOne E st) rs with
    | some l => some (.tup l)
    | none => none
def finTop (h : Heap) : R → R
  | .one (.ow e xs _) => .one (.ow e xs (.s 0))
  | .one d => .one (d.freeze h 9)
  | .agg ds => .agg (ds.map fun d => d.freeze h 9)
  | .tup rs => .tup (rs.map fun r => match r with
    | .one d => .one (d.freeze h 9)
    | .agg ds => .agg (ds.map fun d => d.freeze h 9)
    | _ => .undef)
  | r => r
def fin (h : Heap) : R → R
  | .tup (r :: rs) => match finTop h (.tup rs) with
    | .tup qs => .tup (finTop h r :: qs)
    | _ => .undef
  | r => finTop h r
def cutH (n : Nat) (r : R) (h : Heap) : Heap := bif !(h.length.beq n) && (r.refsBelow n && heapRefsOk n (h.take n)) then h.take n else h
def thinH (E : Env) (f : Nat) (h : Heap) : Heap := bif mem f E.thin then mapHeap D.strip h else h
def thinR (E : Env) (f : Nat) (r : R) : R := bif mem f E.thin then r.map D.strip else r
def meltK (B : Br) : List ResultVar → St → (St → B.ρ) → B.ρ
  | [], st, k => k st
  | .tmp t :: l, st, k => match look st.regs t with
    | some (.one (.vref i n)) => match st.heap[i]? with
      | some [.vec vt xs] => B.gd (Nat.beq n xs.length) (meltK B l { st with regs := setR st.regs t (.one (.g (.sl (.one vt)) xs)), heap := setAt st.heap i [] } k)
      | _ => B.fail
    | _ => meltK B l st k
  | _ :: l, st, k => meltK B l st k
end
end Go.V
namespace Go.V
open Go.RowKit
structure Hdr where
  A : Option Addr
  n : Nat
  c : Nat
  sz : Nat
structure Gh where
  bx : List Nat
  rd : Nat → Option Nat
  ow : Tok → Option Hdr
  base : Nat
  nb : Nat
def Gh.may (γ : Gh) (b i : Nat) : Prop := match γ.rd b with
  | none => True
  | some n => i < n
def Value.scalar : Value → Prop
  | .agg _ => False
  | .tuple _ => False
  | _ => True
section
variable (w : World) (γ : Gh)
mutual
def rdT : (t : T) → t.den → Value → Prop
  | .int k, x, v => v = .int k x
  | .bool, x, v => v = .bool x
  | .sl e, xs, v => ∃ A c, v = .slice A (List.length xs) c ∧ List.length xs ≤ c ∧
      ∀ i (h : i < List.length xs), ∃ b o, A = some ⟨b, o, none⟩ ∧ rdTs e (xs[i]'h) b (o + i * e.size)
def rdTs : (e : Ts) → e.den → Nat → Nat → Prop
  | .one t, x, b, o => ∃ u, w.cell? ⟨b, o, none⟩ = some u ∧ γ.may b o ∧ rdT t x u
  | .cons t ts, x, b, o => (∃ u, w.cell? ⟨b, o, none⟩ = some u ∧ γ.may b o ∧ rdT t x.1 u) ∧ rdTs ts x.2 b (o + 1)
end
mutual
def rdP : (p : Ps) → p.den → Value → Prop
  | .g t, x, v => rdT w γ t x v
  | .fn f caps, x, v => ∃ vs, v = .func (.func f) #[] vs ∧ rdPL caps x vs.toList
  | .nilFn, _, v => v = .nilFunc
  | .cell c, x, v => ∃ b o, v = .pointer (some ⟨b, o, none⟩) ∧ rdPC c x b o
  | .alt a b, x, v => match x with
    | .inl u => rdP a u v
    | .inr u => rdP b u v
  | _, _, _ => False
def rdPL : (ps : Pss) → ps.den → List Value → Prop
  | .nil, _, [] => True
  | .cons p ps, x, v :: vs => rdP p x.1 v ∧ rdPL ps x.2 vs
  | _, _, _ => False
def rdPC : (ps : Pss) → ps.den → Nat → Nat → Prop
  | .nil, _, _, _ => True
  | .cons p ps, x, b, o => (∃ u, w.cell? ⟨b, o, none⟩ = some u ∧ γ.may b o ∧ rdP p x.1 u) ∧ rdPC ps x.2 b (o + 1)
end
mutual
def rdD : D → Value → Prop
  | .g t x, v => rdT w γ t x v
  | .ow e xs _, v => rdT w γ (.sl e) xs v
  | .fn f caps, v => ∃ vs, v = .func (.func f) #[] vs ∧ rdL caps vs.toList
  | .nilFn, v => v = .nilFunc
  | .nilPtr, v => v = .pointer none
  | .cell c, v => ∃ b o, v = .pointer (some ⟨b, o, none⟩) ∧ rdC c b o
  | .ref i off, v => ∃ b, γ.bx[i]? = some b ∧ v = .pointer (some ⟨b, off, none⟩)
  | .undef, v => Value.scalar v
  | .nilS _, v => v = .slice none 0 0
  | .vec _ _, _ => False
  | .vref i n, v => ∃ b c, γ.bx[i]? = some b ∧ v = .slice (some ⟨b, 0, none⟩) n c ∧ n ≤ c
  | .vat i j, v => ∃ b, γ.bx[i]? = some b ∧ v = .pointer (some ⟨b, j, none⟩)
  | .chn i, v => ∃ b, γ.bx[i]? = some b ∧ v = .chan (some b)
  | .sem _, _ => False
  | .alt p q x, v => rdP w γ (.alt p q) x v
def rdL : List D → List Value → Prop
  | [], [] => True
  | d :: ds, v :: vs => rdD d v ∧ rdL ds vs
  | _, _ => False
def rdC : List D → Nat → Nat → Prop
  | [], _, _ => True
  | d :: ds, b, o => (∃ u, w.cell? ⟨b, o, none⟩ = some u ∧ γ.may b o ∧ rdD d u) ∧ rdC ds b (o + 1)
end
mutual
def rdR : R → Value → Prop
  | .one d, v => rdD w γ d v
  | .agg ds, v => ∃ vs, v = .agg vs ∧ rdL w γ ds vs.toList
  | .tup rs, v => ∃ vs, v = .tuple vs ∧ rdRs rs vs.toList
  | .undef, _ => True
  | .skip, v => v = Go.undef
def rdRs : List R → List Value → Prop
  | [], [] => True
  | r :: rs, v :: vs => rdR r v ∧ rdRs rs vs
  | _, _ => False
end
end
structure Ext (γ : Gh) (w : World) (γ' : Gh) (w' : World) : Prop where
  bx : ∀ (i b : Nat), i < γ.nb → γ.bx[i]? = some b → γ'.bx[i]? = some b
  base : γ'.base = γ.base
  size : w.heap.size ≤ w'.heap.size
  cells : ∀ b i u, γ.may b i → w.cell? ⟨b, i, none⟩ = some u → w'.cell? ⟨b, i, none⟩ = some u ∧ γ'.may b i
  low : Below γ.base w w'
  rdlow : ∀ b, b < γ.base → γ'.rd b = γ.rd b
  nb : γ'.nb = γ.nb
theorem Ext.refl (γ : Gh) (w : World) : Ext γ w γ w := ⟨fun _ _ _ h => h, rfl, Nat.le_refl _, fun _ _ _ h1 h2 => ⟨h2, h1⟩, Below.refl _ _, fun _ _ => rfl, rfl⟩
theorem Ext.trans {γ γ1 γ2 : Gh} {w w1 w2 : World} (h : Ext γ w γ1 w1) (k : Ext γ1 w1 γ2 w2) : Ext γ w γ2 w2 :=
  ⟨fun i b hn hb => k.bx i b (by rw [h.nb]; exact hn) (h.bx i b hn hb), k.base.trans h.base, Nat.le_trans h.size k.size,
   fun b i u h1 h2 => let ⟨c1, c2⟩ := h.cells b i u h1 h2; k.cells b i u c2 c1,
   h.low.trans (h.base ▸ k.low), fun b hb => (k.rdlow b (h.base.symm ▸ hb)).trans (h.rdlow b hb), k.nb.trans h.nb⟩
section
variable {w w' : World} {γ γ' : Gh}
structure Sees (γ : Gh) (w : World) (γ' : Gh) (w' : World) : Prop where
  cells : ∀ b i u, γ.may b i → w.cell? ⟨b, i, none⟩ = some u → w'.cell? ⟨b, i, none⟩ = some u ∧ γ'.may b i
mutual
theorem rdT_mono (h : Sees γ w γ' w') : (t : T) → (x : t.den) → (v : Value) → rdT w γ t x v → rdT w' γ' t x v
  | .int _, _, _, hv => hv
  | .bool, _, _, hv => hv
  | .sl e, xs, v, hv => by
    simp only [rdT] at hv ⊢
    obtain ⟨A, c, rfl, hc, hi⟩ := hv
    refine ⟨A, c, rfl, hc, fun i hlt => ?_⟩
    obtain ⟨b, o, hA, hr⟩ := hi i hlt
    exact ⟨b, o, hA, rdTs_mono h e _ b _ hr⟩
theorem rdTs_mono (h : Sees γ w γ' w') : (e : Ts) → (x : e.den) → (b o : Nat) → rdTs w γ e x b o → rdTs w' γ' e x b o
  | .one t, x, b, o, hv => by
    simp only [rdTs] at hv ⊢
    obtain ⟨u, h1, h2, h3⟩ := hv
    exact ⟨u, (h.cells b o u h2 h1).1, (h.cells b o u h2 h1).2, rdT_mono h t x u h3⟩
  | .cons t ts, x, b, o, hv => by
    simp only [rdTs] at hv ⊢
    obtain ⟨⟨u, h1, h2, h3⟩, h4⟩ := hv
    exact ⟨⟨u, (h.cells b o u h2 h1).1, (h.cells b o u h2 h1).2, rdT_mono h t x.1 u h3⟩, rdTs_mono h ts x.2 b (o + 1) h4⟩
end
mutual
theorem rdP_mono (h : Sees γ w γ' w') : (p : Ps) → (x : p.den) → (v : Value) → rdP w γ p x v → rdP w' γ' p x v
  | .g t, x, v, hv => by simp only [rdP] at hv ⊢; exact rdT_mono h t x v hv
  | .fn f caps, x, v, hv => by
    simp only [rdP] at hv ⊢
    obtain ⟨vs, rfl, hl⟩ := hv
    exact ⟨vs, rfl, rdPL_mono h caps x _ hl⟩
  | .nilFn, _, v, hv => by simpa only [rdP] using hv
  | .cell c, x, v, hv => by
    simp only [rdP] at hv ⊢
    obtain ⟨b, o, rfl, hc⟩ := hv
    exact ⟨b, o, rfl, rdPC_mono h c x b o hc⟩
  | .alt a b, x, v, hv => by
    cases x with
    | inl u => simp only [rdP] at hv ⊢; exact rdP_mono h a u v hv
    | inr u => simp only [rdP] at hv ⊢; exact rdP_mono h b u v hv
  | .ow _, _, _, hv => by simp only [rdP] at hv
  | .ref _ _, _, _, hv => by simp only [rdP] at hv
  | .nilPtr, _, _, hv => by simp only [rdP] at hv
  | .undef, _, _, hv => by simp only [rdP] at hv
  | .owh _ _ _, _, _, hv => by simp only [rdP] at hv
  | .vec _, _, _, hv => by simp only [rdP] at hv
  | .vref _, _, _, hv => by simp only [rdP] at hv
  | .chn _, _, _, hv => by simp only [rdP] at hv
  | .sem, _, _, hv => by simp only [rdP] at hv
theorem rdPL_mono (h : Sees γ w γ' w') : (ps : Pss) → (x : ps.den) → (vs : List Value) → rdPL w γ ps x vs → rdPL w' γ' ps x vs
  | .nil, _, [], hv => by simp only [rdPL]
  | .cons p ps, x, v :: vs, hv => by
    simp only [rdPL] at hv ⊢
    exact ⟨rdP_mono h p x.1 v hv.1, rdPL_mono h ps x.2 vs hv.2⟩
  | .nil, _, _ :: _, hv => by simp only [rdPL] at hv
  | .cons _ _, _, [], hv => by simp only [rdPL] at hv
theorem rdPC_mono (h : Sees γ w γ' w') : (ps : Pss) → (x : ps.den) → (b o : Nat) → rdPC w γ ps x b o → rdPC w' γ' ps x b o
  | .nil, _, _, _, _ => by simp only [rdPC]
  | .cons p ps, x, b, o, hv => by
    simp only [rdPC] at hv ⊢
    obtain ⟨⟨u, h1, h2, h3⟩, h4⟩ := hv
    exact ⟨⟨u, (h.cells b o u h2 h1).1, (h.cells b o u h2 h1).2, rdP_mono h p x.1 u h3⟩, rdPC_mono h ps x.2 b (o + 1) h4⟩
end
theorem rdP_scalar : {p : Ps} → {x : p.den} → {v : Value} → rdP w γ p x v → Value.scalar v
  | .g t, x, v, h => by
    simp only [rdP] at h
    cases t with
    | int k => simp only [rdT] at h; subst h; trivial
    | bool => simp only [rdT] at h; subst h; trivial
    | sl e => simp only [rdT] at h; obtain ⟨A, c, rfl, _⟩ := h; trivial
  | .fn f caps, x, v, h => by simp only [rdP] at h; obtain ⟨vs, rfl, _⟩ := h; trivial
  | .nilFn, x, v, h => by simp only [rdP] at h; subst h; trivial
  | .cell c, x, v, h => by simp only [rdP] at h; obtain ⟨b, o, rfl, _⟩ := h; trivial
  | .alt a b, .inl u, v, h => by simp only [rdP] at h; exact rdP_scalar h
  | .alt a b, .inr u, v, h => by simp only [rdP] at h; exact rdP_scalar h
  | .ow _, _, _, hv => by simp only [rdP] at hv
  | .ref _ _, _, _, hv => by simp only [rdP] at hv
  | .nilPtr, _, _, hv => by simp only [rdP] at hv
  | .undef, _, _, hv => by simp only [rdP] at hv
  | .owh _ _ _, _, _, hv => by simp only [rdP] at hv
  | .vec _, _, _, hv => by simp only [rdP] at hv
  | .vref _, _, _, hv => by simp only [rdP] at hv
  | .chn _, _, _, hv => by simp only [rdP] at hv
  | .sem, _, _, hv => by simp only [rdP] at hv
mutual
theorem rdD_mono (h : Sees γ w γ' w') (hb : ∀ (i b : Nat), γ.bx[i]? = some b → γ'.bx[i]? = some b) : (d : D) → (v : Value) → rdD w γ d v → rdD w' γ' d v
  | .g t x, v, hv => by simp only [rdD] at hv ⊢; exact rdT_mono h t x v hv
  | .ow e xs _, v, hv => by simp only [rdD] at hv ⊢; exact rdT_mono h (.sl e) xs v hv
  | .fn f caps, v, hv => by
    simp only [rdD] at hv ⊢
    obtain ⟨vs, rfl, hl⟩ := hv
    exact ⟨vs, rfl, rdL_mono h hb caps _ hl⟩
  | .nilFn, v, hv => by simpa only [rdD] using hv
  | .nilPtr, v, hv => by simpa only [rdD] using hv
  | .cell c, v, hv => by
    simp only [rdD] at hv ⊢
    obtain ⟨b, o, rfl, hc⟩ := hv
    exact ⟨b, o, rfl, rdC_mono h hb c b o hc⟩
  | .ref i off, v, hv => by
    simp only [rdD] at hv ⊢
    obtain ⟨b, h1, rfl⟩ := hv
    exact ⟨b, hb i b h1, rfl⟩
  | .undef, v, hv => by simpa only [rdD] using hv
  | .nilS _, v, hv => by simpa only [rdD] using hv
  | .vec _ _, v, hv => by simp only [rdD] at hv
  | .sem _, v, hv => by simp only [rdD] at hv
  | .vref i n, v, hv => by
    simp only [rdD] at hv ⊢
    obtain ⟨b, c, h1, rfl, h2⟩ := hv
    exact ⟨b, c, hb i b h1, rfl, h2⟩
  | .vat i j, v, hv => by
    simp only [rdD] at hv ⊢
    obtain ⟨b, h1, rfl⟩ := hv
    exact ⟨b, hb i b h1, rfl⟩
  | .chn i, v, hv => by
    simp only [rdD] at hv ⊢
    obtain ⟨b, h1, rfl⟩ := hv
    exact ⟨b, hb i b h1, rfl⟩
  | .alt p q x, v, hv => by simp only [rdD] at hv ⊢; exact rdP_mono h (.alt p q) x v hv
theorem rdL_mono (h : Sees γ w γ' w') (hb : ∀ (i b : Nat), γ.bx[i]? = some b → γ'.bx[i]? = some b) : (ds : List D) → (vs : List Value) → rdL w γ ds vs → rdL w' γ' ds vs
  | [], [], hv => by simp only [rdL]
  | d :: ds, v :: vs, hv => by
    simp only [rdL] at hv ⊢
    exact ⟨rdD_mono h hb d v hv.1, rdL_mono h hb ds vs hv.2⟩
  | [], _ :: _, hv => by simp only [rdL] at hv
  | _ :: _, [], hv => by simp only [rdL] at hv
theorem rdC_mono (h : Sees γ w γ' w') (hb : ∀ (i b : Nat), γ.bx[i]? = some b → γ'.bx[i]? = some b) : (ds : List D) → (b o : Nat) → rdC w γ ds b o → rdC w' γ' ds b o
  | [], _, _, _ => by simp only [rdC]
  | d :: ds, b, o, hv => by
    simp only [rdC] at hv ⊢
    obtain ⟨⟨u, h1, h2, h3⟩, h4⟩ := hv
    exact ⟨⟨u, (h.cells b o u h2 h1).1, (h.cells b o u h2 h1).2, rdD_mono h hb d u h3⟩, rdC_mono h hb ds b (o + 1) h4⟩
end
mutual
theorem rdR_mono (h : Sees γ w γ' w') (hb : ∀ (i b : Nat), γ.bx[i]? = some b → γ'.bx[i]? = some b) : (r : R) → (v : Value) → rdR w γ r v → rdR w' γ' r v
  | .one d, v, hv => by simp only [rdR] at hv ⊢; exact rdD_mono h hb d v hv
  | .agg ds, v, hv => by
    simp only [rdR] at hv ⊢
    obtain ⟨vs, rfl, hl⟩ := hv
    exact ⟨vs, rfl, rdL_mono h hb ds _ hl⟩
  | .tup rs, v, hv => by
    simp only [rdR] at hv ⊢
    obtain ⟨vs, rfl, hl⟩ := hv
    exact ⟨vs, rfl, rdRs_mono h hb rs _ hl⟩
  | .undef, v, hv => by simp only [rdR]
  | .skip, v, hv => by simpa only [rdR] using hv
theorem rdRs_mono (h : Sees γ w γ' w') (hb : ∀ (i b : Nat), γ.bx[i]? = some b → γ'.bx[i]? = some b) : (rs : List R) → (vs : List Value) → rdRs w γ rs vs → rdRs w' γ' rs vs
  | [], [], hv => by simp only [rdRs]
  | r :: rs, v :: vs, hv => by
    simp only [rdRs] at hv ⊢
    exact ⟨rdR_mono h hb r v hv.1, rdRs_mono h hb rs vs hv.2⟩
  | [], _ :: _, hv => by simp only [rdRs] at hv
  | _ :: _, [], hv => by simp only [rdRs] at hv
end
theorem Ext.sees (h : Ext γ w γ' w') : Sees γ w γ' w' := ⟨h.cells⟩
theorem rdT_scalar : {t : T} → {x : t.den} → {v : Value} → rdT w γ t x v → Value.scalar v
  | .int _, _, _, h => by simp only [rdT] at h; subst h; trivial
  | .bool, _, _, h => by simp only [rdT] at h; subst h; trivial
  | .sl _, _, _, h => by simp only [rdT] at h; obtain ⟨A, c, rfl, _⟩ := h; trivial
theorem rdD_scalar {d : D} {v : Value} (h : rdD w γ d v) : Value.scalar v := by
  cases d <;> simp only [rdD] at h
  case g t x => exact rdT_scalar h
  case ow e xs k => exact rdT_scalar (t := .sl e) h
  case fn f caps => obtain ⟨vs, rfl, _⟩ := h; trivial
  case nilFn => subst h; trivial
  case nilPtr => subst h; trivial
  case cell c => obtain ⟨b, o, rfl, _⟩ := h; trivial
  case ref i off => obtain ⟨b, _, rfl⟩ := h; trivial
  case undef => exact h
  case nilS e => subst h; trivial
  case vref i n => obtain ⟨b, c, _, rfl, _⟩ := h; trivial
  case vat i j => obtain ⟨b, _, rfl⟩ := h; trivial
  case chn i => obtain ⟨b, _, rfl⟩ := h; trivial
  case alt p q x => exact rdP_scalar h
theorem rdL_length : {ds : List D} → {vs : List Value} → rdL w γ ds vs → ds.length = vs.length
  | [], [], _ => rfl
  | _ :: ds, _ :: vs, h => by simp only [rdL] at h; simp [rdL_length h.2]
  | [], _ :: _, h => by simp only [rdL] at h
  | _ :: _, [], h => by simp only [rdL] at h
theorem rdL_scalar : {ds : List D} → {vs : List Value} → rdL w γ ds vs → ∀ v ∈ vs, Value.scalar v
  | [], [], _, _, hm => by cases hm
  | _ :: ds, v :: vs, h, u, hm => by
    simp only [rdL] at h
    rcases List.mem_cons.1 hm with rfl | hm
    · exact rdD_scalar h.1
    · exact rdL_scalar h.2 u hm
  | [], _ :: _, h, _, _ => by simp only [rdL] at h
  | _ :: _, [], h, _, _ => by simp only [rdL] at h
theorem rdD_strip {d : D} {v : Value} : rdD w γ d.strip v ↔ rdD w γ d v := by
  cases d <;> simp only [D.strip, rdD]
theorem expand_of {ds : List D} {vs : List Value} (h : rdL w γ ds vs) : expand ds = ds := by
  match ds, vs, h with
  | [.vec t xs], [], h => simp only [rdL] at h
  | [.vec t xs], v :: vs, h => simp only [rdL, rdD] at h; exact h.1.elim
  | [], _, _ => rfl
  | [.g _ _], _, _ => rfl
  | [.ow _ _ _], _, _ => rfl
  | [.fn _ _], _, _ => rfl
  | [.nilFn], _, _ => rfl
  | [.nilPtr], _, _ => rfl
  | [.cell _], _, _ => rfl
  | [.ref _ _], _, _ => rfl
  | [.undef], _, _ => rfl
  | [.nilS _], _, _ => rfl
  | [.vref _ _], _, _ => rfl
  | [.vat _ _], _, _ => rfl
  | [.chn _], _, _ => rfl
  | [.sem _], _, _ => rfl
  | [.alt _ _ _], _, _ => rfl
  | _ :: _ :: _, _, _ => rfl
def NameOnly (f : D → D) : Prop := ∀ d, (f d).strip = d.strip
theorem rdD_name {f : D → D} (hf : NameOnly f) {d : D} {v : Value} : rdD w γ (f d) v ↔ rdD w γ d v := by
  rw [← rdD_strip, hf d, rdD_strip]
theorem rdL_map {f : D → D} (hf : NameOnly f) : {ds : List D} → {vs : List Value} → (rdL w γ (ds.map f) vs ↔ rdL w γ ds vs)
  | [], [] => by simp only [List.map_nil]
  | d :: ds, v :: vs => by simp only [List.map_cons, rdL, rdD_name hf, rdL_map hf]
  | [], _ :: _ => by simp only [List.map_nil]
  | _ :: _, [] => by simp only [List.map_cons, rdL]
mutual
theorem rdR_map {f : D → D} (hf : NameOnly f) : (r : R) → (v : Value) → (rdR w γ (r.map f) v ↔ rdR w γ r v)
  | .one d, v => by simp only [R.map, rdR, rdD_name hf]
  | .agg ds, v => by simp only [R.map, rdR, rdL_map hf]
  | .tup rs, v => by
    simp only [R.map, rdR]
    constructor
    · rintro ⟨vs, h1, h2⟩; exact ⟨vs, h1, (rdRs_map hf rs _).1 h2⟩
    · rintro ⟨vs, h1, h2⟩; exact ⟨vs, h1, (rdRs_map hf rs _).2 h2⟩
  | .undef, v => by simp only [R.map]
  | .skip, v => by simp only [R.map]
theorem rdRs_map {f : D → D} (hf : NameOnly f) : (rs : List R) → (vs : List Value) → (rdRs w γ (R.mapL f rs) vs ↔ rdRs w γ rs vs)
  | [], vs => by simp only [R.mapL]
  | r :: rs, [] => by simp only [R.mapL, rdRs]
  | r :: rs, v :: vs => by simp only [R.mapL, rdRs, rdR_map hf r v, rdRs_map hf rs vs]
end
theorem NameOnly.vec {f : D → D} (hf : NameOnly f) (t : T) (xs : List t.den) : f (.vec t xs) = .vec t xs := by
  have h := hf (.vec t xs)
  cases he : f (.vec t xs) <;> rw [he] at h <;> simp only [D.strip, reduceCtorEq] at h
  exact h
theorem NameOnly.only {f : D → D} (hf : NameOnly f) {d : D} {t : T} {xs : List t.den} (h : f d = .vec t xs) : d = .vec t xs := by
  have h2 := hf d
  rw [h] at h2
  cases d <;> simp only [D.strip, reduceCtorEq] at h2
  exact h2.symm
theorem expand_cases (ds : List D) : (∃ t xs, ds = [.vec t xs]) ∨ (expand ds = ds ∧ ∀ t xs, ds ≠ [.vec t xs]) := by
  match ds with
  | [.vec t xs] => exact .inl ⟨t, xs, rfl⟩
  | [] => exact .inr ⟨rfl, fun _ _ h => by cases h⟩
  | [.g _ _] => exact .inr ⟨rfl, fun _ _ h => by cases h⟩
  | [.ow _ _ _] => exact .inr ⟨rfl, fun _ _ h => by cases h⟩
  | [.fn _ _] => exact .inr ⟨rfl, fun _ _ h => by cases h⟩
  | [.nilFn] => exact .inr ⟨rfl, fun _ _ h => by cases h⟩
  | [.nilPtr] => exact .inr ⟨rfl, fun _ _ h => by cases h⟩
  | [.cell _] => exact .inr ⟨rfl, fun _ _ h => by cases h⟩
  | [.ref _ _] => exact .inr ⟨rfl, fun _ _ h => by cases h⟩
  | [.undef] => exact .inr ⟨rfl, fun _ _ h => by cases h⟩
  | [.nilS _] => exact .inr ⟨rfl, fun _ _ h => by cases h⟩
  | [.vref _ _] => exact .inr ⟨rfl, fun _ _ h => by cases h⟩
  | [.vat _ _] => exact .inr ⟨rfl, fun _ _ h => by cases h⟩
  | [.chn _] => exact .inr ⟨rfl, fun _ _ h => by cases h⟩
  | [.sem _] => exact .inr ⟨rfl, fun _ _ h => by cases h⟩
  | [.alt _ _ _] => exact .inr ⟨rfl, fun _ _ h => by cases h⟩
  | _ :: _ :: _ => exact .inr ⟨rfl, fun _ _ h => by cases h⟩
theorem expand_map {f : D → D} (hf : NameOnly f) (ds : List D) : expand (ds.map f) = (match ds with | [.vec t xs] => xs.map (.g t) | ds => ds.map f) := by
  rcases expand_cases ds with ⟨t, xs, rfl⟩ | ⟨h1, h2⟩
  · simp only [List.map_cons, List.map_nil, hf.vec]; rfl
  · have h3 : expand (ds.map f) = ds.map f := by
      rcases expand_cases (ds.map f) with ⟨t, xs, e⟩ | ⟨e, _⟩
      · exfalso
        match ds, e with
        | [d], e =>
          simp only [List.map_cons, List.map_nil, List.cons.injEq, and_true] at e
          exact h2 t xs (by rw [hf.only e])
        | _ :: _ :: _, e => simp at e
      · exact e
    rw [h3]
    split
    · rename_i t xs
      exact absurd rfl (h2 t xs)
    · rfl
theorem rdL_expand {f : D → D} (hf : NameOnly f) {ds : List D} {vs : List Value} (h : rdL w γ (expand ds) vs) : rdL w γ (expand (ds.map f)) vs := by
  rw [expand_map hf]
  split
  · exact h
  · rename_i hne
    rcases expand_cases ds with ⟨t, xs, rfl⟩ | ⟨h1, _⟩
    · exact absurd rfl (hne t xs)
    · rw [h1] at h
      exact (rdL_map hf).2 h
def cutV : List D → List Value → List Value
  | [.vec _ xs], l => l.take xs.length
  | _, l => l
theorem cutV_ne {ds : List D} (h : ∀ t xs, ds ≠ [.vec t xs]) (l : List Value) : cutV ds l = l := by
  unfold cutV
  split
  · exact absurd rfl (h _ _)
  · rfl
theorem cutV_plain {ds : List D} (h : plainB ds = true) (l : List Value) : cutV ds l = l :=
  cutV_ne (fun t xs e => by subst e; cases h) l
theorem cutV_rd {ds : List D} {vs : List Value} (h : rdL w γ ds vs) (l : List Value) : cutV ds l = l :=
  cutV_ne (fun t xs e => by
    subst e
    cases vs with
    | nil => simp only [rdL] at h
    | cons v vs => simp only [rdL, rdD] at h; exact h.1.elim) l
theorem cutV_map {f : D → D} (hf : NameOnly f) (ds : List D) (l : List Value) : cutV (ds.map f) l = cutV ds l := by
  rcases expand_cases ds with ⟨t, xs, rfl⟩ | ⟨_, h2⟩
  · simp only [List.map_cons, List.map_nil, hf.vec]
  · rw [cutV_ne h2]
    refine cutV_ne (fun t xs e => ?_) l
    match ds, e with
    | [d], e =>
      simp only [List.map_cons, List.map_nil, List.cons.injEq, and_true] at e
      exact h2 t xs (by rw [hf.only e])
    | _ :: _ :: _, e => simp at e
theorem plain_expand {ds : List D} (h : plainB ds = true) : expand ds = ds := by
  rcases expand_cases ds with ⟨t, xs, rfl⟩ | ⟨h1, _⟩
  · cases h
  · exact h1
theorem nameOnly_strip : NameOnly D.strip := fun d => by cases d <;> rfl
theorem nameOnly_kill (l : List Tok) : NameOnly (D.kill l) := fun d => by
  cases d <;> try rfl
  case ow e xs k => simp only [D.kill]; cases tokIn k l <;> rfl
theorem nameOnly_rename (a b : Tok) : NameOnly (D.rename a b) := fun d => by
  cases d <;> try rfl
  case ow e xs k => simp only [D.rename]; cases k.beq a <;> cases k.beq b <;> rfl
theorem nameOnly_noS : NameOnly D.noS := fun d => by
  cases d <;> try rfl
  case ow e xs k => cases k <;> rfl
theorem nameOnly_onlyH : NameOnly D.onlyH := fun d => by
  cases d <;> try rfl
  case ow e xs k => cases k <;> rfl
end
end Go.V
namespace Go.V
open Go.RowKit
section
variable (γ : Gh) (dead : List Tok) (C : List Nat)
def tkD : D → Value → Prop
  | .ow e _ k, v => (tokIn k dead = true ∨ ∃ h, γ.ow k = some h ∧ v = .slice h.A h.n h.c ∧ h.sz = e.size) ∧ (∀ t, k = .s t → t ∈ C)
  | _, _ => True
def tkL : List D → List Value → Prop
  | d :: ds, v :: vs => tkD γ dead C d v ∧ tkL ds vs
  | _, _ => True
mutual
def tkR : R → Value → Prop
  | .one d, v => tkD γ dead C d v
  | .tup rs, .tuple vs => tkRs rs vs.toList
  | _, _ => True
def tkRs : List R → List Value → Prop
  | r :: rs, v :: vs => tkR r v ∧ tkRs rs vs
  | _, _ => True
end
end
def Owned (γ : Gh) (w : World) (h : Hdr) : Prop :=
  h.n ≤ h.c ∧ (h.c ≠ 0 → ∃ b arr ty, h.A = some ⟨b, 0, none⟩ ∧ w.heap[b]? = some (.cells arr ty (0, 0)) ∧ arr.size = h.c * h.sz ∧ γ.rd b = some (h.n * h.sz) ∧ γ.base ≤ b ∧ b ∉ γ.bx)
def Hdr.apart (h h' : Hdr) : Prop := h.c ≠ 0 → h'.c ≠ 0 → ∀ b b' : Nat, h.A = some ⟨b, 0, none⟩ → h'.A = some ⟨b', 0, none⟩ → b ≠ b'
structure OwOK (γ : Gh) (w : World) : Prop where
  own : ∀ k h, γ.ow k = some h → Owned γ w h
  inj : ∀ k k' h h', γ.ow k = some h → γ.ow k' = some h' → k ≠ k' → h.apart h'
structure BoxL (γ : Gh) (dead : List Tok) (C : List Nat) (w : World) (b : Nat) (ds : List D) : Prop where
  ex : ∃ arr ty, w.heap[b]? = some (.cells arr ty (0, 0)) ∧ rdL w γ (expand ds) (cutV ds arr.toList) ∧ tkL γ dead C (expand ds) (cutV ds arr.toList)
  rd : γ.rd b = some 0
  base : γ.base ≤ b
def semCells (b : Nat) : Array Value := #[.chan (some (b + 1)), .chan (some (b + 2)), .chan (some (b + 3)), .chan (some (b + 4)), .chan (some (b + 5)), .chan (some (b + 6)), .chan (some (b + 7)), .chan (some (b + 8))]
def SemAt (w : World) (b : Nat) (cs : List Int) : Prop := cs.length = 8 ∧ (∃ ty, w.heap[b]? = some (.cells (semCells b) ty (0, 0))) ∧
  ∀ j : Nat, j < 8 → ∃ (buf : Array Value) (s r : Nat), (buf.size : Int) = cs.getD j 0 ∧ buf.size ≤ 15 ∧ w.heap[b + 1 + j]? = some (.chan 15 buf false s r false)
def BoxR (γ : Gh) (w : World) (b : Nat) (ds : List D) : Prop :=
  γ.base ≤ b ∧ b < w.heap.size ∧ (ds = [] ∨ ∃ cs, ds = [.sem cs] ∧ SemAt w b cs)
theorem BoxR.keep {γ γ' : Gh} {w w' : World} {b : Nat} {ds : List D} (h : BoxR γ w b ds) (h1 : γ'.base ≤ γ.base) (h2 : w.heap.size ≤ w'.heap.size)
    (h3 : ∀ b' o, w.heap[b']? = some o → (b' = b ∨ ∀ arr ty k, o ≠ .cells arr ty k) → w'.heap[b']? = some o) : BoxR γ' w' b ds := by
  obtain ⟨a1, a2, a3⟩ := h
  refine ⟨Nat.le_trans h1 a1, Nat.lt_of_lt_of_le a2 h2, ?_⟩
  rcases a3 with a3 | ⟨cs, e1, e2, ⟨ty, e3⟩, e4⟩
  · exact .inl a3
  · refine .inr ⟨cs, e1, e2, ⟨ty, h3 _ _ e3 (.inl rfl)⟩, fun j hj => ?_⟩
    obtain ⟨buf, s, r, c1, c2, c3⟩ := e4 j hj
    exact ⟨buf, s, r, c1, c2, h3 _ _ c3 (.inr fun _ _ _ e => by cases e)⟩
theorem BoxR.map {γ : Gh} {w : World} {b : Nat} {ds : List D} {f : D → D} (hf : NameOnly f) (h : BoxR γ w b ds) : BoxR γ w b (ds.map f) := by
  obtain ⟨a1, a2, a3⟩ := h
  refine ⟨a1, a2, ?_⟩
  rcases a3 with rfl | ⟨cs, rfl, e2⟩
  · exact .inl rfl
  · refine .inr ⟨cs, ?_, e2⟩
    have h := hf (.sem cs)
    have : f (.sem cs) = .sem cs := by
      cases he : f (.sem cs) <;> rw [he] at h <;> simp only [D.strip, reduceCtorEq] at h
      exact h
    simp only [List.map_cons, List.map_nil, this]
theorem BoxR.plain {γ : Gh} {w : World} {b : Nat} {ds : List D} (h : BoxR γ w b ds) (hp : plainB ds = true) : ds = [] := by
  rcases h.2.2 with h | ⟨cs, rfl, _⟩
  · exact h
  · cases hp
def BoxOK (γ : Gh) (dead : List Tok) (C : List Nat) (w : World) (b : Nat) (ds : List D) : Prop :=
  BoxL γ dead C w b ds ∨ BoxR γ w b ds
structure HeapOK (γ : Gh) (h : Heap) (dead : List Tok) (C : List Nat) (w : World) : Prop where
  len : h.length = γ.bx.length
  box : ∀ (i : Nat) ds b, h[i]? = some ds → γ.bx[i]? = some b → BoxOK γ dead C w b ds
  nodup : γ.bx.Nodup
structure Sim (γ : Gh) (st : St) (C : List Nat) (a : Act) (w : World) : Prop where
  dfr : a.defers = []
  sz : a.tmps.size = st.nt
  regs : ∀ s r, look st.regs s = some r → rdR w γ r (a.tmps.getD s Go.undef) ∧ tkR γ st.dead C r (a.tmps.getD s Go.undef)
  heap : HeapOK γ st.heap st.dead C w
  own : OwOK γ w
  fresh : ∀ b, w.heap.size ≤ b → γ.rd b = none
  base : γ.base ≤ w.heap.size
  nb : γ.nb = st.nb
theorem nbeq {a b : Nat} : Nat.beq a b = true ↔ a = b := ⟨Nat.eq_of_beq_eq_true, fun h => h ▸ Nat.beq_refl a⟩
theorem nbeq_false {a b : Nat} : Nat.beq a b = false ↔ a ≠ b := by
  cases h : Nat.beq a b with
  | true => simp [nbeq.1 h]
  | false => simp; intro e; rw [nbeq.2 e] at h; cases h
theorem nblt {a b : Nat} : Nat.blt a b = true ↔ a < b := by simp only [Nat.blt]; exact ⟨fun h => Nat.le_of_ble_eq_true h, fun h => Nat.ble_eq_true_of_le h⟩
theorem look_setR {r : R} : ∀ (l : List (Nat × R)) (t s : Nat), look (setR l t r) s = if s = t then some r else look l s
  | [], t, s => by
    simp only [setR, look]
    by_cases h : t = s
    · subst h; simp
    · have : (Nat.beq t s) = false := nbeq_false.2 h
      rw [this]; simp [Ne.symm h]
  | (u, q) :: l, t, s => by
    simp only [setR]
    cases h1 : Nat.beq u t with
    | true =>
      obtain rfl : u = t := nbeq.1 h1
      simp only [cond_true, look]
      by_cases h : u = s
      · subst h; simp
      · have : (Nat.beq u s) = false := nbeq_false.2 h
        rw [this]; simp [Ne.symm h]
    | false =>
      have hne : u ≠ t := nbeq_false.1 h1
      simp only [cond_false]
      cases h2 : Nat.blt t u with
      | true =>
        simp only [cond_true, look]
        by_cases h : t = s
        · subst h; simp
        · have : (Nat.beq t s) = false := nbeq_false.2 h
          rw [this]; simp [Ne.symm h]
      | false =>
        simp only [cond_false, look]
        by_cases h : u = s
        · subst h; simp [hne]
        · have : (Nat.beq u s) = false := nbeq_false.2 h
          rw [this]
          simp only [cond_false]
          exact look_setR l t s
theorem heap_lt_of {w : World} {b : Nat} {o : Obj} (h : w.heap[b]? = some o) : b < w.heap.size := (Array.getElem?_eq_some_iff.1 h).1
theorem cell_lt {w : World} {b i : Nat} {u : Value} (h : w.cell? ⟨b, i, none⟩ = some u) : b < w.heap.size := World.block_lt_of_cell? w _ h
theorem cell_block {w w' : World} {b i : Nat} (h : w'.heap[b]? = w.heap[b]?) : w'.cell? ⟨b, i, none⟩ = w.cell? ⟨b, i, none⟩ := by
  simp only [World.cell?, h]
theorem may_congr {γ γ' : Gh} {b i : Nat} (h : γ'.rd b = γ.rd b) : γ'.may b i ↔ γ.may b i := by simp only [Gh.may, h]
structure Grow (γ : Gh) (w : World) (γ' : Gh) (w' : World) (dst : Nat) : Prop where
  below : Below w.heap.size w w'
  bx : γ'.bx = γ.bx
  nb : γ'.nb = γ.nb
  base : γ'.base = γ.base
  rd : ∀ b, b < w.heap.size → γ'.rd b = γ.rd b
  fresh : ∀ b, w'.heap.size ≤ b → γ'.rd b = none
  ow : ∀ k, k ≠ .s dst → γ'.ow k = γ.ow k
  new : ∀ h, γ'.ow (.s dst) = some h → Owned γ' w' h ∧ (h.c ≠ 0 → ∀ b o s, h.A = some ⟨b, o, s⟩ → w.heap.size ≤ b)
theorem Grow.ext {γ γ' : Gh} {w w' : World} {dst : Nat} (h : Grow γ w γ' w' dst) (hb : γ.base ≤ w.heap.size) : Ext γ w γ' w' where
  bx := fun i b _ hi => by rw [h.bx]; exact hi
  nb := h.nb
  base := h.base
  size := h.below.size
  cells := fun b i u h1 h2 => by
    have hlt := cell_lt h2
    exact ⟨(cell_block (h.below.block b hlt)).trans h2, (may_congr (h.rd b hlt)).2 h1⟩
  low := h.below.mono hb
  rdlow := fun b hlt => h.rd b (Nat.lt_of_lt_of_le hlt hb)
theorem Owned.keep {γ γ' : Gh} {w w' : World} {h : Hdr} (ho : Owned γ w h) (hbx : γ'.bx = γ.bx) (hbase : γ'.base = γ.base)
    (hh : ∀ b, h.c ≠ 0 → h.A = some ⟨b, 0, none⟩ → b < w.heap.size → w'.heap[b]? = w.heap[b]? ∧ γ'.rd b = γ.rd b) : Owned γ' w' h := by
  refine ⟨ho.1, fun hc => ?_⟩
  obtain ⟨b, arr, ty, hA, hheap, hs, hr, hb, hn⟩ := ho.2 hc
  obtain ⟨e1, e2⟩ := hh b hc hA (heap_lt_of hheap)
  exact ⟨b, arr, ty, hA, e1.trans hheap, hs, e2.trans hr, hbase ▸ hb, hbx ▸ hn⟩
theorem tkD_mono {γ γ' : Gh} {dead dead' : List Tok} {C C' : List Nat} (hC : ∀ t, t ∈ C → t ∈ C') (hd : ∀ k, tokIn k dead = true → tokIn k dead' = true)
    (ho : ∀ k, (∀ t, k = .s t → t ∈ C) → tokIn k dead = false → tokIn k dead' = true ∨ γ'.ow k = γ.ow k) {d : D} {v : Value} (h : tkD γ dead C d v) : tkD γ' dead' C' d v := by
  cases d <;> simp only [tkD] at h ⊢
  case ow e xs k =>
    obtain ⟨h1, h2⟩ := h
    refine ⟨?_, fun t ht => hC t (h2 t ht)⟩
    cases hk : tokIn k dead with
    | true => exact .inl (hd k hk)
    | false =>
      rcases ho k h2 hk with h' | h'
      · exact .inl h'
      · rcases h1 with h1 | h1
        · rw [hk] at h1; cases h1
        · exact .inr (by rw [h']; exact h1)
theorem tkL_mono {γ γ' : Gh} {dead dead' : List Tok} {C C' : List Nat} (hC : ∀ t, t ∈ C → t ∈ C') (hd : ∀ k, tokIn k dead = true → tokIn k dead' = true)
    (ho : ∀ k, (∀ t, k = .s t → t ∈ C) → tokIn k dead = false → tokIn k dead' = true ∨ γ'.ow k = γ.ow k) : {ds : List D} → {vs : List Value} → tkL γ dead C ds vs → tkL γ' dead' C' ds vs
  | d :: ds, v :: vs, h => by
    simp only [tkL] at h ⊢
    exact ⟨tkD_mono hC hd ho h.1, tkL_mono hC hd ho h.2⟩
  | [], _, _ => by simp only [tkL]
  | _ :: _, [], _ => by simp only [tkL]
mutual
theorem tkR_mono {γ γ' : Gh} {dead dead' : List Tok} {C C' : List Nat} (hC : ∀ t, t ∈ C → t ∈ C') (hd : ∀ k, tokIn k dead = true → tokIn k dead' = true)
    (ho : ∀ k, (∀ t, k = .s t → t ∈ C) → tokIn k dead = false → tokIn k dead' = true ∨ γ'.ow k = γ.ow k) : (r : R) → (v : Value) → tkR γ dead C r v → tkR γ' dead' C' r v
  | .one d, v, h => by simp only [tkR] at h ⊢; exact tkD_mono hC hd ho h
  | .tup rs, v, h => by
    cases v <;> simp only [tkR] at h ⊢
    exact tkRs_mono hC hd ho rs _ h
  | .agg _, _, _ => by simp only [tkR]
  | .undef, _, _ => by simp only [tkR]
  | .skip, _, _ => by simp only [tkR]
theorem tkRs_mono {γ γ' : Gh} {dead dead' : List Tok} {C C' : List Nat} (hC : ∀ t, t ∈ C → t ∈ C') (hd : ∀ k, tokIn k dead = true → tokIn k dead' = true)
    (ho : ∀ k, (∀ t, k = .s t → t ∈ C) → tokIn k dead = false → tokIn k dead' = true ∨ γ'.ow k = γ.ow k) : (rs : List R) → (vs : List Value) → tkRs γ dead C rs vs → tkRs γ' dead' C' rs vs
  | r :: rs, v :: vs, h => by
    simp only [tkRs] at h ⊢
    exact ⟨tkR_mono hC hd ho r v h.1, tkRs_mono hC hd ho rs vs h.2⟩
  | [], _, _ => by simp only [tkRs]
  | _ :: _, [], _ => by simp only [tkRs]
end
theorem getD_put {tmps : Array Value} {t s : Nat} {v : Value} (ht : t < tmps.size) : (tmps.setIfInBounds t v).getD s Go.undef = if s = t then v else tmps.getD s Go.undef := by
  simp only [Array.getD_eq_getD_getElem?, Array.getElem?_setIfInBounds]
  by_cases h : t = s
  · subst h; simp [ht]
  · simp [h, Ne.symm h]
theorem Sim.grow {γ γ' : Gh} {st : St} {C : List Nat} {a : Act} {w w' : World} {dst : Nat} (h : Sim γ st C a w) (hC : dst ∉ C) (hg : Grow γ w γ' w' dst) :
    (∀ s r, look st.regs s = some r → rdR w' γ' r (a.tmps.getD s Go.undef) ∧ tkR γ' st.dead C r (a.tmps.getD s Go.undef)) ∧
    HeapOK γ' st.heap st.dead C w' ∧ OwOK γ' w' := by
  have he := hg.ext h.base
  have hsame : ∀ k, (∀ t, k = .s t → t ∈ C) → tokIn k st.dead = false → tokIn k st.dead = true ∨ γ'.ow k = γ.ow k := fun k hk _ =>
    .inr (hg.ow k (fun e => hC (hk dst e)))
  have hCC : ∀ t, t ∈ C → t ∈ C := fun _ ht => ht
  refine ⟨fun s r hr => ?_, ⟨?_, fun i ds b hi hb => ?_, ?_⟩, ⟨fun k hd hk => ?_, fun k k' hd hd' hk hk' hne => ?_⟩⟩
  · obtain ⟨h1, h2⟩ := h.regs s r hr
    exact ⟨rdR_mono he.sees (fun i b hi => by rw [hg.bx]; exact hi) r _ h1, tkR_mono hCC (fun _ x => x) hsame r _ h2⟩
  · rw [hg.bx]; exact h.heap.len
  · rw [hg.bx] at hb
    rcases h.heap.box i ds b hi hb with ⟨⟨arr, ty, e1, e2, e3⟩, e4, e5⟩ | g
    · have hlt := heap_lt_of e1
      exact .inl ⟨⟨arr, ty, (hg.below.block b hlt).trans e1, rdL_mono he.sees (fun i b hi => by rw [hg.bx]; exact hi) _ _ e2, tkL_mono hCC (fun _ x => x) hsame e3⟩, (hg.rd b hlt).trans e4, hg.base ▸ e5⟩
    · exact .inr (g.keep (Nat.le_of_eq hg.base) hg.below.size fun b' o ho _ => (hg.below.block b' (heap_lt_of ho)).trans ho)
  · rw [hg.bx]; exact h.heap.nodup
  · by_cases hkd : k = .s dst
    · subst hkd; exact (hg.new hd hk).1
    · rw [hg.ow k hkd] at hk
      exact (h.own.own k hd hk).keep hg.bx hg.base fun b _ _ hlt => ⟨hg.below.block b hlt, hg.rd b hlt⟩
  · intro hc hc' b b' hA hA'
    by_cases hkd : k = .s dst
    · subst hkd
      have h1 := (hg.new hd hk).2 hc b 0 none hA
      have hk'd : k' ≠ .s dst := fun e => hne e.symm
      rw [hg.ow k' hk'd] at hk'
      obtain ⟨b2, arr, ty, e1, e2, _⟩ := (h.own.own k' hd' hk').2 hc'
      have hb2 : b2 = b' := by rw [e1] at hA'; simpa using hA'
      have := heap_lt_of e2
      omega
    · by_cases hk'd : k' = .s dst
      · subst hk'd
        have h1 := (hg.new hd' hk').2 hc' b' 0 none hA'
        rw [hg.ow k hkd] at hk
        obtain ⟨b2, arr, ty, e1, e2, _⟩ := (h.own.own k hd hk).2 hc
        have hb2 : b2 = b := by rw [e1] at hA; simpa using hA
        have := heap_lt_of e2
        omega
      · rw [hg.ow k hkd] at hk
        rw [hg.ow k' hk'd] at hk'
        exact h.own.inj k k' hd hd' hk hk' hne hc hc' b b' hA hA'
theorem HeapOK.more {γ : Gh} {h : Heap} {dead : List Tok} {C C' : List Nat} {w : World} (hh : HeapOK γ h dead C w) (hC : ∀ t, t ∈ C → t ∈ C') : HeapOK γ h dead C' w :=
  ⟨hh.len, fun i ds b hi hb => by
    rcases hh.box i ds b hi hb with ⟨⟨arr, ty, e1, e2, e3⟩, e4, e5⟩ | g
    · exact .inl ⟨⟨arr, ty, e1, e2, tkL_mono hC (fun _ x => x) (fun _ _ _ => .inr rfl) e3⟩, e4, e5⟩
    · exact .inr g, hh.nodup⟩
theorem Sim.more {γ : Gh} {st : St} {C C' : List Nat} {a : Act} {w : World} (h : Sim γ st C a w) (hC : ∀ t, t ∈ C → t ∈ C') : Sim γ st C' a w :=
  ⟨h.dfr, h.sz, fun s r hr => ⟨(h.regs s r hr).1, tkR_mono hC (fun _ x => x) (fun _ _ _ => .inr rfl) r _ (h.regs s r hr).2⟩, h.heap.more hC, h.own, h.fresh, h.base, h.nb⟩
def addC (o : Option Nat) (C : List Nat) : List Nat := match o with
  | some t => t :: C
  | none => C
theorem Sim.put {γ : Gh} {st st' : St} {C : List Nat} {a : Act} {w : World} {o : Option Nat} {r : R} {v : Value} (h : Sim γ st C a w) (hp : st.put o r = some st')
    (hr : ∀ t, o = some t → rdR w γ r v ∧ tkR γ st.dead C r v) : Sim γ st' C (a.put o v) w := by
  cases o with
  | none =>
    simp only [St.put, Option.some.injEq] at hp
    subst hp
    exact h
  | some t =>
    simp only [St.put] at hp
    cases hb : Nat.blt t st.nt with
    | false => rw [hb] at hp; simp at hp
    | true =>
      rw [hb] at hp
      simp only [cond_true, Option.some.injEq] at hp
      subst hp
      have ht : t < a.tmps.size := by rw [h.sz]; exact nblt.1 hb
      obtain ⟨r1, r2⟩ := hr t rfl
      refine ⟨h.dfr, by simpa [Act.put] using h.sz, fun s q hq => ?_, h.heap, h.own, h.fresh, h.base, h.nb⟩
      simp only [Act.put]
      rw [getD_put ht]
      rw [look_setR] at hq
      by_cases hs : s = t
      · rw [if_pos hs] at hq ⊢
        cases hq
        exact ⟨r1, r2⟩
      · rw [if_neg hs] at hq ⊢
        exact h.regs s q hq
end Go.V
