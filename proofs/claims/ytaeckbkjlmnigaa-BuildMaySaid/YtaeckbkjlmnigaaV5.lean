/- V5: trees of ways, calls, contracts, arguments, helps, one behind the other. -/
import Derived.Test.YtaeckbkjlmnigaaV4
import Derived.Laws.Sem
import Derived.KernelRfl
import Derived.ChangeSame
import Derived.WalkKit
import Derived.ProofKit
import Derived.OpenShut
import Derived.ChangeKeysEq
import Derived.Laws.StructEq
import Derived.Carry
import Derived.IntWalk
namespace Go.V
open Go.RowKit
set_option linter.unusedVariables false
noncomputable section
inductive Uc where
  | us (l : Us) | one (i : Ps) | sum (l : Us) (r : Uc)
@[reducible] def Uc.den : Uc → Type
  | .us l => Us.den l
  | .one p => p.den
  | .sum l r => Us.den l ⊕ r.den
def Uc.dflt : (u : Uc) → u.den
  | .us l => Us.dflt l
  | .one p => p.dflt
  | .sum l _ => .inl (Us.dflt l)
abbrev Out := VExit × St
inductive OT where
  | nil
  | one (o : Out)
  | two (a b : OT)
  | al (u : Uc) (k : u.den → OT)
def oeq (l r : OT) : Bool := @decide (l = r) (Classical.propDecidable _)
theorem oeq_eq {l r : OT} (h : oeq l r = true) : l = r := by simpa [oeq] using h
theorem oeq_of {l r : OT} (h : l = r) : oeq l r = true := by simpa [oeq] using h
inductive Tr (α : Type) where
  | fail
  | leaf (x : α)
  | gd (c : Bool) (a : Tr α)
  | br (c : Bool) (a b : Tr α)
  | bnd (u : Uc) (x : Option u.den) (k : u.den → Tr α)
  | sum (u v : Uc) (x : u.den ⊕ v.den) (f : u.den → Tr α) (g : v.den → Tr α)
  | ob (l r : OT) (a : Tr α)
  | both (a b : Tr α)
namespace Tr
variable {α β : Type}
def den : Tr α → Option α
  | fail => none
  | leaf x => some x
  | gd c a => bif c then a.den else none
  | br c a b => bif c then a.den else b.den
  | bnd _ x k => x.bind fun y => (k y).den
  | sum _ _ x f g => either (fun u => (f u).den) (fun v => (g v).den) x
  | ob l r a => bif oeq l r then a.den else none
  | both a b => V.both a.den b.den
def map (f : α → β) : Tr α → Tr β
  | fail => fail
  | leaf x => leaf (f x)
  | gd c a => gd c (a.map f)
  | br c a b => br c (a.map f) (b.map f)
  | bnd u x k => bnd u x fun y => (k y).map f
  | sum u v x p q => sum u v x (fun y => (p y).map f) fun y => (q y).map f
  | ob l r a => ob l r (a.map f)
  | both _ _ => fail
def outs : Tr α → List α
  | fail => []
  | leaf x => [x]
  | gd _ a => a.outs
  | br _ a b => a.outs ++ b.outs
  | bnd u _ k => (k u.dflt).outs
  | sum u v _ f g => (f u.dflt).outs ++ (g v.dflt).outs
  | ob _ _ a => a.outs
  | both _ _ => []
def total : Tr α → Bool
  | leaf _ => true
  | gd c a => c && a.total
  | br _ a b => a.total && b.total
  | ob _ _ a => a.total
  | _ => false
def coll (f : α → β) (d : β) : Tr α → β
  | leaf x => f x
  | gd c a => bif c then a.coll f d else d
  | br c a b => bif c then a.coll f d else b.coll f d
  | ob _ _ a => a.coll f d
  | _ => d
def collO (f : α → Option β) : Tr α → Option β
  | fail => none
  | leaf x => f x
  | gd c a => bif c then a.collO f else none
  | br c a b => bif c then a.collO f else b.collO f
  | bnd _ x k => x.bind fun y => (k y).collO f
  | sum _ _ x p q => either (fun u => (p u).collO f) (fun v => (q v).collO f) x
  | ob _ _ a => a.collO f
  | both _ _ => none
def obsL (g : α → OT) : Tr α → OT
  | fail => .nil
  | leaf x => g x
  | gd _ a => a.obsL g
  | br _ a b => .two (a.obsL g) (b.obsL g)
  | bnd u _ k => .al u fun y => (k y).obsL g
  | sum u v _ p q => .two (.al u fun y => (p y).obsL g) (.al v fun y => (q y).obsL g)
  | ob l _ a => .two l (a.obsL g)
  | both a b => .two (a.obsL g) (b.obsL g)
def obsR (g : α → OT) : Tr α → OT
  | fail => .nil
  | leaf x => g x
  | gd _ a => a.obsR g
  | br _ a b => .two (a.obsR g) (b.obsR g)
  | bnd u _ k => .al u fun y => (k y).obsR g
  | sum u v _ p q => .two (.al u fun y => (p y).obsR g) (.al v fun y => (q y).obsR g)
  | ob _ r a => .two r (a.obsR g)
  | both a b => .two (a.obsR g) (b.obsR g)
theorem al_inj {u : Uc} {k k' : u.den → OT} (h : OT.al u k = OT.al u k') (y : u.den) : k y = k' y := by
  injection h with _ h
  exact congrFun h y
theorem den_map {f : α → β} {b : β} : ∀ {t : Tr α}, (t.map f).den = some b → ∃ a, t.den = some a ∧ f a = b
  | leaf x, h => ⟨x, rfl, by simpa [map, den] using h⟩
  | gd c a, h => by
    simp only [map, den] at h ⊢
    obtain ⟨rfl, h⟩ := bif_some h
    exact den_map h
  | br c a b, h => by
    cases c with
    | true => exact den_map (t := a) h
    | false => exact den_map (t := b) h
  | bnd u x k, h => by
    simp only [map, den] at h ⊢
    obtain ⟨y, rfl, h⟩ := Option.bind_eq_some_iff.1 h
    exact den_map (t := k y) h
  | sum u v x p q, h => by
    cases x with
    | inl y => exact den_map (t := p y) h
    | inr y => exact den_map (t := q y) h
  | ob l r a, h => by
    simp only [map, den] at h ⊢
    obtain ⟨h0, h⟩ := bif_some h
    rw [h0]
    exact den_map h
theorem total_den {g g' : α → OT} : ∀ {t : Tr α}, t.total = true → t.obsL g = t.obsR g' → ∃ a, t.den = some a ∧ g a = g' a
  | leaf x, h, ho => ⟨x, rfl, ho⟩
  | gd c a, h, ho => by
    simp only [total, Bool.and_eq_true] at h
    obtain ⟨rfl, h⟩ := h
    exact total_den (t := a) h ho
  | br c a b, h, ho => by
    simp only [total, Bool.and_eq_true] at h
    simp only [obsL, obsR, OT.two.injEq] at ho
    cases c with
    | true => exact total_den (t := a) h.1 ho.1
    | false => exact total_den (t := b) h.2 ho.2
  | ob l r a, h, ho => by
    simp only [obsL, obsR, OT.two.injEq] at ho
    simp only [den, oeq_of ho.1, cond_true]
    exact total_den (t := a) h ho.2
theorem coll_den {f : α → β} {d : β} {a : α} : ∀ {t : Tr α}, t.total = true → t.den = some a → t.coll f d = f a
  | leaf x, _, h => by
    simp only [den, Option.some.injEq] at h
    rw [← h]; rfl
  | gd c a, h, hd => by
    simp only [total, Bool.and_eq_true] at h
    obtain ⟨rfl, h⟩ := h
    exact coll_den (t := a) h hd
  | br c a b, h, hd => by
    simp only [total, Bool.and_eq_true] at h
    cases c with
    | true => exact coll_den (t := a) h.1 hd
    | false => exact coll_den (t := b) h.2 hd
  | ob l r a, h, hd => by
    simp only [den] at hd
    exact coll_den (t := a) h (bif_some hd).2
theorem collO_den {f : α → Option β} {b : β} {g g' : α → OT} : ∀ {t : Tr α}, t.collO f = some b → t.obsL g = t.obsR g' → ∃ a, t.den = some a ∧ f a = some b ∧ g a = g' a
  | leaf x, h, ho => ⟨x, rfl, h, ho⟩
  | gd c a, h, ho => by
    simp only [collO, den] at h ⊢
    obtain ⟨rfl, h⟩ := bif_some h
    exact collO_den h ho
  | br c a b, h, ho => by
    simp only [obsL, obsR, OT.two.injEq] at ho
    cases c with
    | true => exact collO_den (t := a) h ho.1
    | false => exact collO_den (t := b) h ho.2
  | bnd u x k, h, ho => by
    simp only [collO, den] at h ⊢
    obtain ⟨y, rfl, h⟩ := Option.bind_eq_some_iff.1 h
    exact collO_den (t := k y) h (al_inj ho y)
  | sum u v x p q, h, ho => by
    simp only [obsL, obsR, OT.two.injEq] at ho
    cases x with
    | inl y => exact collO_den (t := p y) h (al_inj ho.1 y)
    | inr y => exact collO_den (t := q y) h (al_inj ho.2 y)
  | ob l r a, h, ho => by
    simp only [obsL, obsR, OT.two.injEq] at ho
    simp only [den, oeq_of ho.1, cond_true]
    exact collO_den (t := a) h ho.2
def ends : Tr Bool → Bool
  | leaf b => b
  | gd _ a => a.ends
  | br _ a b => a.ends && b.ends
  | ob _ _ a => a.ends
  | _ => false
theorem ends_den {f : α → Bool} {a : α} : ∀ {t : Tr α}, (t.map f).ends = true → t.den = some a → f a = true
  | leaf x, h, hd => by
    simp only [den, Option.some.injEq] at hd
    exact hd ▸ h
  | gd c a, h, hd => by
    simp only [den] at hd
    exact ends_den (t := a) h (bif_some hd).2
  | br c a b, h, hd => by
    simp only [map, ends, Bool.and_eq_true] at h
    cases c with
    | true => exact ends_den (t := a) h.1 hd
    | false => exact ends_den (t := b) h.2 hd
  | ob l r a, h, hd => by
    simp only [den] at hd
    exact ends_den (t := a) h (bif_some hd).2
end Tr
inductive Pos where
  | r (s : Nat) | a (s i : Nat) | t (s i : Nat) | u (s i j : Nat) | h (i j : Nat) | q (ps : Ps) (p : Pos)
inductive H where
  | e | c (a b : H) | l (a : H) | x (o : H) | j (i : H) (pf : Bool) (cs : H) | k (ps : List Pos) (h : H) (n : H) | w (b : H) (ps : List Pos) (cs : H)
def Pos.plain : Pos → Pos
  | .q _ p => p.plain
  | p => p
def getP (s : St) : Pos → Option D
  | .r t => match look s.regs t with
    | some (.one d) => some d
    | _ => none
  | .a t i => match look s.regs t with
    | some (.agg ds) => ds[i]?
    | _ => none
  | .t t i => match look s.regs t with
    | some (.tup rs) => (match rs[i]? with
      | some (.one d) => some d
      | _ => none)
    | _ => none
  | .u t i j => match look s.regs t with
    | some (.tup rs) => (match rs[i]? with
      | some (.agg ds) => ds[j]?
      | _ => none)
    | _ => none
  | .h i j => match s.heap[i]? with
    | some ds => ds[j]?
    | none => none
  | .q _ p => getP s p
def setP (s : St) (d : D) : Pos → St
  | .r t => { s with regs := setR s.regs t (.one d) }
  | .a t i => match look s.regs t with
    | some (.agg ds) => { s with regs := setR s.regs t (.agg (ds.set i d)) }
    | _ => s
  | .t t i => match look s.regs t with
    | some (.tup rs) => { s with regs := setR s.regs t (.tup (rs.set i (.one d))) }
    | _ => s
  | .u t i j => match look s.regs t with
    | some (.tup rs) => (match rs[i]? with
      | some (.agg ds) => { s with regs := setR s.regs t (.tup (rs.set i (.agg (ds.set j d)))) }
      | _ => s)
    | _ => s
  | .h i j => match s.heap[i]? with
    | some ds => { s with heap := setAt s.heap i (ds.set j d) }
    | none => s
  | .q _ p => setP s d p
mutual
def D.shp : D → Ps
  | .g t _ => .g t
  | .ow e _ _ => .ow e
  | .fn f caps => .fn f (shpL caps)
  | .cell c => .cell (shpL c)
  | .ref i o => .ref i o
  | .nilFn => .nilFn
  | .nilPtr => .nilPtr
  | .undef => .undef
  | .nilS _ => .undef
  | .vec t _ => .vec t
  | .vref i _ => .vref i
  | .vat _ _ => .undef
  | .chn i => .chn i
  | .sem _ => .sem
  | .alt p q _ => .alt p q
def shpL : List D → Pss
  | [] => .nil
  | d :: ds => .cons d.shp (shpL ds)
end
def posShp (t : St) : Pos → Ps
  | .q ps _ => ps
  | p => match getP t p with
    | some d => d.shp
    | none => .undef
mutual
def Ps.rd : (p : Ps) → D → Option p.den
  | .g t, d => unLeaf t d
  | .ow e, .ow e' xs _ => if h : Ts.beq e' e = true then some (castL h xs) else none
  | .fn f caps, .fn f' ds => bif Nat.beq f f' then caps.rd ds else none
  | .cell c, .cell ds => c.rd ds
  | .ref _ _, _ => some ()
  | .nilFn, .nilFn => some ()
  | .nilPtr, _ => some ()
  | .undef, _ => some ()
  | .owh e _ _, .ow e' xs _ => if h : Ts.beq e' e = true then some (castL h xs) else none
  | .vec t, .vec t' xs => if h : T.beq t' t = true then some (T.eq_of_beq h ▸ xs) else none
  | .vref _, .vref _ n => some n
  | .chn _, _ => some ()
  | .sem, .sem cs => some cs
  | .alt a b, .alt p q x => if h : Ps.beq (.alt p q) (.alt a b) = true then some (Ps.eq_of_beq h ▸ x) else none
  | _, _ => none
def Pss.rd : (ps : Pss) → List D → Option ps.den
  | .nil, [] => some ()
  | .cons p ps, d :: ds => match p.rd d with
    | some x => match ps.rd ds with
      | some y => some (x, y)
      | none => none
    | none => none
  | _, _ => none
end
def Ps.altD : (p : Ps) → D → Option p.den
  | .alt a b, d => match a.altD d with
    | some u => some (.inl u)
    | none => match b.altD d with
      | some v => some (.inr v)
      | none => none
  | .g t, d => unLeaf t d
  | .fn f caps, .fn f' ds => bif Nat.beq f f' then caps.rd ds else none
  | .nilFn, .nilFn => some ()
  | _, _ => none
mutual
def Ps.altOK : Ps → Bool
  | .g _ => true
  | .fn _ caps => caps.altOK
  | .nilFn => true
  | .cell c => c.altOK
  | .alt a b => a.altOK && b.altOK
  | _ => false
def Pss.altOK : Pss → Bool
  | .nil => true
  | .cons p ps => p.altOK && ps.altOK
end
def Ps.inB : Ps → Ps → Bool
  | .alt a b, p => p.beq a || b.inB p
  | b, p => p.beq b
def Ps.injT : (b p : Ps) → p.den → b.den
  | .alt a b, p, x => if h : p.beq a = true then .inl (Ps.eq_of_beq h ▸ x) else .inr (b.injT p x)
  | b, p, x => if h : p.beq b = true then Ps.eq_of_beq h ▸ x else b.dflt
def Ps.allIn (b : Ps) : Ps → Bool
  | .alt p q => b.inB p && Ps.allIn b q
  | p => b.inB p
def Ps.reT (b : Ps) : (p : Ps) → p.den → b.den
  | .alt p q, x => either (fun u => b.injT p u) (fun v => Ps.reT b q v) x
  | p, x => b.injT p x
def Pos.simple : Pos → Bool
  | .r _ => true
  | .a _ _ => true
  | .h _ _ => true
  | _ => false
def liftP (s : St) : Pos → St
  | .q (.alt a b) p => match getP s p with
    | some (.alt p' q x) => bif Ps.beq (.alt p' q) (.alt a b) then s else bif p.simple && Ps.allIn (.alt a b) (.alt p' q) then setP s (.alt a b (Ps.reT (.alt a b) (.alt p' q) x)) p else s
    | some d => bif p.simple && Ps.altOK (.alt a b) then match Ps.altD (.alt a b) d with
        | some y => setP s (.alt a b y) p
        | none => s
      else s
    | none => s
  | _ => s
def liftS : List Pos → St → St
  | [], s => s
  | p :: l, s => liftS l (liftP s p)
def itsP (t : St) : List Pos → Us
  | [] => []
  | p :: l => .one (posShp t p) :: itsP t l
def rdAt (t s : St) (p : Pos) : Option (posShp t p).den := match getP s p with
  | some d => (posShp t p).rd d
  | none => none
def pkS (t : St) : (l : List Pos) → St → Option (Us.den (itsP t l))
  | [], _ => some ()
  | [p], s => rdAt t s p
  | p :: q :: l, s => match rdAt t s p, pkS t (q :: l) s with
    | some x, some y => some (show Us.den (itsP t (p :: q :: l)) from (x, y))
    | _, _ => none
def putW (d : Option D) (p : Ps) (y : p.den) : D := match d, p, y with
  | some (.ow e _ k), .ow e', y => .ow e' y k
  | _, p, y => p.enc y
def fillP (t : St) : (l : List Pos) → Us.den (itsP t l) → St → St
  | [], _, s => s
  | [p], y, s => setP s (putW (getP t p) (posShp t p) y) p
  | p :: q :: l, y, s => fillP t (q :: l) (show (posShp t p).den × Us.den (itsP t (q :: l)) from y).2 (setP s (putW (getP t p) (posShp t p) (show (posShp t p).den × Us.den (itsP t (q :: l)) from y).1) p)
def reS (t : St) (l : List Pos) (s : St) : St := fillP t l ((pkS t l s).getD (Us.dflt _)) t
def VExit.rank : VExit → List Nat
  | .normal => [0, 0]
  | .exit j => [1, j]
  | .ret => [2, 0]
def keyOf (o : Out) : List Nat := o.1.rank ++ o.2.heap.map List.length
def keyB : List Nat → List Nat → Bool
  | [], [] => true
  | a :: l, b :: m => a.beq b && keyB l m
  | _, _ => false
def keyLt : List Nat → List Nat → Bool
  | [], _ :: _ => true
  | a :: l, b :: m => a.blt b || (a.beq b && keyLt l m)
  | _, _ => false
def insKey (k : List Nat) : List (List Nat) → List (List Nat)
  | [] => [k]
  | x :: l => bif keyB k x then x :: l else bif keyLt k x then k :: x :: l else x :: insKey k l
def keysOf : List Out → List (List Nat)
  | [] => []
  | o :: l => insKey (keyOf o) (keysOf l)
def firstOf (k : List Nat) : List Out → Option Out
  | [] => none
  | o :: l => bif keyB (keyOf o) k then some o else firstOf k l
structure Cls where
  key : List Nat
  t : Out
  ps : List Pos
  h : H
def mkCls (L : List Out) : List (List Nat) → H → List Cls
  | k :: ks, .k ps h n => match firstOf k L with
    | some t => ⟨k, t, ps, h⟩ :: mkCls L ks n
    | none => []
  | _, _ => []
def posesOf : H → List Pos
  | .k ps _ n => ps ++ posesOf n
  | _ => []
def ucOf : List Cls → Uc
  | [] => .us []
  | [c] => .us (itsP c.t.2 c.ps)
  | c :: d :: l => .sum (itsP c.t.2 c.ps) (ucOf (d :: l))
def pkC : (l : List Cls) → Out → Option (ucOf l).den
  | [], _ => none
  | [c], o => bif keyB (keyOf o) c.key then pkS c.t.2 c.ps o.2 else none
  | c :: d :: l, o => bif keyB (keyOf o) c.key then (match pkS c.t.2 c.ps o.2 with
      | some y => some (show (ucOf (c :: d :: l)).den from .inl y)
      | none => none)
    else match pkC (d :: l) o with
      | some y => some (show (ucOf (c :: d :: l)).den from .inr y)
      | none => none
def unC {β : Type} : (l : List Cls) → (ucOf l).den → (VExit → St → H → Tr β) → Tr β
  | [], _, _ => .fail
  | [c], y, k => k c.t.1 (fillP c.t.2 c.ps y c.t.2) c.h
  | c :: d :: l, y, k => .sum (.us (itsP c.t.2 c.ps)) (ucOf (d :: l)) y (fun u => k c.t.1 (fillP c.t.2 c.ps u c.t.2) c.h) fun v => unC (d :: l) v k
def reC : List Cls → Out → Out
  | [], o => o
  | [c], o => (c.t.1, reS c.t.2 c.ps o.2)
  | c :: d :: l, o => bif keyB (keyOf o) c.key then (c.t.1, reS c.t.2 c.ps o.2) else reC (d :: l) o
def cpRegs : List (Nat × R) → List (Nat × R)
  | [] => []
  | (s, r) :: l => (s, r) :: cpRegs l
def cpRow : List D → List D
  | [] => []
  | d :: l => d :: cpRow l
def cpHeap : Heap → Heap
  | [] => []
  | ds :: h => cpRow ds :: cpHeap h
def cpO (o : Out) : Out := (o.1, ⟨cpRegs o.2.regs, cpHeap o.2.heap, o.2.dead, o.2.nt, o.2.nb⟩)
theorem cpRegs_eq : ∀ l : List (Nat × R), cpRegs l = l
  | [] => rfl
  | (s, r) :: l => by rw [cpRegs, cpRegs_eq l]
theorem cpRow_eq : ∀ l : List D, cpRow l = l
  | [] => rfl
  | d :: l => by rw [cpRow, cpRow_eq l]
theorem cpHeap_eq : ∀ l : Heap, cpHeap l = l
  | [] => rfl
  | d :: l => by rw [cpHeap, cpRow_eq, cpHeap_eq l]
theorem cpO_eq (o : Out) : cpO o = o := by
  unfold cpO
  rw [cpRegs_eq, cpHeap_eq]
def joinT {β : Type} (T0 : Tr Out) (pf : Bool) (cs : H) (k : VExit → St → H → Tr β) : Tr β :=
  match T0.map fun o => (o.1, liftS (posesOf cs) o.2) with
  | T => match mkCls T.outs (keysOf T.outs) cs with
    | l => .ob (T.obsL .one) (T.obsR fun o => .one (cpO (reC l o))) (bif pf then (match l with
        | [c] => bif T.total then k c.t.1 (fillP c.t.2 c.ps (T.coll (fun o => (pkS c.t.2 c.ps o.2).getD (Us.dflt _)) (Us.dflt _)) c.t.2) c.h else .fail
        | _ => .fail)
      else .bnd (ucOf l) (T.collO (pkC l)) fun y => unC l y k)
def iterN {σ ζ : Type} (p : σ → Option (σ ⊕ ζ)) : Nat → σ → Option ζ
  | 0, _ => none
  | n + 1, s => (p s).bind (either (fun s' => iterN p n s') some)
def iterO {σ ζ : Type} (p : σ → Option (σ ⊕ ζ)) (n : Nat) (x : Option σ) : Option ζ := Option.rec (motive := fun _ => Option ζ) none (fun y => iterN p n y) x
theorem iterO_eq {σ ζ : Type} {p : σ → Option (σ ⊕ ζ)} {n : Nat} {x : Option σ} : iterO p n x = x.bind (iterN p n) := by cases x <;> rfl
def notN : List Nat → Bool
  | 0 :: _ => false
  | _ => true
def pkL (t : St) (ps : List Pos) (l : List Cls) (o : Out) : Option (Us.den (itsP t ps) ⊕ (ucOf l).den) := match o.1 with
  | .normal => (match pkS t ps o.2 with
    | some y => some (.inl y)
    | none => none)
  | _ => match pkC l o with
    | some y => some (.inr y)
    | none => none
def reL (t : St) (ps : List Pos) (l : List Cls) (o : Out) : Out := match o.1 with
  | .normal => (.normal, reS t ps o.2)
  | _ => reC l o
def liftO (ps : List Pos) (o : Out) : Out := (o.1, liftS ps o.2)
def bodyL (body : St → Tr Out) (t : St) (ps qs : List Pos) (y : Us.den (itsP t ps)) : Tr Out := (body (fillP t ps y t)).map (liftO qs)
def loopT {β : Type} (L : Nat) (t0 : St) (ps : List Pos) (cs : H) (body : St → Tr Out) (k : VExit → St → H → Tr β) : Tr β :=
  match liftS ps t0 with
  | t => match bodyL body t ps (ps ++ posesOf cs) with
    | B => match mkCls (B (Us.dflt _)).outs ((keysOf (B (Us.dflt _)).outs).filter notN) cs with
      | l => .ob (.two (.one (.normal, t)) (.al (.us (itsP t ps)) fun y => (B y).obsL .one)) (.two (.one (cpO (.normal, reS t ps t))) (.al (.us (itsP t ps)) fun y => (B y).obsR fun o => .one (cpO (reL t ps l o))))
          (.bnd (ucOf l) (iterO (fun y => (B y).collO (pkL t ps l)) L (pkS t ps t)) fun x => unC l x k)
@[reducible] def tB (α : Type) : Br := ⟨Tr α, .fail, .gd, fun c a b => bif c then a else b, fun u x k => .bnd (.us u) x k, fun p q x f g => .sum (.one p) (.one q) x f g, .both⟩
@[reducible] def hB (α : Type) : Br := ⟨H → Tr α, fun _ => .fail, fun c a o => .gd c (a o), fun c a b o => match o with
    | .c h1 h2 => .br c (a h1) (b h2)
    | .l h => bif c then a h else b h
    | h => bif c then a h else b h,
  fun u x k o => .bnd (.us u) x fun y => k y o, fun p q x f g o => match o with
    | .c h1 h2 => .sum (.one p) (.one q) x (fun u => f u h1) fun v => g v h2
    | h => .sum (.one p) (.one q) x (fun u => f u h) fun v => g v h, fun a b o => .both (a o) (b o)⟩
def regT {β : Type} (E : Env) (f : Nat) (cp : CallP) (ce : CallE) (id : Nat) (ops : List Oper) (draw : Bool) (st : St) (h : H) (k : St → Tr β) : Tr β := match h with
  | .x o => regionB (hB β) E f cp ce id ops draw st (fun st _ => k st) o
  | _ => regionB (tB β) E f cp ce id ops draw st k
def blkT {β : Type} (id : Nat) (k : VExit → St → H → Tr β) : VExit → St → H → Tr β := fun e s h => match e with
  | .normal => k .normal s h
  | .exit j => bif j.beq id then k .normal s h else k (.exit j) s h
  | .ret => k .ret s h
def intoO (E : Env) (f : Nat) (b : Code) : VExit → St → H → Tr Out := fun e s _ => match e with
  | .normal => .leaf (.normal, s.into E f b)
  | e => .leaf (e, s)
def cutO (n0 : Nat) : VExit → St → H → Tr Out := fun e s _ => match e with
  | .ret => .leaf (.ret, s)
  | e => match s.trunc n0 with
    | some s => .leaf (e, s)
    | none => .fail
def isReg : Code → Option (Nat × Array Oper × Bool)
  | .region id ops draw => some (id, ops, draw)
  | _ => none
theorem isReg_eq {c : Code} {id : Nat} {ops : Array Oper} {draw : Bool} (h : isReg c = some (id, ops, draw)) : c = .region id ops draw := by
  cases c <;> simp only [isReg, reduceCtorEq, Option.some.injEq, Prod.mk.injEq] at h
  obtain ⟨rfl, rfl, rfl⟩ := h
  rfl
def runT (E : Env) (f : Nat) (cp : CallP) (ce : CallE) : Code → (β : Type) → St → H → (VExit → St → H → Tr β) → Tr β
  | .skip, _, st, h, k => k .normal st h
  | .region id ops draw, β, st, h, k => match h with
    | .j hi pf cs => joinT (regT E f cp ce id ops.toList draw st hi fun st => .leaf (.normal, st)) pf cs k
    | .x o => regT E f cp ce id ops.toList draw st (.x o) fun st => k .normal st .e
    | .l h => regT E f cp ce id ops.toList draw st .e fun st => k .normal st h
    | h => regT E f cp ce id ops.toList draw st .e fun st => k .normal st h
  | .seq a b, β, st, h, k => match h with
    | .j hi pf cs => joinT (runT E f cp ce a Out st hi (intoO E f b)) pf cs fun e s h => match e with
      | .normal => runT E f cp ce b β s h k
      | e => k e s h
    | .l h => (match isReg a with
      | some (id, ops, draw) => regT E f cp ce id ops.toList draw st .e fun s => runT E f cp ce b β (s.into E f b) h k
      | none => runT E f cp ce a β st h fun e s h => match e with
        | .normal => runT E f cp ce b β (s.into E f b) h k
        | e => k e s h)
    | h => runT E f cp ce a β st h fun e s h => match e with
      | .normal => runT E f cp ce b β (s.into E f b) h k
      | e => k e s h
  | .cond c x y, β, st, h, k => match evalO E 0 (look st.regs) c with
    | some (.one (.g .bool b)) => match h with
      | .c h1 h2 => .br b (runT E f cp ce x β (st.past E f c) h1 k) (runT E f cp ce y β (st.past E f c) h2 k)
      | .l h => bif b then runT E f cp ce x β (st.past E f c) h k else runT E f cp ce y β (st.past E f c) h k
      | h => bif b then runT E f cp ce x β (st.past E f c) h k else runT E f cp ce y β (st.past E f c) h k
    | _ => .fail
  | .block id c, β, st, h, k => runT E f cp ce c β st h (blkT id k)
  | .loop c, β, st, h, k => match h with
    | .w hb ps cs => loopT E.L st ps cs (fun s => runT E f cp ce c Out s hb (cutO st.heap.length)) k
    | _ => .fail
  | .exit id, _, st, h, k => k (.exit id) st h
  | .ret, _, st, h, k => k .ret st h
  | _, _, _, _, _ => .fail
end
end Go.V
namespace Go.V
open Go.RowKit
set_option linter.unusedVariables false
section
variable {w : World} {γ : Gh}
mutual
theorem rdP_of : (p : Ps) → (d : D) → (x : p.den) → (v : Value) → p.altOK = true → p.rd d = some x → rdD w γ d v → rdP w γ p x v
  | .g t, d, x, v, _, h, hv => by
    simp only [Ps.rd] at h
    unfold unLeaf at h
    split at h
    · rename_i u y
      split at h
      · rename_i hb
        have := T.eq_of_beq hb
        subst this
        cases h
        simp only [rdP]
        simp only [rdD] at hv
        exact hv
      · cases h
    · cases h
  | .fn f caps, d, x, v, ho, h, hv => by
    cases d <;> simp only [Ps.rd, reduceCtorEq] at h
    rename_i f' ds
    obtain ⟨hb, h'⟩ := bif_some h
    clear h
    obtain rfl := nbeq.1 hb
    simp only [Ps.altOK] at ho
    simp only [rdD] at hv
    simp only [rdP]
    obtain ⟨vs, h1, h2⟩ := hv
    exact ⟨vs, h1, rdPL_of caps ds x _ ho h' h2⟩
  | .nilFn, d, x, v, _, h, hv => by
    cases d <;> simp only [Ps.rd, reduceCtorEq] at h
    simpa only [rdP, rdD] using hv
  | .cell c, d, x, v, ho, h, hv => by
    cases d <;> simp only [Ps.rd, reduceCtorEq] at h
    rename_i ds
    simp only [Ps.altOK] at ho
    simp only [rdD] at hv
    simp only [rdP]
    obtain ⟨b, o, h1, h2⟩ := hv
    exact ⟨b, o, h1, rdPC_of c ds x b o ho h h2⟩
  | .alt a b, d, x, v, _, h, hv => by
    cases d <;> simp only [Ps.rd, reduceCtorEq] at h
    rename_i p q y
    split at h
    · rename_i hb
      have e := Ps.eq_of_beq hb
      simp only [Ps.alt.injEq] at e
      obtain ⟨rfl, rfl⟩ := e
      cases h
      simpa only [rdD] using hv
    · cases h
  | .ow _, _, _, _, ho, _, _ => by simp only [Ps.altOK, Bool.false_eq_true] at ho
  | .ref _ _, _, _, _, ho, _, _ => by simp only [Ps.altOK, Bool.false_eq_true] at ho
  | .nilPtr, _, _, _, ho, _, _ => by simp only [Ps.altOK, Bool.false_eq_true] at ho
  | .undef, _, _, _, ho, _, _ => by simp only [Ps.altOK, Bool.false_eq_true] at ho
  | .owh _ _ _, _, _, _, ho, _, _ => by simp only [Ps.altOK, Bool.false_eq_true] at ho
  | .vec _, _, _, _, ho, _, _ => by simp only [Ps.altOK, Bool.false_eq_true] at ho
  | .vref _, _, _, _, ho, _, _ => by simp only [Ps.altOK, Bool.false_eq_true] at ho
  | .chn _, _, _, _, ho, _, _ => by simp only [Ps.altOK, Bool.false_eq_true] at ho
  | .sem, _, _, _, ho, _, _ => by simp only [Ps.altOK, Bool.false_eq_true] at ho
theorem rdPL_of : (ps : Pss) → (ds : List D) → (x : ps.den) → (vs : List Value) → ps.altOK = true → ps.rd ds = some x → rdL w γ ds vs → rdPL w γ ps x vs
  | .nil, [], x, [], _, h, hv => by simp only [rdPL]
  | .nil, [], x, _ :: _, _, h, hv => by simp only [rdL] at hv
  | .nil, _ :: _, x, vs, _, h, hv => by simp only [Pss.rd, reduceCtorEq] at h
  | .cons p ps, [], x, vs, ho, h, hv => by simp only [Pss.rd, reduceCtorEq] at h
  | .cons p ps, d :: ds, x, [], ho, h, hv => by simp only [rdL] at hv
  | .cons p ps, d :: ds, x, v :: vs, ho, h, hv => by
    simp only [Pss.rd] at h
    simp only [Pss.altOK, Bool.and_eq_true] at ho
    simp only [rdL] at hv
    split at h
    · rename_i y hy
      split at h
      · rename_i z hz
        cases h
        simp only [rdPL]
        exact ⟨rdP_of p d y v ho.1 hy hv.1, rdPL_of ps ds z vs ho.2 hz hv.2⟩
      · cases h
    · cases h
theorem rdPC_of : (ps : Pss) → (ds : List D) → (x : ps.den) → (b o : Nat) → ps.altOK = true → ps.rd ds = some x → rdC w γ ds b o → rdPC w γ ps x b o
  | .nil, ds, x, b, o, _, h, hv => by simp only [rdPC]
  | .cons p ps, [], x, b, o, ho, h, hv => by simp only [Pss.rd, reduceCtorEq] at h
  | .cons p ps, d :: ds, x, b, o, ho, h, hv => by
    simp only [Pss.rd] at h
    simp only [Pss.altOK, Bool.and_eq_true] at ho
    simp only [rdC] at hv
    split at h
    · rename_i y hy
      split at h
      · rename_i z hz
        cases h
        simp only [rdPC]
        obtain ⟨⟨u, h1, h2, h3⟩, h4⟩ := hv
        exact ⟨⟨u, h1, h2, rdP_of p d y u ho.1 hy h3⟩, rdPC_of ps ds z b (o + 1) ho.2 hz h4⟩
      · cases h
    · cases h
end
theorem rdP_altD {w : World} {γ : Gh} : (p : Ps) → (d : D) → (x : p.den) → p.altOK = true → p.altD d = some x → (∀ v, rdD w γ d v → rdP w γ p x v)
  | .alt a b, d, x, ho, h, v, hv => by
    simp only [Ps.altD] at h
    simp only [Ps.altOK, Bool.and_eq_true] at ho
    split at h
    · rename_i u hu
      cases h
      simp only [rdP]
      exact rdP_altD a d u ho.1 hu v hv
    · split at h
      · rename_i u hu
        cases h
        simp only [rdP]
        exact rdP_altD b d u ho.2 hu v hv
      · cases h
  | .g t, d, x, ho, h, v, hv => rdP_of (.g t) d x v ho (by simpa only [Ps.altD, Ps.rd] using h) hv
  | .fn f caps, d, x, ho, h, v, hv => by
    cases d <;> simp only [Ps.altD, reduceCtorEq] at h
    exact rdP_of (.fn f caps) (.fn _ _) x v ho (by simpa only [Ps.rd] using h) hv
  | .nilFn, d, x, ho, h, v, hv => by
    cases d <;> simp only [Ps.altD, reduceCtorEq] at h
    simpa only [rdP, rdD] using hv
  | .cell _, _, _, _, h, _, _ => by simp only [Ps.altD, reduceCtorEq] at h
  | .ow _, _, _, _, h, _, _ => by simp only [Ps.altD, reduceCtorEq] at h
  | .ref _ _, _, _, _, h, _, _ => by simp only [Ps.altD, reduceCtorEq] at h
  | .nilPtr, _, _, _, h, _, _ => by simp only [Ps.altD, reduceCtorEq] at h
  | .undef, _, _, _, h, _, _ => by simp only [Ps.altD, reduceCtorEq] at h
  | .owh _ _ _, _, _, _, h, _, _ => by simp only [Ps.altD, reduceCtorEq] at h
  | .vec _, _, _, _, h, _, _ => by simp only [Ps.altD, reduceCtorEq] at h
  | .vref _, _, _, _, h, _, _ => by simp only [Ps.altD, reduceCtorEq] at h
  | .chn _, _, _, _, h, _, _ => by simp only [Ps.altD, reduceCtorEq] at h
  | .sem, _, _, _, h, _, _ => by simp only [Ps.altD, reduceCtorEq] at h
theorem altD_not : (p : Ps) → (d : D) → (x : p.den) → p.altD d = some x → (∀ t xs, d ≠ .vec t xs) ∧ ∀ cs, d ≠ .sem cs
  | .alt a b, d, x, h => by
    simp only [Ps.altD] at h
    split at h
    · rename_i u hu
      exact altD_not a d u hu
    · split at h
      · rename_i u hu
        exact altD_not b d u hu
      · cases h
  | .g t, d, x, h => by
    cases d <;> simp only [Ps.altD, unLeaf, reduceCtorEq] at h
    exact ⟨fun _ _ e => (by cases e), fun _ e => (by cases e)⟩
  | .fn f caps, d, x, h => by
    cases d <;> simp only [Ps.altD, reduceCtorEq] at h
    exact ⟨fun _ _ e => (by cases e), fun _ e => (by cases e)⟩
  | .nilFn, d, x, h => by
    cases d <;> simp only [Ps.altD, reduceCtorEq] at h
    exact ⟨fun _ _ e => (by cases e), fun _ e => (by cases e)⟩
  | .cell _, _, _, h => by simp only [Ps.altD, reduceCtorEq] at h
  | .ow _, _, _, h => by simp only [Ps.altD, reduceCtorEq] at h
  | .ref _ _, _, _, h => by simp only [Ps.altD, reduceCtorEq] at h
  | .nilPtr, _, _, h => by simp only [Ps.altD, reduceCtorEq] at h
  | .undef, _, _, h => by simp only [Ps.altD, reduceCtorEq] at h
  | .owh _ _ _, _, _, h => by simp only [Ps.altD, reduceCtorEq] at h
  | .vec _, _, _, h => by simp only [Ps.altD, reduceCtorEq] at h
  | .vref _, _, _, h => by simp only [Ps.altD, reduceCtorEq] at h
  | .chn _, _, _, h => by simp only [Ps.altD, reduceCtorEq] at h
  | .sem, _, _, h => by simp only [Ps.altD, reduceCtorEq] at h
theorem rdP_injT : (b p : Ps) → (x : p.den) → (v : Value) → b.inB p = true → rdP w γ p x v → rdP w γ b (b.injT p x) v
  | .alt a b, p, x, v, hb, h => by
    simp only [Ps.injT]
    split
    · rename_i e
      have := Ps.eq_of_beq e
      subst this
      simpa only [rdP] using h
    · rename_i e
      simp only [Ps.inB, Bool.or_eq_true] at hb
      simp only [rdP]
      exact rdP_injT b p x v (hb.resolve_left e) h
  | .g _, p, x, v, hb, h => by simp only [Ps.inB] at hb; have := Ps.eq_of_beq hb; subst this; simp only [Ps.injT, hb, dite_true]; exact h
  | .ow _, p, x, v, hb, h => by simp only [Ps.inB] at hb; have := Ps.eq_of_beq hb; subst this; simp only [Ps.injT, hb, dite_true]; exact h
  | .fn _ _, p, x, v, hb, h => by simp only [Ps.inB] at hb; have := Ps.eq_of_beq hb; subst this; simp only [Ps.injT, hb, dite_true]; exact h
  | .cell _, p, x, v, hb, h => by simp only [Ps.inB] at hb; have := Ps.eq_of_beq hb; subst this; simp only [Ps.injT, hb, dite_true]; exact h
  | .ref _ _, p, x, v, hb, h => by simp only [Ps.inB] at hb; have := Ps.eq_of_beq hb; subst this; simp only [Ps.injT, hb, dite_true]; exact h
  | .nilFn, p, x, v, hb, h => by simp only [Ps.inB] at hb; have := Ps.eq_of_beq hb; subst this; simp only [Ps.injT, hb, dite_true]; exact h
  | .nilPtr, p, x, v, hb, h => by simp only [Ps.inB] at hb; have := Ps.eq_of_beq hb; subst this; simp only [Ps.injT, hb, dite_true]; exact h
  | .undef, p, x, v, hb, h => by simp only [Ps.inB] at hb; have := Ps.eq_of_beq hb; subst this; simp only [Ps.injT, hb, dite_true]; exact h
  | .owh _ _ _, p, x, v, hb, h => by simp only [Ps.inB] at hb; have := Ps.eq_of_beq hb; subst this; simp only [Ps.injT, hb, dite_true]; exact h
  | .vec _, p, x, v, hb, h => by simp only [Ps.inB] at hb; have := Ps.eq_of_beq hb; subst this; simp only [Ps.injT, hb, dite_true]; exact h
  | .vref _, p, x, v, hb, h => by simp only [Ps.inB] at hb; have := Ps.eq_of_beq hb; subst this; simp only [Ps.injT, hb, dite_true]; exact h
  | .chn _, p, x, v, hb, h => by simp only [Ps.inB] at hb; have := Ps.eq_of_beq hb; subst this; simp only [Ps.injT, hb, dite_true]; exact h
  | .sem, p, x, v, hb, h => by simp only [Ps.inB] at hb; have := Ps.eq_of_beq hb; subst this; simp only [Ps.injT, hb, dite_true]; exact h
theorem rdP_reT (b : Ps) : (p : Ps) → (x : p.den) → (v : Value) → Ps.allIn b p = true → rdP w γ p x v → rdP w γ b (Ps.reT b p x) v
  | .alt p q, x, v, hb, h => by
    simp only [Ps.allIn, Bool.and_eq_true] at hb
    simp only [Ps.reT]
    cases x with
    | inl u => simp only [rdP] at h; simp only [either]; exact rdP_injT b p u v hb.1 h
    | inr u => simp only [rdP] at h; simp only [either]; exact rdP_reT b q u v hb.2 h
  | .g _, x, v, hb, h => rdP_injT b _ x v hb h
  | .ow _, x, v, hb, h => rdP_injT b _ x v hb h
  | .fn _ _, x, v, hb, h => rdP_injT b _ x v hb h
  | .cell _, x, v, hb, h => rdP_injT b _ x v hb h
  | .ref _ _, x, v, hb, h => rdP_injT b _ x v hb h
  | .nilFn, x, v, hb, h => rdP_injT b _ x v hb h
  | .nilPtr, x, v, hb, h => rdP_injT b _ x v hb h
  | .undef, x, v, hb, h => rdP_injT b _ x v hb h
  | .owh _ _ _, x, v, hb, h => rdP_injT b _ x v hb h
  | .vec _, x, v, hb, h => rdP_injT b _ x v hb h
  | .vref _, x, v, hb, h => rdP_injT b _ x v hb h
  | .chn _, x, v, hb, h => rdP_injT b _ x v hb h
  | .sem, x, v, hb, h => rdP_injT b _ x v hb h
theorem rdL_set {d d' : D} (hd : ∀ v, rdD w γ d v → rdD w γ d' v) : ∀ {ds : List D} {vs : List Value} {j : Nat}, ds[j]? = some d → rdL w γ ds vs → rdL w γ (ds.set j d') vs
  | x :: ds, v :: vs, 0, hj, h => by
    simp only [List.getElem?_cons_zero, Option.some.injEq] at hj
    subst hj
    simp only [rdL] at h
    simp only [List.set_cons_zero, rdL]
    exact ⟨hd v h.1, h.2⟩
  | x :: ds, v :: vs, j + 1, hj, h => by
    simp only [rdL] at h
    simp only [List.set_cons_succ, rdL]
    exact ⟨h.1, rdL_set hd (by simpa using hj) h.2⟩
  | [], _, j, hj, h => by simp at hj
  | _ :: _, [], j, hj, h => by simp only [rdL] at h
theorem tkL_set {dead : List Tok} {C : List Nat} {d' : D} (hd : ∀ v, tkD γ dead C d' v) : ∀ {ds : List D} {vs : List Value} {j : Nat}, tkL γ dead C ds vs → tkL γ dead C (ds.set j d') vs
  | x :: ds, v :: vs, 0, h => by
    simp only [tkL] at h
    simp only [List.set_cons_zero, tkL]
    exact ⟨hd v, h.2⟩
  | x :: ds, v :: vs, j + 1, h => by
    simp only [tkL] at h
    simp only [List.set_cons_succ, tkL]
    exact ⟨h.1, tkL_set hd h.2⟩
  | [], vs, j, h => by simpa using h
  | x :: ds, [], 0, h => by simp only [List.set_cons_zero, tkL]
  | x :: ds, [], j + 1, h => by simp only [List.set_cons_succ, tkL]
theorem Sim.setP {st : St} {C : List Nat} {a : Act} {d : D} {p q : Ps} {x : p.den ⊕ q.den} {s : Pos} (hs : s.simple = true) (hg : getP st s = some d) (hd : ∀ v, rdD w γ d v → rdD w γ (.alt p q x) v) (hn : (∀ t xs, d ≠ .vec t xs) ∧ ∀ cs, d ≠ .sem cs)
    (h : Sim γ st C a w) : Sim γ (V.setP st (.alt p q x) s) C a w ∧ (V.setP st (.alt p q x) s).dead = st.dead := by
  cases s with
  | r t =>
    simp only [getP] at hg
    split at hg
    · rename_i d' hl
      cases hg
      refine ⟨⟨h.dfr, h.sz, fun s r hs => ?_, h.heap, h.own, h.fresh, h.base, h.nb⟩, rfl⟩
      simp only [V.setP, look_setR] at hs
      by_cases hst : s = t
      · rw [if_pos hst] at hs
        cases hs
        subst hst
        obtain ⟨h1, _⟩ := h.regs s _ hl
        simp only [rdR] at h1 ⊢
        exact ⟨hd _ h1, by simp only [tkR, tkD]⟩
      · rw [if_neg hst] at hs
        exact h.regs s r hs
    · cases hg
  | a t i =>
    simp only [getP] at hg
    split at hg
    · rename_i ds hl
      refine ⟨⟨h.dfr, ?_, fun s r hs => ?_, ?_, h.own, h.fresh, h.base, ?_⟩, ?_⟩
      · simp only [V.setP, hl]; exact h.sz
      · simp only [V.setP, hl, look_setR] at hs
        by_cases hst : s = t
        · rw [if_pos hst] at hs
          cases hs
          subst hst
          obtain ⟨h1, _⟩ := h.regs s _ hl
          simp only [rdR] at h1 ⊢
          obtain ⟨vs, e1, e2⟩ := h1
          exact ⟨⟨vs, e1, rdL_set hd hg e2⟩, by simp only [tkR]⟩
        · rw [if_neg hst] at hs
          have := h.regs s r hs
          simp only [V.setP, hl]
          exact this
      · simp only [V.setP, hl]; exact h.heap
      · simp only [V.setP, hl]; exact h.nb
      · simp only [V.setP, hl]
    · cases hg
  | h i j =>
    simp only [getP] at hg
    split at hg
    · rename_i ds hl
      obtain ⟨s1, s2⟩ := setAt_spec (h := st.heap) (i := i) (ds := ds.set j (.alt p q x))
      have hi : i < st.heap.length := (List.getElem?_eq_some_iff.1 hl).1
      refine ⟨⟨h.dfr, ?_, fun s r hs => ?_, ⟨?_, fun k es b hk hb => ?_, h.heap.nodup⟩, h.own, h.fresh, h.base, ?_⟩, ?_⟩
      · simp only [V.setP, hl]; exact h.sz
      · simp only [V.setP, hl] at hs ⊢; exact h.regs s r hs
      · simp only [V.setP, hl, s1]; exact h.heap.len
      · simp only [V.setP, hl, s2 k] at hk
        simp only [V.setP, hl]
        by_cases hki : k = i
        · subst hki
          rw [if_pos ⟨rfl, hi⟩] at hk
          cases hk
          have hex : ∀ es : List D, (∃ y, es[j]? = some y ∧ (∀ t xs, y ≠ .vec t xs)) → expand es = es ∧ ∀ vs, cutV es vs = vs := fun es ⟨y, hy, hny⟩ => by
            rcases expand_cases es with ⟨t, xs, rfl⟩ | ⟨e, e'⟩
            · cases j with
              | zero => simp at hy; exact absurd hy.symm (hny t xs)
              | succ j => simp at hy
            · exact ⟨e, cutV_ne e'⟩
          have hj : j < ds.length := (List.getElem?_eq_some_iff.1 hg).1
          rcases h.heap.box k ds b hl hb with ⟨⟨arr, ty, e1, e2, e3⟩, e4, e5⟩ | g
          · rw [(hex ds ⟨d, hg, hn.1⟩).1, (hex ds ⟨d, hg, hn.1⟩).2] at e2 e3
            refine .inl ⟨⟨arr, ty, e1, ?_, ?_⟩, e4, e5⟩
            · rw [(hex (ds.set j (.alt p q x)) ⟨.alt p q x, by simp [hj], fun _ _ e => by cases e⟩).1, (hex (ds.set j (.alt p q x)) ⟨.alt p q x, by simp [hj], fun _ _ e => by cases e⟩).2]
              exact rdL_set hd hg e2
            · rw [(hex (ds.set j (.alt p q x)) ⟨.alt p q x, by simp [hj], fun _ _ e => by cases e⟩).1, (hex (ds.set j (.alt p q x)) ⟨.alt p q x, by simp [hj], fun _ _ e => by cases e⟩).2]
              exact tkL_set (fun v => by simp only [tkD]) e3
          · rcases g.2.2 with rfl | ⟨cs, rfl, _⟩
            · simp at hg
            · cases j with
              | zero => simp at hg; exact absurd hg.symm (hn.2 cs)
              | succ j => simp at hg
        · rw [if_neg (by omega)] at hk
          exact h.heap.box k es b hk hb
      · simp only [V.setP, hl]; exact h.nb
      · simp only [V.setP, hl]
    · cases hg
  | _ => simp only [Pos.simple, Bool.false_eq_true] at hs
theorem Sim.liftP {st : St} {C : List Nat} {a : Act} (h : Sim γ st C a w) (s : Pos) : Sim γ (V.liftP st s) C a w ∧ (V.liftP st s).dead = st.dead := by
  unfold V.liftP
  split
  · split
    · rename_i hd
      cases Ps.beq _ _ with
      | true => exact ⟨h, rfl⟩
      | false =>
        cases hb : (Pos.simple _ && Ps.allIn _ _) with
        | false => exact ⟨h, rfl⟩
        | true =>
          simp only [Bool.and_eq_true] at hb
          exact h.setP hb.1 hd (fun v hv => by simp only [rdD] at hv ⊢; exact rdP_reT _ _ _ v hb.2 hv) ⟨fun _ _ e => (by cases e), fun _ e => (by cases e)⟩
    · rename_i d hd
      cases hb : (Pos.simple _ && Ps.altOK _) with
      | false => exact ⟨h, rfl⟩
      | true =>
        simp only [Bool.and_eq_true] at hb
        simp only [cond_true]
        split
        · rename_i y hy
          exact h.setP hb.1 hd (fun v hv => by simp only [rdD]; exact rdP_altD _ _ _ hb.2 hy v hv) (altD_not _ _ _ hy)
        · exact ⟨h, rfl⟩
    · exact ⟨h, rfl⟩
  · exact ⟨h, rfl⟩
theorem Sim.liftS {C : List Nat} {a : Act} : ∀ (l : List Pos) {st : St}, Sim γ st C a w → Sim γ (V.liftS l st) C a w ∧ (V.liftS l st).dead = st.dead
  | [], st, h => ⟨h, rfl⟩
  | p :: l, st, h => by
    obtain ⟨h1, h2⟩ := h.liftP p
    obtain ⟨h3, h4⟩ := Sim.liftS l h1
    exact ⟨h3, h4.trans h2⟩
end
end Go.V
namespace Go.V
open Go.RowKit
set_option linter.unusedVariables false
theorem pkC_un {β : Type} {k : VExit → St → H → Tr β} {r : β} {o : Out} : ∀ {l : List Cls} {y : (ucOf l).den}, pkC l o = some y → (unC l y k).den = some r → ∃ h, (k (reC l o).1 (reC l o).2 h).den = some r
  | [], y, h, _ => by simp only [pkC, reduceCtorEq] at h
  | [c], y, h, hr => by
    simp only [pkC] at h
    obtain ⟨_, h⟩ := bif_some h
    simp only [unC] at hr
    exact ⟨c.h, by simp only [reC, reS]; rw [h]; exact hr⟩
  | c :: d :: l, y, h, hr => by
    simp only [pkC] at h
    cases hb : keyB (keyOf o) c.key with
    | true =>
      rw [hb] at h
      simp only [cond_true] at h
      split at h
      · rename_i z hz
        cases h
        exact ⟨c.h, by simp only [reC, hb, cond_true, reS]; rw [hz]; exact hr⟩
      · cases h
    | false =>
      rw [hb] at h
      simp only [cond_false] at h
      split at h
      · rename_i z hz
        cases h
        simp only [reC, hb, cond_false]
        exact pkC_un (l := d :: l) hz hr
      · cases h
theorem join_some {β : Type} {T0 : Tr Out} {pf : Bool} {cs : H} {k : VExit → St → H → Tr β} {r : β} (h : (joinT T0 pf cs k).den = some r) :
    ∃ o h', T0.den = some o ∧ (k o.1 (liftS (posesOf cs) o.2) h').den = some r := by
  unfold joinT at h
  have key : ∀ o, (T0.map fun o => (o.1, liftS (posesOf cs) o.2)).den = some o → (∃ h', (k o.1 o.2 h').den = some r) → ∃ o h', T0.den = some o ∧ (k o.1 (liftS (posesOf cs) o.2) h').den = some r := fun o ho ⟨h', hk⟩ => by
    obtain ⟨o0, h1, h2⟩ := Tr.den_map ho
    subst h2
    exact ⟨o0, h', h1, hk⟩
  generalize (T0.map fun o => (o.1, liftS (posesOf cs) o.2)) = T at h key
  generalize mkCls T.outs (keysOf T.outs) cs = l at h
  simp only [Tr.den] at h
  obtain ⟨hob, h⟩ := bif_some h
  replace hob := oeq_eq hob
  simp only [cpO_eq] at hob
  cases pf with
  | true =>
    simp only [cond_true] at h
    split at h
    · rename_i c hc
      rw [hc] at hob
      cases ht : T.total with
      | false => rw [ht] at h; cases h
      | true =>
        rw [ht] at h
        simp only [cond_true] at h
        obtain ⟨o, ho, e⟩ := Tr.total_den ht hob
        refine key o ho ⟨c.h, ?_⟩
        rw [Tr.coll_den ht ho] at h
        injection e with e
        rw [e]
        exact h
    · cases h
  | false =>
    simp only [cond_false, Tr.den] at h
    obtain ⟨y, hy, h3⟩ := Option.bind_eq_some_iff.1 h
    obtain ⟨o, ho, hp, e⟩ := Tr.collO_den hy hob
    refine key o ho ?_
    injection e with e
    obtain ⟨h', hk⟩ := pkC_un hp h3
    exact ⟨h', by rw [e]; exact hk⟩
section
variable {E : Env} {f : Nat} {cp : CallP} {ce : CallE} {γ : Gh} {C : List Nat} {a : Act} {w : World} {st st' : St} {ops : Array Oper}
@[reducible] noncomputable def qB (α : Type) : Br := ⟨{p : (H → Tr α) × Option α // ∀ o r, (p.1 o).den = some r → p.2 = some r}, ⟨((hB α).fail, none), fun o r h => by cases h⟩,
  fun c a => ⟨((hB α).gd c a.1.1, (oB α).gd c a.1.2), fun o r h => by
    cases c with
    | true => exact a.2 o r h
    | false => cases h⟩,
  fun c a b => ⟨((hB α).br c a.1.1 b.1.1, (oB α).br c a.1.2 b.1.2), fun o r h => by
    have key : ∀ o1 o2, (bif c then (a.1.1 o1).den else (b.1.1 o2).den) = some r → (bif c then a.1.2 else b.1.2) = some r := fun o1 o2 h => by
      cases c with
      | true => exact a.2 o1 r h
      | false => exact b.2 o2 r h
    have cd : ∀ x y : Tr α, (bif c then x else y).den = bif c then x.den else y.den := fun x y => by cases c <;> rfl
    cases o with
    | c h1 h2 => exact key h1 h2 h
    | l h1 => exact key h1 h1 ((cd _ _).symm.trans h)
    | e => exact key .e .e ((cd _ _).symm.trans h)
    | x o => exact key (.x o) (.x o) ((cd _ _).symm.trans h)
    | j i pf cs => exact key (.j i pf cs) (.j i pf cs) ((cd _ _).symm.trans h)
    | k ps h1 n => exact key (.k ps h1 n) (.k ps h1 n) ((cd _ _).symm.trans h)
    | w b ps cs => exact key (.w b ps cs) (.w b ps cs) ((cd _ _).symm.trans h)⟩,
  fun u x k => ⟨((hB α).bnd u x fun y => (k y).1.1, (oB α).bnd u x fun y => (k y).1.2), fun o r h => by
    obtain ⟨y, hy, h2⟩ := Option.bind_eq_some_iff.1 h
    subst hy
    exact (k y).2 o r h2⟩,
  fun p q x f g => ⟨((hB α).sum p q x (fun u => (f u).1.1) fun v => (g v).1.1, (oB α).sum p q x (fun u => (f u).1.2) fun v => (g v).1.2), fun o r h => by
    cases x with
    | inl u => cases o <;> exact (f u).2 _ r h
    | inr v => cases o <;> exact (g v).2 _ r h⟩,
  fun a b => ⟨((hB α).both a.1.1 b.1.1, (oB α).both a.1.2 b.1.2), fun o r h => by
    obtain ⟨h1, h2⟩ := both_some h
    have e1 := a.2 o r h1
    have e2 := b.2 o r h2
    simp only [V.both, e1, e2, if_true]⟩⟩
noncomputable def qB1 (α : Type) : Br.Hom (qB α) (hB α) := ⟨fun p => p.1.1, rfl, fun _ _ => rfl, fun _ _ _ => rfl, fun _ _ _ => rfl, fun _ _ _ _ _ => rfl⟩
noncomputable def qB2 (α : Type) : Br.Hom (qB α) (oB α) := ⟨fun p => p.1.2, rfl, fun _ _ => rfl, fun _ _ _ => rfl, fun _ _ _ => rfl, fun _ _ _ _ _ => rfl⟩
theorem guardK_hom {B B' : Br} (m : Br.Hom B B') {all : List Oper} {o : Oper} {yes no : St → B.ρ} : m.φ (guardK B all o st yes no) = guardK B' all o st (fun st => m.φ (yes st)) fun st => m.φ (no st) := by
  unfold guardK
  split
  · rfl
  · split
    · exact m.fail
    · split
      · rw [m.br, cond_hom (φ := m.φ), cond_hom (φ := m.φ)]
      · rfl
      · exact m.fail
theorem opsK_hom {B B' : Br} (m : Br.Hom B B') {all : List Oper} : ∀ {os : List Oper} {st : St} {fs : List Fp} {k : St → List Fp → B.ρ}, m.φ (opsK B E f cp all os st fs k) = opsK B' E f cp all os st fs fun st fs => m.φ (k st fs)
  | [], st, fs, k => rfl
  | o :: os, st, fs, k => by
    simp only [opsK]
    rw [guardK_hom m]
    congr 1
    · funext st
      rw [effB_hom m]
      congr 1
      funext e
      split
      · exact opsK_hom m
      · exact m.fail
    · funext st
      split
      · exact opsK_hom m
      · exact m.fail
theorem opsE_hom {B B' : Br} (m : Br.Hom B B') (hb : ∀ a b, m.φ (B.both a b) = B'.both (m.φ a) (m.φ b)) {all : List Oper} : ∀ {os : List Oper} {st : St} {k : St → B.ρ}, m.φ (opsE B E f cp ce all os st k) = opsE B' E f cp ce all os st fun st => m.φ (k st)
  | [], st, k => rfl
  | o :: os, st, k => by
    simp only [opsE]
    rw [guardK_hom m]
    have ih : ∀ (x : Option St), m.φ (match x with | some st => opsE B E f cp ce all os st k | none => B.fail) = (match x with | some st => opsE B' E f cp ce all os st fun st => m.φ (k st) | none => B'.fail) := fun x => by
      cases x with
      | none => exact m.fail
      | some st => exact opsE_hom m hb
    congr 1
    · funext st
      split
      · rw [ce.hn m]
        congr 1
        funext r h
        exact ih _
      · split
        · rw [m.br, hb]
          exact congr (congr rfl (congr (congr rfl (ih _)) (ih _))) (ih _)
        · rw [effB_hom m]
          congr 1
          funext e
          exact ih _
    · funext st
      exact ih _
theorem regionB_hom {B B' : Br} (m : Br.Hom B B') (hb : ∀ a b, m.φ (B.both a b) = B'.both (m.φ a) (m.φ b)) {id : Nat} {ops : List Oper} {draw : Bool} {k : St → B.ρ} : m.φ (regionB B E f cp ce id ops draw st k) = regionB B' E f cp ce id ops draw st fun st => m.φ (k st) := by
  unfold regionB
  cases distinctDst ops with
  | false => exact m.fail
  | true =>
    cases draw with
    | true =>
      simp only [cond_true]
      rw [opsK_hom m]
      congr 1
      funext st fs
      rw [cond_hom (φ := m.φ), m.fail, cond_hom (φ := m.φ), m.fail]
    | false =>
      simp only [cond_true, cond_false]
      rw [opsE_hom m hb]
      congr 1
      funext st
      rw [cond_hom (φ := m.φ), m.fail]
@[reducible] noncomputable def pT (α : Type) : Br := ⟨{p : Tr α × Option α // ∀ r, p.1.den = some r → p.2 = some r}, ⟨(.fail, none), fun r h => by cases h⟩,
  fun c a => ⟨((tB α).gd c a.1.1, (oB α).gd c a.1.2), fun r h => by
    cases c with
    | true => exact a.2 r h
    | false => cases h⟩,
  fun c a b => ⟨((tB α).br c a.1.1 b.1.1, (oB α).br c a.1.2 b.1.2), fun r h => by
    cases c with
    | true => exact a.2 r h
    | false => exact b.2 r h⟩,
  fun u x k => ⟨((tB α).bnd u x fun y => (k y).1.1, (oB α).bnd u x fun y => (k y).1.2), fun r h => by
    obtain ⟨y, hy, h2⟩ := Option.bind_eq_some_iff.1 h
    subst hy
    exact (k y).2 r h2⟩,
  fun p q x f g => ⟨((tB α).sum p q x (fun u => (f u).1.1) fun v => (g v).1.1, (oB α).sum p q x (fun u => (f u).1.2) fun v => (g v).1.2), fun r h => by
    cases x with
    | inl u => exact (f u).2 _ h
    | inr v => exact (g v).2 _ h⟩,
  fun a b => ⟨((tB α).both a.1.1 b.1.1, (oB α).both a.1.2 b.1.2), fun r h => by
    obtain ⟨h1, h2⟩ := both_some h
    have e1 := a.2 r h1
    have e2 := b.2 r h2
    simp only [V.both, e1, e2, if_true]⟩⟩
noncomputable def pT1 (α : Type) : Br.Hom (pT α) (tB α) := ⟨fun p => p.1.1, rfl, fun _ _ => rfl, fun _ _ _ => rfl, fun _ _ _ => rfl, fun _ _ _ _ _ => rfl⟩
noncomputable def pT2 (α : Type) : Br.Hom (pT α) (oB α) := ⟨fun p => p.1.2, rfl, fun _ _ => rfl, fun _ _ _ => rfl, fun _ _ _ => rfl, fun _ _ _ _ _ => rfl⟩
theorem regT_some {β : Type} {id : Nat} {ops : List Oper} {draw : Bool} {h : H} {k : St → Tr β} {r : β} (hr : (regT E f cp ce id ops draw st h k).den = some r) : regionB (oB β) E f cp ce id ops draw st (fun st => (k st).den) = some r := by
  have key : ∀ o, (regionB (hB β) E f cp ce id ops draw st (fun st _ => k st) o).den = some r → regionB (oB β) E f cp ce id ops draw st (fun st => (k st).den) = some r := fun o ho => by
    let K : St → (qB β).ρ := fun st => ⟨((fun _ => k st), (k st).den), fun o r h => h⟩
    have e1 := regionB_hom (E := E) (f := f) (cp := cp) (ce := ce) (st := st) (qB1 β) (fun _ _ => rfl) (id := id) (ops := ops) (draw := draw) (k := K)
    have e2 := regionB_hom (E := E) (f := f) (cp := cp) (ce := ce) (st := st) (qB2 β) (fun _ _ => rfl) (id := id) (ops := ops) (draw := draw) (k := K)
    refine Eq.trans e2.symm ((regionB (qB β) E f cp ce id ops draw st K).2 o r ?_)
    have e3 : (regionB (qB β) E f cp ce id ops draw st K).1.1 = regionB (hB β) E f cp ce id ops draw st fun st _ => k st := e1
    rw [e3]
    exact ho
  have key2 : (regionB (tB β) E f cp ce id ops draw st k).den = some r → regionB (oB β) E f cp ce id ops draw st (fun st => (k st).den) = some r := fun ho => by
    let K : St → (pT β).ρ := fun st => ⟨(k st, (k st).den), fun r h => h⟩
    have e1 := regionB_hom (E := E) (f := f) (cp := cp) (ce := ce) (st := st) (pT1 β) (fun _ _ => rfl) (id := id) (ops := ops) (draw := draw) (k := K)
    have e2 := regionB_hom (E := E) (f := f) (cp := cp) (ce := ce) (st := st) (pT2 β) (fun _ _ => rfl) (id := id) (ops := ops) (draw := draw) (k := K)
    refine Eq.trans e2.symm ((regionB (pT β) E f cp ce id ops draw st K).2 r ?_)
    have e3 : (regionB (pT β) E f cp ce id ops draw st K).1.1 = regionB (tB β) E f cp ce id ops draw st k := e1
    rw [e3]
    exact ho
  cases h with
  | x o => exact key o hr
  | _ => exact key2 hr
def Ends {β : Type} (k : VExit → St → H → Tr β) (res : β) (γ : Gh) (w : World) (Q : Exit → Act → World → Prop) : Prop :=
  ∀ e st' h' γ' a' w', Ext γ w γ' w' → Sim γ' st' [] a' w' → st'.dead = [] → (k e st' h').den = some res → Q e.ex a' w'
theorem loop_sound {β : Type} {P : Program} {body : St → Tr Out} {n0 : Nat} {c : Code} {res : β} {Q : Exit → Act → World → Prop} {ps : List Pos} {cs : H} {k : VExit → St → H → Tr β} {L : Nat}
    (hbody : ∀ {st : St} {res : Out} {γ : Gh} {a : Act} {w : World} {Q : Exit → Act → World → Prop}, (body st).den = some res → Sim γ st [] a w → st.dead = [] → Ends (cutO n0) res γ w Q → c.wp P Q a w)
    (h : (loopT L st ps cs body k).den = some res) (hs : Sim γ st [] a w) (hd : st.dead = []) (hn : γ.bx.length ≤ n0) (hQ : Ends k res γ w Q) : (Code.loop c).wp P Q a w := by
  unfold loopT at h
  obtain ⟨hs, hd2⟩ := hs.liftS ps
  replace hd := hd2.trans hd
  clear hd2
  generalize liftS ps st = t at h hs hd
  simp only at h
  generalize mkCls (bodyL body t ps (ps ++ posesOf cs) (Us.dflt _)).outs ((keysOf (bodyL body t ps (ps ++ posesOf cs) (Us.dflt _)).outs).filter notN) cs = l at h
  simp only [Tr.den] at h
  obtain ⟨h0, h⟩ := bif_some h
  replace h0 := oeq_eq h0
  simp only [cpO_eq, OT.two.injEq, OT.one.injEq] at h0
  obtain ⟨h0, h00⟩ := h0
  replace h00 := Tr.al_inj h00
  obtain ⟨x, hx, hr⟩ := Option.bind_eq_some_iff.1 h
  obtain ⟨y0, hy0, hx⟩ := Option.bind_eq_some_iff.1 (iterO_eq.symm.trans hx)
  have ht : t = fillP t ps y0 t := by
    have e := congrArg Prod.snd h0
    simp only [reS, hy0, Option.getD_some] at e
    exact e
  generalize hB : bodyL body t ps (ps ++ posesOf cs) = B at hx h00
  let J : Nat → Act → World → Prop := fun m a' w' => ∃ γ' y, Ext γ w γ' w' ∧ Sim γ' (fillP t ps y t) [] a' w' ∧ (fillP t ps y t).dead = [] ∧ iterN (fun y => (B y).collO (pkL t ps l)) m y = some x
  have hex : ∀ a' w', (∃ m, J m a' w') → ∃ m, J m a' w' ∧ ∀ m', J m' a' w' → m ≤ m' := fun a' w' ⟨m, hm⟩ => by
    induction m using Nat.strongRecOn with
    | _ m ih =>
      by_cases hlt : ∃ m', m' < m ∧ J m' a' w'
      · obtain ⟨m', h1, h2⟩ := hlt; exact ih m' h1 h2
      · exact ⟨m, hm, fun m' hm' => Nat.le_of_not_lt fun hl => hlt ⟨m', hl, hm'⟩⟩
  let μ : Act → World → Nat := fun a' w' => by
    classical
    exact if h : ∃ m, J m a' w' then Classical.choose (hex a' w' h) else 0
  have hμ : ∀ a' w' m, J m a' w' → J (μ a' w') a' w' ∧ μ a' w' ≤ m := fun a' w' m hm => by
    have h : ∃ m, J m a' w' := ⟨m, hm⟩
    have e : μ a' w' = Classical.choose (hex a' w' h) := dif_pos h
    rw [e]
    exact ⟨(Classical.choose_spec (hex a' w' h)).1, (Classical.choose_spec (hex a' w' h)).2 m hm⟩
  refine wp_loop (fun a' w' => ∃ m, J m a' w') μ ⟨L, γ, y0, Ext.refl γ w, ht ▸ hs, ht ▸ hd, hx⟩ fun a' w' ⟨m1, hm1⟩ => ?_
  obtain ⟨hJ, _⟩ := hμ a' w' m1 hm1
  generalize μ a' w' = m2 at hJ
  obtain ⟨γ', y, he, hs', hd', hl⟩ := hJ
  cases m2 with
  | zero => simp only [iterN, reduceCtorEq] at hl
  | succ m2 =>
    simp only [iterN] at hl
    obtain ⟨z, hz, hl⟩ := Option.bind_eq_some_iff.1 hl
    obtain ⟨o, ho, hp, eo⟩ := Tr.collO_den hz (h00 y)
    injection eo with eo
    rw [← hB] at ho
    obtain ⟨o0, h1, h2⟩ := Tr.den_map ho
    refine hbody h1 hs' hd' fun e st2 h' γ2 a2 w2 he2 hs2 hd2 hk => ?_
    -- what is behind a round, told as is hinted
    have key : ∀ {e1 : VExit} {st3 : St} {γ3 : Gh}, o0 = (e1, st3) → Ext γ w γ3 w2 → Sim γ3 st3 [] a2 w2 → st3.dead = [] → e1.ex = e.ex →
        (match e.ex with | .normal => (∃ m, J m a2 w2) ∧ μ a2 w2 < m2 + 1 | e => Q e a2 w2) := fun {e1 st3 γ3} e0 hext hsim hdd he1 => by
      obtain ⟨hsim2, hdd2⟩ := hsim.liftS (ps ++ posesOf cs)
      rw [e0] at h2
      have e3 : o = (e1, liftS (ps ++ posesOf cs) st3) := h2.symm
      have e4 : liftS (ps ++ posesOf cs) st3 = o.2 := by rw [e3]
      have e5 : e1 = o.1 := by rw [e3]
      rw [e4] at hsim2 hdd2
      replace hdd2 := hdd2.trans hdd
      unfold pkL at hp
      unfold reL at eo
      cases e1 with
      | normal =>
        rw [← he1]
        simp only [VExit.ex]
        rw [← e5] at hp eo
        simp only at hp eo
        split at hp
        · rename_i y' hy'
          cases hp
          simp only [either] at hl
          have e6 : o.2 = fillP t ps y' t := by
            have := congrArg Prod.snd eo
            simp only [reS, hy', Option.getD_some] at this
            exact this
          rw [e6] at hsim2 hdd2
          have hJ3 : J m2 a2 w2 := ⟨γ3, y', hext, hsim2, hdd2, hl⟩
          exact ⟨⟨m2, hJ3⟩, Nat.lt_succ_of_le (hμ a2 w2 m2 hJ3).2⟩
        · cases hp
      | exit j =>
        rw [← he1]
        simp only [VExit.ex]
        rw [← e5] at hp eo
        simp only at hp eo
        split at hp
        · rename_i y' hy'
          cases hp
          simp only [either, Option.some.injEq] at hl
          subst hl
          obtain ⟨h3, hk3⟩ := pkC_un hy' hr
          rw [← eo, ← e5] at hk3
          exact hQ (.exit j) _ h3 γ3 a2 w2 hext hsim2 hdd2 hk3
        · cases hp
      | ret =>
        rw [← he1]
        simp only [VExit.ex]
        rw [← e5] at hp eo
        simp only at hp eo
        split at hp
        · rename_i y' hy'
          cases hp
          simp only [either, Option.some.injEq] at hl
          subst hl
          obtain ⟨h3, hk3⟩ := pkC_un hy' hr
          rw [← eo, ← e5] at hk3
          exact hQ .ret _ h3 γ3 a2 w2 hext hsim2 hdd2 hk3
        · cases hp
    cases e with
    | normal =>
      simp only [cutO] at hk
      split at hk
      · rename_i st3 ht3
        obtain ⟨γ3, hs3, hd3, _, e1, e2, e3, _, e4⟩ := sim_trunc hs2 hd2 ht3
        exact key (Option.some.inj hk).symm ((he.trans he2).cut (.inl hn) e1 e2 e3 e4) hs3 hd3 rfl
      · cases hk
    | exit j =>
      simp only [cutO] at hk
      split at hk
      · rename_i st3 ht3
        obtain ⟨γ3, hs3, hd3, _, e1, e2, e3, _, e4⟩ := sim_trunc hs2 hd2 ht3
        exact key (Option.some.inj hk).symm ((he.trans he2).cut (.inl hn) e1 e2 e3 e4) hs3 hd3 rfl
      · cases hk
    | ret => exact key (Option.some.inj hk).symm (he.trans he2) hs2 hd2 rfl
theorem runT_sound (hE : EnvOK E) (hcp : PureOK E cp) (hce : EffOK E ce) : (c : Code) → {β : Type} → {res : β} → {st : St} → {h : H} → {k : VExit → St → H → Tr β} → {γ : Gh} → {a : Act} → {w : World} → {Q : Exit → Act → World → Prop} →
    (runT E f cp ce c β st h k).den = some res → Sim γ st [] a w → st.dead = [] → Ends k res γ w Q → c.wp E.P Q a w
  | .skip, β, res, st, h, k, γ, a, w, Q, hr, hs, hd, hQ => wp_skip (hQ .normal st h γ a w (Ext.refl γ w) hs hd hr)
  | .region id ops draw, β, res, st, h, k, γ, a, w, Q, hr, hs, hd, hQ => by
    simp only [runT] at hr
    split at hr
    · rename_i hi pf cs
      obtain ⟨o, h', h1, h2⟩ := join_some hr
      refine region_sound (f := f) hE hcp hce (regT_some h1) hs fun γ' st1 a' w' he hs' hd' hk => ?_
      have e : o = (.normal, st1) := (Option.some.inj hk).symm
      subst e
      obtain ⟨q1, q2⟩ := hs'.liftS (posesOf cs)
      exact hQ .normal _ h' γ' a' w' he q1 (q2.trans hd') h2
    · rename_i o
      exact region_sound (f := f) hE hcp hce (regT_some hr) hs fun γ' st1 a' w' he hs' hd' hk => hQ .normal st1 .e γ' a' w' he hs' hd' hk
    · exact region_sound (f := f) hE hcp hce (regT_some hr) hs fun γ' st1 a' w' he hs' hd' hk => hQ .normal st1 _ γ' a' w' he hs' hd' hk
    · exact region_sound (f := f) hE hcp hce (regT_some hr) hs fun γ' st1 a' w' he hs' hd' hk => hQ .normal st1 _ γ' a' w' he hs' hd' hk
  | .seq x y, β, res, st, h, k, γ, a, w, Q, hr, hs, hd, hQ => by
    simp only [runT] at hr
    split at hr
    · rename_i hi pf cs
      obtain ⟨o, h', h1, h2⟩ := join_some hr
      refine wp_seq (runT_sound hE hcp hce x h1 hs hd fun e st1 h3 γ1 a1 w1 he1 hs1 hd1 hk => ?_)
      cases e with
      | normal =>
        have e : o = (.normal, st1.into E f y) := (Option.some.inj hk).symm
        subst e
        obtain ⟨γi, ei, hi, di⟩ := hs1.into (E := E) (f := f) (c := y)
        obtain ⟨q1, q2⟩ := hi.liftS (posesOf cs)
        exact runT_sound hE hcp hce y h2 q1 ((q2.trans di).trans hd1) fun e st2 h4 γ2 a2 w2 he2 hs2 hd2 hk2 => hQ e st2 h4 γ2 a2 w2 ((he1.trans ei).trans he2) hs2 hd2 hk2
      | exit j =>
        have e : o = (.exit j, st1) := (Option.some.inj hk).symm
        subst e
        obtain ⟨q1, q2⟩ := hs1.liftS (posesOf cs)
        exact hQ (.exit j) _ h' γ1 a1 w1 he1 q1 (q2.trans hd1) h2
      | ret =>
        have e : o = (.ret, st1) := (Option.some.inj hk).symm
        subst e
        obtain ⟨q1, q2⟩ := hs1.liftS (posesOf cs)
        exact hQ .ret _ h' γ1 a1 w1 he1 q1 (q2.trans hd1) h2
    · split at hr
      · rename_i hreg
        obtain rfl := isReg_eq hreg
        refine wp_seq (region_sound (f := f) hE hcp hce (regT_some hr) hs fun γ1 st1 a1 w1 he1 hs1 hd1 hk => ?_)
        obtain ⟨γi, ei, hi, di⟩ := hs1.into (E := E) (f := f) (c := y)
        exact runT_sound hE hcp hce y hk hi (di.trans hd1) fun e st2 h4 γ2 a2 w2 he2 hs2 hd2 hk2 => hQ e st2 h4 γ2 a2 w2 ((he1.trans ei).trans he2) hs2 hd2 hk2
      · refine wp_seq (runT_sound hE hcp hce _ hr hs hd fun e st1 h3 γ1 a1 w1 he1 hs1 hd1 hk => ?_)
        cases e with
        | normal =>
          obtain ⟨γi, ei, hi, di⟩ := hs1.into (E := E) (f := f) (c := y)
          exact runT_sound hE hcp hce y hk hi (di.trans hd1) fun e st2 h4 γ2 a2 w2 he2 hs2 hd2 hk2 => hQ e st2 h4 γ2 a2 w2 ((he1.trans ei).trans he2) hs2 hd2 hk2
        | exit j => exact hQ (.exit j) st1 h3 γ1 a1 w1 he1 hs1 hd1 hk
        | ret => exact hQ .ret st1 h3 γ1 a1 w1 he1 hs1 hd1 hk
    · refine wp_seq (runT_sound hE hcp hce x hr hs hd fun e st1 h3 γ1 a1 w1 he1 hs1 hd1 hk => ?_)
      cases e with
      | normal =>
        obtain ⟨γi, ei, hi, di⟩ := hs1.into (E := E) (f := f) (c := y)
        exact runT_sound hE hcp hce y hk hi (di.trans hd1) fun e st2 h4 γ2 a2 w2 he2 hs2 hd2 hk2 => hQ e st2 h4 γ2 a2 w2 ((he1.trans ei).trans he2) hs2 hd2 hk2
      | exit j => exact hQ (.exit j) st1 h3 γ1 a1 w1 he1 hs1 hd1 hk
      | ret => exact hQ .ret st1 h3 γ1 a1 w1 he1 hs1 hd1 hk
  | .cond c x y, β, res, st, h, k, γ, a, w, Q, hr, hs, hd, hQ => by
    simp only [runT] at hr
    split at hr
    · rename_i b hc
      have hv := evalO_bool (a := a) (w := w) (γ := γ) (dead := st.dead) (C := []) hs.regs hc
      split at hr
      · rename_i h1 h2
        cases b with
        | true => exact wp_cond hv (by simpa using runT_sound hE hcp hce x (h := h1) hr hs.past (past_dead.trans hd) hQ)
        | false => exact wp_cond hv (by simpa using runT_sound hE hcp hce y (h := h2) hr hs.past (past_dead.trans hd) hQ)
      · cases b with
        | true => exact wp_cond hv (by simpa using runT_sound hE hcp hce x hr hs.past (past_dead.trans hd) hQ)
        | false => exact wp_cond hv (by simpa using runT_sound hE hcp hce y hr hs.past (past_dead.trans hd) hQ)
      · cases b with
        | true => exact wp_cond hv (by simpa using runT_sound hE hcp hce x hr hs.past (past_dead.trans hd) hQ)
        | false => exact wp_cond hv (by simpa using runT_sound hE hcp hce y hr hs.past (past_dead.trans hd) hQ)
    · cases hr
  | .block id c, β, res, st, h, k, γ, a, w, Q, hr, hs, hd, hQ => by
    refine wp_block (runT_sound hE hcp hce c hr hs hd fun e st1 h1 γ1 a1 w1 he1 hs1 hd1 hk => ?_)
    cases e with
    | normal => exact hQ .normal st1 h1 γ1 a1 w1 he1 hs1 hd1 hk
    | exit j =>
      simp only [blkT] at hk
      simp only [VExit.ex, Exit.inBlock]
      cases hj : j.beq id with
      | true =>
        rw [hj] at hk
        rw [if_pos (nbeq.1 hj)]
        exact hQ .normal st1 h1 γ1 a1 w1 he1 hs1 hd1 hk
      | false =>
        rw [hj] at hk
        rw [if_neg (nbeq_false.1 hj)]
        exact hQ (.exit j) st1 h1 γ1 a1 w1 he1 hs1 hd1 hk
    | ret => exact hQ .ret st1 h1 γ1 a1 w1 he1 hs1 hd1 hk
  | .loop c, β, res, st, h, k, γ, a, w, Q, hr, hs, hd, hQ => by
    simp only [runT] at hr
    split at hr
    · exact loop_sound (fun h hs hd hQ => runT_sound hE hcp hce c h hs hd hQ) hr hs hd (by rw [hs.heap.len]; exact Nat.le_refl _) hQ
    · cases hr
  | .exit id, β, res, st, h, k, γ, a, w, Q, hr, hs, hd, hQ => wp_exit (hQ (.exit id) st h γ a w (Ext.refl γ w) hs hd hr)
  | .ret, β, res, st, h, k, γ, a, w, Q, hr, hs, hd, hQ => wp_ret (hQ .ret st h γ a w (Ext.refl γ w) hs hd hr)
  | .label _, _, _, _, _, _, _, _, _, _, h, _, _, _ => by simp [runT, Tr.den] at h
  | .goto _, _, _, _, _, _, _, _, _, _, h, _, _, _ => by simp [runT, Tr.den] at h
end
end Go.V
namespace Go.V
open Go.RowKit
set_option linter.unusedVariables false
section
variable {E : Env} {f : Nat} {cp : CallP} {ce : CallE} {γ : Gh} {C : List Nat} {a : Act} {w : World} {st st' : St} {ops : Array Oper}
def resRun (tmps : Array Value) : ResultVar → Sem Value
  | .tmp t => pure (tmps.getD t Go.undef)
  | .cell a t => do loadVar t (← asAddr (tmps.getD a Go.undef))
inductive ResAll (tmps : Array Value) (P : Program) (w : World) : List ResultVar → List Value → Prop where
  | nil : ResAll tmps P w [] []
  | cons {x : ResultVar} {v : Value} {l : List ResultVar} {vs : List Value} : (resRun tmps x).run P w = .ok v w → ResAll tmps P w l vs → ResAll tmps P w (x :: l) (v :: vs)
theorem mapM_run {tmps : Array Value} {P : Program} {w : World} : ∀ {l : List ResultVar} {vs : List Value}, ResAll tmps P w l vs → (l.mapM (resRun tmps)).run P w = .ok vs w
  | [], [], .nil => by simp
  | x :: l, v :: vs, .cons h1 h2 => by
    rw [List.mapM_cons]
    simp only [Sem.run_bind, h1, Result.andThen_ok, mapM_run h2, Sem.run_pure]
theorem results_run {fn : Func} {vs : List Value} {tmps : Array Value} {P : Program} {w : World} (h : ResAll tmps P w fn.results.toList vs) :
    (results fn tmps).run P w = .ok (if h : vs.length = 1 then vs[0]'(by omega) else .tuple vs.toArray) w := by
  unfold results
  rw [Array.mapM_eq_mapM_toList]
  have e : (fun x : ResultVar => (match x with
      | .tmp t => pure (tmps.getD t Go.undef)
      | .cell a t => do loadVar t (← asAddr (tmps.getD a Go.undef)) : Sem Value)) = resRun tmps := by
    funext x
    cases x <;> rfl
  have h2 := mapM_run h
  change Sem.run P (do
    let vs ← List.toArray <$> List.mapM (resRun tmps) fn.results.toList
    pure (if h : vs.size = 1 then vs[0] else Value.tuple vs)) w = _
  simp only [map_eq_pure_bind, bind_assoc, pure_bind, Sem.run_bind, h2, Result.andThen_ok, Sem.run_pure]
  by_cases hl : vs.length = 1
  · simp [hl]
  · simp [hl]
theorem init_look : ∀ {l : List R} {i s : Nat} {r : R}, look (initRegs i l) s = some r → i ≤ s ∧ l[s - i]? = some r
  | [], i, s, r, h => by simp [initRegs, look] at h
  | q :: l, i, s, r, h => by
    simp only [initRegs, look] at h
    cases hb : Nat.beq i s with
    | true =>
      obtain rfl := nbeq.1 hb
      rw [hb] at h
      cases h
      simp
    | false =>
      rw [hb] at h
      obtain ⟨h1, h2⟩ := init_look (i := i + 1) h
      refine ⟨by omega, ?_⟩
      rw [show s - i = (s - (i + 1)) + 1 by omega]
      simpa using h2
theorem rdRs_get' : ∀ {rs : List R} {vs : List Value} {i : Nat} {r : R}, rdRs w γ rs vs → rs[i]? = some r → ∃ v, vs[i]? = some v ∧ rdR w γ r v
  | r :: rs, v :: vs, 0, q, h, hi => by
    simp only [rdRs] at h
    simp at hi
    exact ⟨v, rfl, hi ▸ h.1⟩
  | r :: rs, v :: vs, i + 1, q, h, hi => by
    simp only [rdRs] at h
    obtain ⟨u, h1, h2⟩ := rdRs_get' h.2 (i := i) (by simpa using hi)
    exact ⟨u, by simpa using h1, h2⟩
  | [], _, i, q, _, hi => by simp at hi
  | _ :: _, [], i, q, h, _ => by simp only [rdRs] at h
theorem rdRs_len : ∀ {rs : List R} {vs : List Value}, rdRs w γ rs vs → rs.length = vs.length
  | [], [], _ => rfl
  | r :: rs, v :: vs, h => by simp only [rdRs] at h; simp [rdRs_len h.2]
  | [], _ :: _, h => by simp only [rdRs] at h
  | _ :: _, [], h => by simp only [rdRs] at h
theorem resOne_sound {x : ResultVar} {r : R} (hE : EnvOK E) (h : Sim γ st C a w) (hr : resOne E st x = some r) : ∃ v, (resRun a.tmps x).run E.P w = .ok v w ∧ rdR w γ r v ∧ tkR γ st.dead C r v := by
  cases x with
  | tmp t =>
    obtain ⟨h1, h2⟩ := h.regs t r hr
    exact ⟨_, by simp [resRun], h1, h2⟩
  | cell t ty =>
    simp only [resOne] at hr
    split at hr
    · rename_i b off ti hx ht
      obtain ⟨hn, hr⟩ := bif_some hr
      simp only [Bool.and_eq_true] at hn
      split at hr
      · rename_i c hc
        obtain ⟨hpl, hr⟩ := bif_some hr
        split at hr
        · rename_i ds hds
          obtain ⟨h1, _⟩ := h.regs t _ hx
          simp only [rdR] at h1
          obtain ⟨ad, v, q1, q2, q3, q4⟩ := ref_load (C := C) hE ht (nt_spec hn.1) h.heap hpl h1 hc hds hr (nblt.1 hn.2)
          exact ⟨v, by simp [resRun, q1, asAddr, q2], q3, q4⟩
        · cases hr
      · cases hr
    · cases hr
theorem resAll (hE : EnvOK E) : ∀ {rs : List ResultVar} {l : List R}, (Sim γ st C a w) → mapO (resOne E st) rs = some l →
    ∃ vs : List Value, ResAll a.tmps E.P w rs vs ∧ rdRs w γ l vs ∧ tkRs γ st.dead C l vs
  | [], l, h, hm => by
    simp only [mapO, Option.some.injEq] at hm
    subst hm
    exact ⟨[], .nil, by simp [rdRs], by simp [tkRs]⟩
  | x :: rs, l, h, hm => by
    simp only [mapO] at hm
    split at hm
    · rename_i y hy
      split at hm
      · rename_i ys hys
        cases hm
        obtain ⟨vs, e1, e2, e3⟩ := resAll hE h hys
        obtain ⟨v, r1, r2, r3⟩ := resOne_sound hE h hy
        exact ⟨v :: vs, .cons r1 e1, by simp only [rdRs]; exact ⟨r2, e2⟩, by simp only [tkRs]; exact ⟨r3, e3⟩⟩
      · cases hm
    · cases hm
theorem ResAll.length {tmps : Array Value} {P : Program} {w : World} : ∀ {l : List ResultVar} {vs : List Value}, ResAll tmps P w l vs → l.length = vs.length
  | _, _, .nil => rfl
  | _, _, .cons _ h => by simp [h.length]
theorem resR_sound {fn : Func} {r : R} (hE : EnvOK E) (h : Sim γ st C a w) (hr : resR E fn.results.toList st = some r) : ∃ v, (results fn a.tmps).run E.P w = .ok v w ∧ rdR w γ r v ∧ tkR γ st.dead C r v := by
  unfold resR at hr
  split at hr
  · rename_i x hx
    obtain ⟨v, r1, r2, r3⟩ := resOne_sound hE h hr
    have e : ResAll a.tmps E.P w fn.results.toList [v] := by rw [hx]; exact .cons r1 .nil
    exact ⟨v, by simpa using results_run e, r2, r3⟩
  · rename_i hne
    split at hr
    · rename_i l hl
      cases hr
      obtain ⟨vs, e1, e2, e3⟩ := resAll hE h hl
      have hlen := e1.length
      have hn1 : ¬ vs.length = 1 := fun hl1 => by
        rw [hl1] at hlen
        match hrs : fn.results.toList, hlen with
        | [x], _ => exact hne x hrs
      refine ⟨_, results_run e1, ?_, ?_⟩
      · rw [dif_neg hn1]
        simp only [rdR]
        exact ⟨_, rfl, by simpa using e2⟩
      · rw [dif_neg hn1]
        simp only [tkR]
        simpa using e3
    · cases hr
theorem Sim.thaw {bi b : Nat} (h : Sim γ st C a w) (hb : γ.bx[bi]? = some b) : Ext γ w (γ.thaw b) w ∧ Sim (γ.thaw b) { st with heap := setAt st.heap bi [] } C a w := by
  obtain ⟨s1, s2⟩ := setAt_spec (h := st.heap) (i := bi) (ds := [])
  have hbi : bi < st.heap.length := by rw [h.heap.len]; exact (List.getElem?_eq_some_iff.1 hb).1
  have hblt := h.heap.lt bi b hb
  have e5 : γ.base ≤ b := by
    rcases h.heap.box bi _ b (List.getElem?_eq_getElem hbi) hb with q | q
    · exact q.base
    · exact q.1
  refine ⟨⟨fun _ _ _ q => q, rfl, Nat.le_refl _, thaw_sees.cells, Below.refl _ _, fun b' hb' => by simp only [Gh.thaw]; rw [if_neg (by omega)], rfl⟩, ?_⟩
  refine ⟨h.dfr, h.sz, fun s q hq => ?_, ⟨by rw [s1]; exact h.heap.len, fun i es b' hi hb' => ?_, h.heap.nodup⟩, ⟨fun k hd hk => ?_, h.own.inj⟩, fun b' hb' => ?_, h.base, h.nb⟩
  · obtain ⟨q1, q2⟩ := h.regs s q hq
    exact ⟨rdR_mono thaw_sees (fun _ _ x => x) q _ q1, tkR_mono (γ := γ) (γ' := γ.thaw b) (dead := st.dead) (dead' := st.dead) (fun _ x => x) (fun _ x => x) (fun k _ _ => .inr rfl) q _ q2⟩
  · rw [s2 i] at hi
    by_cases hib : i = bi
    · subst hib
      rw [if_pos ⟨rfl, hbi⟩] at hi
      cases hi
      rw [show (γ.thaw b).bx = γ.bx from rfl, hb] at hb'
      cases hb'
      exact .inr ⟨e5, hblt, .inl rfl⟩
    · rw [if_neg (by omega)] at hi
      have hne : b' ≠ b := fun e => by
        subst e
        exact hib (nodup_inj h.heap.nodup hb' hb)
      rcases h.heap.box i es b' hi hb' with ⟨⟨arr', ty', g1, g2, g3⟩, g4, g5⟩ | g
      · exact .inl ⟨⟨arr', ty', g1, rdL_mono thaw_sees (fun _ _ x => x) _ _ g2, tkL_mono (γ := γ) (γ' := γ.thaw b) (dead := st.dead) (dead' := st.dead) (fun _ x => x) (fun _ x => x) (fun k _ _ => .inr rfl) g3⟩, by simp only [Gh.thaw]; rw [if_neg hne]; exact g4, g5⟩
      · exact .inr (g.keep (Nat.le_refl _) (Nat.le_refl _) fun _ _ ho _ => ho)
  · refine (h.own.own k hd hk).keep rfl rfl fun b' hc' hA _ => ?_
    obtain ⟨b2, arr2, ty2, g1, g2, _, _, _, g6⟩ := (h.own.own k hd hk).2 hc'
    have hb2 : b2 = b' := by rw [g1] at hA; simpa using hA
    have hne : b' ≠ b := fun e => by
      subst e
      subst hb2
      exact g6 (List.mem_of_getElem? hb)
    exact ⟨rfl, by simp only [Gh.thaw]; rw [if_neg hne]⟩
  · simp only [Gh.thaw]
    rw [if_neg (by omega)]
    exact h.fresh b' hb'
theorem melt_sound {α : Type} {res : α} : ∀ (l : List ResultVar) {γ : Gh} {st : St} {k : St → Option α}, Sim γ st C a w → meltK (oB α) l st k = some res → ∃ γ' st', Ext γ w γ' w ∧ Sim γ' st' C a w ∧ k st' = some res ∧ st'.dead = st.dead
  | [], γ, st, k, h, hk => ⟨γ, st, Ext.refl γ w, h, hk, rfl⟩
  | .cell _ _ :: l, γ, st, k, h, hk => melt_sound l h hk
  | .tmp t :: l, γ, st, k, h, hk => by
    simp only [meltK] at hk
    split at hk
    · rename_i i n hl
      split at hk
      · rename_i vt xs hi
        obtain ⟨hn, hk⟩ := bif_some hk
        obtain ⟨h1, _⟩ := h.regs t _ hl
        simp only [rdR, rdD] at h1
        obtain ⟨b, c, hb, hv, hc⟩ := h1
        obtain ⟨e1, h2⟩ := h.thaw hb
        have h3 : Sim (γ.thaw b) { st with regs := setR st.regs t (.one (.g (.sl (.one vt)) xs)), heap := setAt st.heap i [] } C a w := by
          refine ⟨h2.dfr, h2.sz, fun s r hs => ?_, h2.heap, h2.own, h2.fresh, h2.base, h2.nb⟩
          rw [look_setR] at hs
          by_cases hst : s = t
          · rw [if_pos hst] at hs
            cases hs
            subst hst
            refine ⟨?_, by simp [tkR, tkD]⟩
            simp only [rdR, rdD, rdT]
            obtain ⟨arr, ty, q1, q2, q4, q5⟩ := vec_box h.heap hi hb
            have hnl := nbeq.1 hn
            refine ⟨_, c, by rw [← hnl]; exact hv, by omega, fun m hm => ⟨b, 0, rfl, ?_⟩⟩
            simp only [rdTs]
            obtain ⟨_, u, hu, hut⟩ := vec_get q2 hm
            refine ⟨u, ?_, ?_, ?_⟩
            · simp only [World.cell?, q1, Ts.size, Nat.mul_one, Nat.zero_add]
              simpa using hu
            · simp [Gh.may, Gh.thaw]
            · have : xs.getD m vt.dflt = xs[m] := by rw [List.getD_eq_getElem?_getD, List.getElem?_eq_getElem hm]; rfl
              rw [this] at hut
              exact rdT_mono thaw_sees _ _ _ hut
          · rw [if_neg hst] at hs
            exact h2.regs s r hs
        obtain ⟨γ2, st2, e2, h4, h5, h6⟩ := melt_sound l h3 hk
        exact ⟨γ2, st2, e1.trans e2, h4, h5, h6⟩
      · cases hk
    · exact melt_sound l h hk
def Gh.setNb (γ : Gh) (n : Nat) : Gh := { γ with nb := n }
theorem nb_sees {n : Nat} : Sees γ w (γ.setNb n) w := ⟨fun _ _ _ h1 h2 => ⟨h2, h1⟩⟩
theorem HeapOK.setNb {h : Heap} (hh : HeapOK γ h [] [] w) (n : Nat) : HeapOK (γ.setNb n) h [] [] w := by
  refine ⟨hh.len, fun i ds b hi hb => ?_, hh.nodup⟩
  rcases hh.box i ds b hi hb with ⟨⟨arr, ty, e1, e2, e3⟩, e4, e5⟩ | g
  · exact .inl ⟨⟨arr, ty, e1, rdL_mono nb_sees (fun _ _ x => x) _ _ e2, tkL_mono (γ := γ) (γ' := γ.setNb n) (dead := []) (dead' := []) (fun _ x => x) (fun _ x => x) (fun k _ _ => .inr rfl) e3⟩, e4, e5⟩
  · exact .inr (g.keep (Nat.le_refl _) (Nat.le_refl _) fun _ _ ho _ => ho)
theorem Ext.setNb {γ' : Gh} {w' : World} {n : Nat} (h : Ext (γ.setNb n) w γ' w') (hn : γ.bx.length ≤ n) : Ext γ w (γ'.setNb γ.nb) w' ∧ ∀ (i b : Nat), γ.bx[i]? = some b → (γ'.setNb γ.nb).bx[i]? = some b :=
  have hb : ∀ (i b : Nat), γ.bx[i]? = some b → γ'.bx[i]? = some b := fun i b hb => h.bx i b (Nat.lt_of_lt_of_le (List.getElem?_eq_some_iff.1 hb).1 hn) hb
  ⟨⟨fun i b _ q => hb i b q, h.base, h.size, h.cells, h.low, h.rdlow, rfl⟩, hb⟩
noncomputable def bodyT (E : Env) (f : Nat) (cp : CallP) (ce : CallE) (h : H) (args : List R) (hp : Heap) : Tr (R × Heap) := match E.P.funcs[f]? with
  | some fn => match fn.body with
    | some c => bif args.length.ble fn.ntmps then
        runT E f cp ce c (R × Heap) ⟨initRegs 0 args, hp, [], fn.ntmps, hp.length⟩ h (fun e st _ => match e with
        | .exit _ => .fail
        | _ => meltK (tB (R × Heap)) fn.results.toList st fun st => match resR E fn.results.toList st with
          | some r => .leaf (thinR E f r, thinH E f (cutH hp.length r st.heap))
          | none => .fail) else .fail
    | none => .fail
  | none => .fail
noncomputable def tH (α : Type) : Br.Hom (tB α) (oB α) := ⟨Tr.den, rfl, fun _ _ => rfl, fun c a b => by cases c <;> rfl, fun _ _ _ => rfl, fun _ _ _ _ _ => rfl⟩
theorem melt_hom {B B' : Br} (m : Br.Hom B B') : ∀ {l : List ResultVar} {st : St} {k : St → B.ρ}, m.φ (meltK B l st k) = meltK B' l st fun st => m.φ (k st)
  | [], st, k => rfl
  | .cell _ _ :: l, st, k => by simp only [meltK]; exact melt_hom m
  | .tmp t :: l, st, k => by
    simp only [meltK]
    split
    · split
      · rw [m.gd, melt_hom m]
      · exact m.fail
    · exact melt_hom m
theorem body_sound (hE : EnvOK E) (hcp : PureOK E cp) (hce : EffOK E ce) {g : Nat} {hn : H} {args : List R} {h : Heap} {res : R × Heap} (hr : (bodyT E g cp ce hn args h).den = some res) :
    (∃ fn, E.P.funcs[g]? = some fn ∧ fn.body.isSome = true) ∧
    ∀ γ w vs, rdRs w γ args vs → tkRs γ [] [] args vs → HeapOK γ h [] [] w → OwOK γ w → (∀ b, w.heap.size ≤ b → γ.rd b = none) → γ.base ≤ w.heap.size → Calls E.P g vs.toArray w (EndsOK (fun r h => some (r, h)) res γ w) := by
  unfold bodyT at hr
  split at hr
  · rename_i fn hfn
    split at hr
    · rename_i c hc
      refine ⟨⟨fn, hfn, by simp [hc]⟩, fun γ0 w vs hrd0 htk0 hh0 ho0 hf hbase => ?_⟩
      have hrd := rdRs_mono (nb_sees (γ := γ0) (w := w) (n := h.length)) (fun _ _ x => x) _ _ hrd0
      have htk := tkRs_mono (γ := γ0) (γ' := γ0.setNb h.length) (dead := []) (dead' := []) (C := []) (C' := []) (fun _ x => x) (fun _ x => x) (fun k _ _ => .inr rfl) _ _ htk0
      have hh := hh0.setNb h.length
      have ho : OwOK (γ0.setNb h.length) w := ⟨ho0.own, ho0.inj⟩
      have hback : ∀ {γ' : Gh} {w' : World}, Ext (γ0.setNb h.length) w γ' w' → Ext γ0 w (γ'.setNb γ0.nb) w' ∧ ∀ (i b : Nat), γ0.bx[i]? = some b → (γ'.setNb γ0.nb).bx[i]? = some b := fun he => he.setNb (by rw [hh0.len]; exact Nat.le_refl _)
      replace hf : ∀ b, w.heap.size ≤ b → (γ0.setNb h.length).rd b = none := hf
      replace hbase : (γ0.setNb h.length).base ≤ w.heap.size := hbase
      have hnb : (γ0.setNb h.length).nb = h.length := rfl
      generalize hγ : γ0.setNb h.length = γ at *
      cases hn : args.length.ble fn.ntmps with
      | false => rw [hn] at hr; cases hr
      | true =>
        rw [hn] at hr
        simp only [cond_true] at hr
        have hn' := Nat.le_of_ble_eq_true hn
        have hlen := rdRs_len hrd
        refine calls_of_wp hfn hc ?_
        have hs : Sim γ ⟨initRegs 0 args, h, [], fn.ntmps, h.length⟩ [] { tmps := vs.toArray ++ Array.replicate (fn.ntmps - vs.toArray.size) Go.undef, defers := [] } w := by
          refine ⟨rfl, by simp; omega, fun s r hs => ?_, hh, ho, hf, hbase, hnb⟩
          obtain ⟨_, h2⟩ := init_look hs
          rw [Nat.sub_zero] at h2
          obtain ⟨v, h3, h4⟩ := rdRs_get' hrd h2
          have hlt := (List.getElem?_eq_some_iff.1 h3).1
          have e : (vs.toArray ++ Array.replicate (fn.ntmps - vs.toArray.size) Go.undef).getD s Go.undef = v := by
            rw [Array.getD_eq_getD_getElem?, Array.getElem?_append_left (by simpa using hlt)]
            simp [h3]
          simp only [e]
          exact ⟨h4, tkRs_get htk h2 h3⟩
        refine runT_sound (f := g) hE hcp hce c hr hs rfl fun e st' hx γ' a' w' he hs' hd' hk => ?_
        have key : (meltK (tB (R × Heap)) fn.results.toList st' fun st => match resR E fn.results.toList st with
            | some r => .leaf (thinR E g r, thinH E g (cutH h.length r st.heap))
            | none => .fail).den = some res → ∃ v, (results fn a'.tmps).run E.P w' = .ok v w' ∧ EndsOK (fun r h => some (r, h)) res γ0 w (.returned v) w' := fun hk => by
          obtain ⟨γ2, st2, he2, hs2, hk2, hd2⟩ := melt_sound _ hs' ((melt_hom (tH (R × Heap))).symm.trans hk)
          change (match resR E fn.results.toList st2 with
            | some r => .leaf (thinR E g r, thinH E g (cutH h.length r st2.heap))
            | none => .fail : Tr (R × Heap)).den = some res at hk2
          split at hk2
          · rename_i r h1
            simp only [Tr.den] at hk2
            obtain ⟨v, r1, r2, r3⟩ := resR_sound hE hs2 h1
            rw [hd2, hd'] at r3
            have hh' := hs2.heap
            rw [hd2, hd'] at hh'
            have hthin : ∀ {γ : Gh} {w : World} {h : Heap}, HeapOK γ h [] [] w → HeapOK γ (thinH E g h) [] [] w := fun {γ w h} hh => by
              unfold thinH
              cases mem g E.thin with
              | false => exact hh
              | true => exact hh.map nameOnly_strip fun d v hd => by cases d <;> simp only [D.strip, tkD]
            have hthr : ∀ {γ : Gh} {w : World} {v : Value}, rdR w γ r v → rdR w γ (thinR E g r) v := fun {γ w v} hh => by
              unfold thinR
              cases mem g E.thin with
              | false => exact hh
              | true => exact (rdR_map nameOnly_strip r v).2 hh
            have htht : ∀ {γ : Gh} {v : Value}, tkR γ [] [] r v → tkR γ [] [] (thinR E g r) v := fun {γ v} hh => by
              unfold thinR
              cases mem g E.thin with
              | false => exact hh
              | true => exact tkR_strip r v
            unfold cutH at hk2
            cases hcut : (!(st2.heap.length.beq h.length) && (r.refsBelow h.length && heapRefsOk h.length (st2.heap.take h.length))) with
            | false =>
              rw [hcut] at hk2
              obtain ⟨x1, x2⟩ := hback (he.trans he2)
              exact ⟨v, r1, v, thinR E g r, thinH E g st2.heap, γ2.setNb γ0.nb, rfl, hk2, x1, (hthin hh').setNb _, ⟨hs2.own.own, hs2.own.inj⟩, hs2.fresh, hs2.base, hthr (rdR_mono nb_sees (fun _ _ x => x) _ _ r2),
                htht (tkR_mono (γ := γ2) (γ' := γ2.setNb γ0.nb) (dead := []) (dead' := []) (fun _ x => x) (fun _ x => x) (fun k _ _ => .inr rfl) r _ r3), x2⟩
            | true =>
              rw [hcut] at hk2
              simp only [Bool.and_eq_true] at hcut
              obtain ⟨x1, x2⟩ := hback ((he.trans he2).cut (n := h.length) (γ' := γ2.cut h.length) (.inl (by rw [hh.len]; exact Nat.le_refl _)) rfl rfl (fun i b hi hb => by simp only [Gh.cut, List.getElem?_take, if_pos hi]; exact hb))
              exact ⟨v, r1, v, thinR E g r, thinH E g (st2.heap.take h.length), (γ2.cut h.length).setNb γ0.nb, rfl, hk2, x1, (hthin (hh'.cut hcut.2.2)).setNb _, ⟨(hs2.own.cut (n := h.length)).own, hs2.own.inj⟩, hs2.fresh, hs2.base, hthr (rdR_mono nb_sees (fun _ _ x => x) _ _ (rdR_cut r _ hcut.2.1 r2)),
                htht (tkR_mono (γ := γ2) (γ' := (γ2.cut h.length).setNb γ0.nb) (dead := []) (dead' := []) (fun _ x => x) (fun _ x => x) (fun k _ _ => .inr rfl) r _ r3), x2⟩
          · cases hk2
        cases e with
        | normal => exact ⟨hs'.dfr, key hk⟩
        | exit j => cases hk
        | ret => exact ⟨hs'.dfr, key hk⟩
    · cases hr
  · cases hr
theorem rdC_cells2 {g : Gh} : ∀ {ds : List D} {vs : List Value} {b o : Nat}, rdL w g ds vs → (∀ (i : Nat) v, vs[i]? = some v → w.cell? ⟨b, o + i, none⟩ = some v ∧ g.may b (o + i)) → rdC w g ds b o
  | [], [], b, o, _, _ => by simp only [rdC]
  | d :: ds, v :: vs, b, o, h, hc => by
    simp only [rdL] at h
    simp only [rdC]
    obtain ⟨c1, c2⟩ := hc 0 v rfl
    refine ⟨⟨v, by simpa using c1, by simpa using c2, h.1⟩, rdC_cells2 h.2 fun i u hu => ?_⟩
    have := hc (i + 1) u (by simpa using hu)
    rwa [show o + (i + 1) = o + 1 + i by omega] at this
  | [], _ :: _, _, _, h, _ => by simp only [rdL] at h
  | _ :: _, [], _, _, h, _ => by simp only [rdL] at h
theorem rdL_mapF {g g' : Gh} {F : D → D} (hF : ∀ d v, rdD w g d v → rdD w g' (F d) v) : ∀ {ds : List D} {vs : List Value}, rdL w g ds vs → rdL w g' (ds.map F) vs
  | [], [], _ => by simp [rdL]
  | d :: ds, v :: vs, h => by
    simp only [rdL] at h
    simp only [List.map_cons, rdL]
    exact ⟨hF d v h.1, rdL_mapF hF h.2⟩
  | [], _ :: _, h => by simp only [rdL] at h
  | _ :: _, [], h => by simp only [rdL] at h
theorem rdC_mapF {g g' : Gh} {F : D → D} (hs : Sees g w g' w) (hF : ∀ d v, rdD w g d v → rdD w g' (F d) v) : ∀ {ds : List D} {b o : Nat}, rdC w g ds b o → rdC w g' (ds.map F) b o
  | [], b, o, _ => by simp [rdC]
  | d :: ds, b, o, h => by
    simp only [rdC] at h
    simp only [List.map_cons, rdC]
    obtain ⟨⟨u, h1, h2, h3⟩, h4⟩ := h
    exact ⟨⟨u, h1, (hs.cells b o u h2 h1).2, hF d u h3⟩, rdC_mapF hs hF h4⟩
theorem rdL_drop2 {g : Gh} : ∀ {ds : List D} {vs : List Value} {n : Nat}, rdL w g ds vs → rdL w g (ds.drop n) (vs.drop n)
  | [], [], n, _ => by simp [rdL]
  | d :: ds, v :: vs, 0, h => by simpa using h
  | d :: ds, v :: vs, n + 1, h => by
    simp only [rdL] at h
    simpa using rdL_drop2 (n := n) h.2
  | [], _ :: _, _, h => by simp only [rdL] at h
  | _ :: _, [], _, h => by simp only [rdL] at h
theorem freeze_sound {h : Heap} (hh : HeapOK γ h [] [] w) : ∀ (n : Nat) (d : D) (v : Value), rdD w γ d v → rdD w γ.open (d.freeze h n) v
  | 0, d, v, hv => by simp only [D.freeze, rdD]; exact rdD_scalar hv
  | n + 1, .ref i off, v, hv => by
    simp only [D.freeze]
    split
    · rename_i ds hds
      cases hpl : plainB ds with
      | false => simp only [cond_false, rdD] at hv ⊢; obtain ⟨b, _, rfl⟩ := hv; trivial
      | true =>
      simp only [cond_true, rdD] at hv ⊢
      obtain ⟨b, hb, rfl⟩ := hv
      rcases hh.box i ds b hds hb with ⟨⟨arr, ty, e1, e2, _⟩, _, _⟩ | gg
      case inr => have g1 := gg.plain hpl; subst g1; exact ⟨b, off, rfl, by simp [rdC]⟩
      rw [plain_expand hpl, cutV_plain hpl] at e2
      refine ⟨b, off, rfl, rdC_cells2 (vs := arr.toList.drop off) (rdL_mapF (freeze_sound hh n) (rdL_drop2 e2)) fun j u hu => ?_⟩
      rw [List.getElem?_drop] at hu
      refine ⟨?_, ?_⟩
      · have hu' : arr[off + j]? = some u := by simpa using hu
        simp [World.cell?, e1, hu']
      · have : b ∈ γ.bx := List.mem_iff_getElem?.2 ⟨i, hb⟩
        simp [Gh.may, Gh.open, this]
    · simp only [rdD] at hv ⊢
      obtain ⟨b, _, rfl⟩ := hv
      trivial
  | n + 1, .fn f caps, v, hv => by
    simp only [D.freeze, rdD] at hv ⊢
    obtain ⟨vs, rfl, hl⟩ := hv
    exact ⟨vs, rfl, rdL_mapF (freeze_sound hh n) hl⟩
  | n + 1, .cell c, v, hv => by
    simp only [D.freeze, rdD] at hv ⊢
    obtain ⟨b, o, rfl, hc⟩ := hv
    exact ⟨b, o, rfl, rdC_mapF open_sees (freeze_sound hh n) hc⟩
  | n + 1, .g t x, v, hv => by simp only [D.freeze, D.strip, rdD] at hv ⊢; exact rdT_mono open_sees t x v hv
  | n + 1, .ow e xs k, v, hv => by simp only [D.freeze, D.strip, rdD] at hv ⊢; exact rdT_mono open_sees (.sl e) xs v hv
  | n + 1, .nilFn, v, hv => by simpa only [D.freeze, D.strip, rdD] using hv
  | n + 1, .nilPtr, v, hv => by simpa only [D.freeze, D.strip, rdD] using hv
  | n + 1, .undef, v, hv => by simpa only [D.freeze, D.strip, rdD] using hv
  | n + 1, .nilS _, v, hv => by simpa only [D.freeze, D.strip, rdD] using hv
  | n + 1, .vec _ _, v, hv => by simp only [rdD] at hv
  | n + 1, .sem _, v, hv => by simp only [rdD] at hv
  | n + 1, .vref _ _, v, hv => by have := rdD_scalar hv; simpa only [D.freeze, rdD] using this
  | n + 1, .vat _ _, v, hv => by have := rdD_scalar hv; simpa only [D.freeze, rdD] using this
  | n + 1, .alt p q x, v, hv => by simp only [D.freeze, D.strip, rdD] at hv ⊢; exact rdP_mono open_sees (.alt p q) x v hv
  | n + 1, .chn _, v, hv => by have := rdD_scalar hv; simpa only [D.freeze, rdD] using this
def Gh.back (γ0 γ : Gh) (dst : Nat) (x : Option Hdr) : Gh := ⟨γ0.bx, fun b => if b ∈ γ.bx then none else γ.rd b, fun k => if k = .s dst then x else γ0.ow k, γ0.base, γ0.nb⟩
def headTok : R → Option Tok
  | .one (.ow _ _ k) => some k
  | .tup (.one (.ow _ _ k) :: _) => some k
  | _ => none
mutual
def D.noRef : D → Bool
  | .ref _ _ => false
  | .fn _ caps => noRefs caps
  | .cell c => noRefs c
  | .vref _ _ => false
  | .vat _ _ => false
  | .chn _ => false
  | _ => true
def noRefs : List D → Bool
  | [] => true
  | d :: ds => d.noRef && noRefs ds
end
theorem noRefs_map {F : D → D} (hF : ∀ d, (F d).noRef = true) : ∀ (l : List D), noRefs (l.map F) = true
  | [] => by simp only [List.map_nil, noRefs]
  | d :: l => by simp only [List.map_cons, noRefs, hF d, noRefs_map hF l, Bool.and_true]
theorem freeze_noRef {h : Heap} : ∀ (n : Nat) (d : D), (d.freeze h n).noRef = true
  | 0, d => by simp only [D.freeze, D.noRef]
  | n + 1, .ref i off => by
    simp only [D.freeze]
    split
    · rename_i ds _
      cases plainB ds
      · simp only [cond_false, D.noRef]
      · simp only [cond_true, D.noRef]; exact noRefs_map (freeze_noRef n) _
    · simp only [D.noRef]
  | n + 1, .fn f caps => by simp only [D.freeze, D.noRef]; exact noRefs_map (freeze_noRef n) _
  | n + 1, .cell c => by simp only [D.freeze, D.noRef]; exact noRefs_map (freeze_noRef n) _
  | n + 1, .g t x => by simp only [D.freeze, D.strip, D.noRef]
  | n + 1, .ow e xs k => by simp only [D.freeze, D.strip, D.noRef]
  | n + 1, .nilFn => by simp only [D.freeze, D.strip, D.noRef]
  | n + 1, .nilPtr => by simp only [D.freeze, D.strip, D.noRef]
  | n + 1, .undef => by simp only [D.freeze, D.strip, D.noRef]
  | n + 1, .nilS _ => by simp only [D.freeze, D.strip, D.noRef]
  | n + 1, .vec _ _ => by simp only [D.freeze, D.strip, D.noRef]
  | n + 1, .sem _ => by simp only [D.freeze, D.strip, D.noRef]
  | n + 1, .vref _ _ => by simp only [D.freeze, D.noRef]
  | n + 1, .vat _ _ => by simp only [D.freeze, D.noRef]
  | n + 1, .alt p q x => by simp only [D.freeze, D.strip, D.noRef]
  | n + 1, .chn _ => by simp only [D.freeze, D.noRef]
mutual
theorem rdD_noRef {g g' : Gh} (hrd : g'.rd = g.rd) : (d : D) → (v : Value) → d.noRef = true → rdD w g d v → rdD w g' d v
  | .g t x, v, _, h => by simp only [rdD] at h ⊢; exact rdT_mono (γ := g) (w := w) (w' := w) (γ' := g') ⟨fun b _ _ h1 h2 => ⟨h2, (may_congr (congrFun hrd b)).2 h1⟩⟩ t x v h
  | .ow e xs _, v, _, h => by simp only [rdD] at h ⊢; exact rdT_mono (γ := g) (w := w) (w' := w) (γ' := g') ⟨fun b _ _ h1 h2 => ⟨h2, (may_congr (congrFun hrd b)).2 h1⟩⟩ (.sl e) xs v h
  | .fn f caps, v, hb, h => by
    simp only [rdD] at h ⊢
    simp only [D.noRef] at hb
    obtain ⟨vs, rfl, hl⟩ := h
    exact ⟨vs, rfl, rdL_noRef hrd caps _ hb hl⟩
  | .nilFn, v, _, h => by simpa only [rdD] using h
  | .nilPtr, v, _, h => by simpa only [rdD] using h
  | .cell c, v, hb, h => by
    simp only [rdD] at h ⊢
    simp only [D.noRef] at hb
    obtain ⟨b, o, rfl, hc⟩ := h
    exact ⟨b, o, rfl, rdC_noRef hrd c b o hb hc⟩
  | .ref i off, v, hb, h => by simp only [D.noRef, Bool.false_eq_true] at hb
  | .undef, v, _, h => by simpa only [rdD] using h
  | .nilS _, v, _, h => by simpa only [rdD] using h
  | .vec _ _, v, _, h => by simp only [rdD] at h
  | .sem _, v, _, h => by simp only [rdD] at h
  | .vref _ _, v, hb, h => by simp only [D.noRef, Bool.false_eq_true] at hb
  | .vat _ _, v, hb, h => by simp only [D.noRef, Bool.false_eq_true] at hb
  | .alt p q x, v, hb, h => by simp only [rdD] at h ⊢; exact rdP_mono (γ := g) (w := w) (w' := w) (γ' := g') ⟨fun b _ _ h1 h2 => ⟨h2, (may_congr (congrFun hrd b)).2 h1⟩⟩ (.alt p q) x v h
  | .chn _, v, hb, h => by simp only [D.noRef, Bool.false_eq_true] at hb
theorem rdL_noRef {g g' : Gh} (hrd : g'.rd = g.rd) : (ds : List D) → (vs : List Value) → noRefs ds = true → rdL w g ds vs → rdL w g' ds vs
  | [], [], _, _ => by simp only [rdL]
  | d :: ds, v :: vs, hb, h => by
    simp only [noRefs, Bool.and_eq_true] at hb
    simp only [rdL] at h ⊢
    exact ⟨rdD_noRef hrd d v hb.1 h.1, rdL_noRef hrd ds vs hb.2 h.2⟩
  | [], _ :: _, _, h => by simp only [rdL] at h
  | _ :: _, [], _, h => by simp only [rdL] at h
theorem rdC_noRef {g g' : Gh} (hrd : g'.rd = g.rd) : (ds : List D) → (b o : Nat) → noRefs ds = true → rdC w g ds b o → rdC w g' ds b o
  | [], _, _, _, _ => by simp only [rdC]
  | d :: ds, b, o, hb, h => by
    simp only [noRefs, Bool.and_eq_true] at hb
    simp only [rdC] at h ⊢
    obtain ⟨⟨u, h1, h2, h3⟩, h4⟩ := h
    exact ⟨⟨u, h1, (may_congr (congrFun hrd b)).2 h2, rdD_noRef hrd d u hb.1 h3⟩, rdC_noRef hrd ds b (o + 1) hb.2 h4⟩
end
theorem froze {h : Heap} {g : Gh} (hh : HeapOK γ h [] [] w) (hrd : g.rd = γ.open.rd) {d : D} {v : Value} (hv : rdD w γ d v) : rdD w g (d.freeze h 9) v := rdD_noRef hrd _ v (freeze_noRef 9 d) (freeze_sound hh 9 d v hv)
theorem frozeL {h : Heap} {g : Gh} (hh : HeapOK γ h [] [] w) (hrd : g.rd = γ.open.rd) {ds : List D} {vs : List Value} (hv : rdL w γ ds vs) : rdL w g (ds.map fun d => d.freeze h 9) vs := rdL_mapF (fun d v hv => froze hh hrd hv) hv
theorem finTail {h : Heap} {g : Gh} (hh : HeapOK γ h [] [] w) (hrd : g.rd = γ.open.rd) {F : R → R} (hF : F = fun r => match r with
    | .one d => .one (d.freeze h 9)
    | .agg ds => .agg (ds.map fun d => d.freeze h 9)
    | _ => .undef) : ∀ {rs : List R} {vs : List Value}, rdRs w γ rs vs → rdRs w g (rs.map F) vs
  | [], [], _ => by simp [rdRs]
  | r :: rs, v :: vs, hr => by
    simp only [rdRs] at hr
    simp only [List.map_cons, rdRs]
    refine ⟨?_, finTail hh hrd hF hr.2⟩
    subst hF
    cases r with
    | one d => simp only [rdR] at hr ⊢; exact froze hh hrd hr.1
    | agg ds =>
      simp only [rdR] at hr ⊢
      obtain ⟨⟨us, rfl, h1⟩, _⟩ := hr
      exact ⟨us, rfl, frozeL hh hrd h1⟩
    | _ => simp only [rdR]
  | [], _ :: _, h => by simp only [rdRs] at h
  | _ :: _, [], h => by simp only [rdRs] at h
theorem finTop_sound {h : Heap} {g : Gh} {r : R} {v : Value} (hh : HeapOK γ h [] [] w) (hrd : g.rd = γ.open.rd) (hr : rdR w γ r v) : rdR w g (finTop h r) v := by
  cases r with
  | one d =>
    cases d with
    | ow e xs k =>
      simp only [finTop, rdR, rdD] at hr ⊢
      have := froze (g := g) (d := .ow e xs k) hh hrd (by simpa only [rdD] using hr)
      simpa only [D.freeze, D.strip, rdD] using this
    | _ => simp only [rdR] at hr; exact by simp only [finTop, rdR]; exact froze hh hrd hr
  | agg ds =>
    simp only [rdR] at hr
    obtain ⟨us, rfl, h1⟩ := hr
    simp only [finTop, rdR]
    exact ⟨us, rfl, frozeL hh hrd h1⟩
  | tup rs =>
    simp only [rdR] at hr
    obtain ⟨us, rfl, h1⟩ := hr
    simp only [finTop, rdR]
    exact ⟨us, rfl, finTail hh hrd rfl h1⟩
  | undef => simp only [finTop, rdR]
  | skip => simpa only [finTop, rdR] using hr
theorem fin_sound {h : Heap} {g : Gh} {r : R} {v : Value} (hh : HeapOK γ h [] [] w) (hrd : g.rd = γ.open.rd) (hr : rdR w γ r v) : rdR w g (fin h r) v := by
  unfold fin
  split
  · rename_i r rs
    simp only [finTop]
    simp only [rdR] at hr ⊢
    obtain ⟨us, rfl, h1⟩ := hr
    refine ⟨us, rfl, ?_⟩
    cases hus : us.toList with
    | nil => rw [hus] at h1; simp only [rdRs] at h1
    | cons u us' =>
      rw [hus] at h1
      simp only [rdRs] at h1 ⊢
      exact ⟨finTop_sound hh hrd h1.1, finTail hh hrd rfl h1.2⟩
  · exact finTop_sound hh hrd hr
theorem ownD_freeze {h : Heap} {g : Gh} {dst n : Nat} {d : D} {v : Value} : ownD' g dst (D.freeze h n d) v := by
  cases n with
  | zero => simp only [D.freeze, ownD']
  | succ n =>
    cases d <;> simp only [D.freeze, D.strip, ownD']
    case ref i off =>
      cases h[i]? with
      | none => trivial
      | some ds => simp only; cases plainB ds <;> trivial
theorem ownTop_tup {g : Gh} {dst : Nat} {q : R} {l : List R} {v : Value} (h : ∀ d, q = .one d → ∀ vs, v = .tuple vs → ∀ u, vs[0]? = some u → ownD' g dst d u) : ownTop g dst (.tup (q :: l)) v := by
  cases q with
  | one d =>
    cases v with
    | tuple vs => simp only [ownTop]; exact h d rfl vs rfl
    | _ => simp only [ownTop]
  | _ => simp only [ownTop]
theorem fin_own {h : Heap} {g : Gh} {r : R} {v : Value} {dst : Nat} (ht : tkR γ [] [] r v) (hg : ∀ k, headTok r = some k → g.ow (.s dst) = γ.ow k) : ownTop g dst (fin h r) v := by
  unfold fin
  split
  · rename_i r rs
    simp only [finTop]
    refine ownTop_tup fun d hd vs hv u hu => ?_
    subst hv
    cases r with
    | one d' =>
      cases d' with
      | ow e xs k =>
        simp only [R.one.injEq] at hd
        subst hd
        simp only [tkR] at ht
        cases hvs : vs.toList with
        | nil => simp at hvs; subst hvs; simp at hu
        | cons u' us =>
          rw [hvs] at ht
          simp only [tkRs, tkR, tkD, tokIn, Bool.false_eq_true, false_or] at ht
          have e : u' = u := by
            have : vs[0]? = vs.toList[0]? := by simp
            rw [this, hvs] at hu
            simpa using hu
          subst e
          simp only [ownD']
          rw [hg k rfl]
          exact ht.1.1
      | _ => simp only [R.one.injEq] at hd; subst hd; exact ownD_freeze
    | _ => cases hd
  · rename_i hne
    cases r with
    | one d =>
      cases d with
      | ow e xs k =>
        simp only [tkR, tkD, tokIn, Bool.false_eq_true, false_or] at ht
        simp only [finTop, ownTop, ownD']
        rw [hg k rfl]
        exact ht.1
      | _ => simp only [finTop, ownTop]; exact ownD_freeze
    | tup rs =>
      cases rs with
      | nil => simp only [finTop, List.map_nil, ownTop]
      | cons r rs => exact absurd rfl (hne r rs)
    | _ => simp only [finTop, ownTop]
mutual
theorem noRef_of : (d : D) → d.hasRef = false → d.noRef = true
  | .ref _ _, h => by simp only [D.hasRef, Bool.true_eq_false] at h
  | .fn f caps, h => by simp only [D.hasRef] at h; simp only [D.noRef]; exact noRefs_of caps h
  | .cell c, h => by simp only [D.hasRef] at h; simp only [D.noRef]; exact noRefs_of c h
  | .g _ _, _ => by simp only [D.noRef]
  | .ow _ _ _, _ => by simp only [D.noRef]
  | .nilFn, _ => by simp only [D.noRef]
  | .nilPtr, _ => by simp only [D.noRef]
  | .undef, _ => by simp only [D.noRef]
  | .nilS _, _ => by simp only [D.noRef]
  | .vec _ _, _ => by simp only [D.noRef]
  | .sem _, _ => by simp only [D.noRef]
  | .vref _ _, h => by simp only [D.hasRef, Bool.true_eq_false] at h
  | .vat _ _, h => by simp only [D.hasRef, Bool.true_eq_false] at h
  | .alt _ _ _, _ => by simp only [D.noRef]
  | .chn _, h => by simp only [D.hasRef, Bool.true_eq_false] at h
theorem noRefs_of : (ds : List D) → hasRefs ds = false → noRefs ds = true
  | [], _ => by simp only [noRefs]
  | d :: ds, h => by
    simp only [hasRefs, Bool.or_eq_false_iff] at h
    simp only [noRefs, noRef_of d h.1, noRefs_of ds h.2, Bool.and_true]
end
theorem rdR_noRef {g g' : Gh} (hrd : g'.rd = g.rd) : (r : R) → (v : Value) → r.hasRef = false → rdR w g r v → rdR w g' r v
  | .one d, v, hb, h => by simp only [R.hasRef] at hb; simp only [rdR] at h ⊢; exact rdD_noRef hrd d v (noRef_of d hb) h
  | .agg ds, v, hb, h => by
    simp only [R.hasRef] at hb
    simp only [rdR] at h ⊢
    obtain ⟨vs, rfl, hl⟩ := h
    exact ⟨vs, rfl, rdL_noRef hrd ds _ (noRefs_of ds hb) hl⟩
  | .tup rs, v, hb, h => by simp only [R.hasRef, Bool.true_eq_false] at hb
  | .undef, v, _, h => by simp only [rdR]
  | .skip, v, _, h => by simpa only [rdR] using h
theorem rdRs_noRef {g g' : Gh} (hrd : g'.rd = g.rd) : (rs : List R) → (vs : List Value) → anyRef rs = false → rdRs w g rs vs → rdRs w g' rs vs
  | [], [], _, _ => by simp only [rdRs]
  | r :: rs, v :: vs, hb, h => by
    simp only [anyRef, Bool.or_eq_false_iff] at hb
    simp only [rdRs] at h ⊢
    exact ⟨rdR_noRef hrd r v hb.1 h.1, rdRs_noRef hrd rs vs hb.2 h.2⟩
  | [], _ :: _, _, h => by simp only [rdRs] at h
  | _ :: _, [], _, h => by simp only [rdRs] at h
theorem pure_sound {g : R → R} (hg : ∀ (w : World) (γ : Gh) r v, rdR w γ r v → rdR w γ (g r) v) (hgo : ∀ (γ : Gh) dst r v, ownTop γ dst r v → ownTop γ dst (g r) v) (hE : EnvOK E) (hcp : PureOK E cp) (hce : EffOK E ce) {f : Nat} {hn : H} {args : List R} {res : R × Heap}
    (hb : (anyRef args || R.hasOwL args) = false) (hr : (bodyT E f cp ce hn args []).den = some res) :
    (∃ fn, E.P.funcs[f]? = some fn ∧ fn.body.isSome = true) ∧ ∀ γ w vs dst, rdRs w γ args vs → (∀ b, w.heap.size ≤ b → γ.rd b = none) → γ.base ≤ w.heap.size → (∀ b ∈ γ.bx, b < w.heap.size) →
    Calls E.P f vs.toArray w fun e w' => ∃ v γ', e = .returned v ∧ Grow γ w γ' w' dst ∧ rdR w' γ' (g (fin res.2 res.1)) v ∧ ownTop γ' dst (g (fin res.2 res.1)) v := by
    simp only [Bool.or_eq_false_iff] at hb
    obtain ⟨h1, h2⟩ := body_sound hE hcp hce hr
    refine ⟨h1, fun γ w vs dst hrd hf hbase hbx => ?_⟩
    let γ0 : Gh := ⟨[], γ.rd, fun _ => none, w.heap.size, 0⟩
    have hrd0 : rdRs w γ0 args vs := rdRs_noRef (g := γ) (g' := γ0) rfl args vs hb.1 hrd
    refine (h2 γ0 w vs hrd0 (tkRs_noOw args vs hb.2) ⟨rfl, fun i ds b hi => by simp at hi, List.nodup_nil⟩ ⟨fun k h hk => (by cases hk), fun k k' h h' hk => (by cases hk)⟩ hf (Nat.le_refl _)).mono fun e w' ⟨v, q, h', γ', he, hk, hext, hh, ho, hf', hb', hq, hqt, _⟩ => ?_
    have hk := Option.some.inj hk
    subst hk
    have hb0 : γ'.base = w.heap.size := hext.base
    refine ⟨v, γ.back γ' dst ((headTok q).bind γ'.ow), he, ⟨hext.low, rfl, rfl, rfl, fun b hlt => ?_, fun b hge => ?_, fun k hk => ?_, fun hd hhd => ?_⟩, hg _ _ _ _ (fin_sound hh rfl hq), hgo _ _ _ _ (fin_own hqt fun k hk => ?_)⟩
    · have hnb : b ∉ γ'.bx := fun hm => by
        obtain ⟨i, hi⟩ := List.mem_iff_getElem?.1 hm
        have hlen : i < h'.length := by rw [hh.len]; exact (List.getElem?_eq_some_iff.1 hi).1
        have : γ'.base ≤ b := by
          rcases hh.box i h'[i] b (by simp) hi with g | g
          · exact g.base
          · exact g.1
        omega
      simp only [Gh.back, if_neg hnb]
      exact hext.rdlow b hlt
    · simp only [Gh.back]
      split
      · rfl
      · exact hf' b hge
    · simp only [Gh.back, if_neg hk]
    · simp only [Gh.back, if_true] at hhd
      obtain ⟨k, hk1, hk2⟩ := Option.bind_eq_some_iff.1 hhd
      obtain ⟨o1, o2⟩ := ho.own k hd hk2
      refine ⟨⟨o1, fun hc => ?_⟩, fun hc b o s hA => ?_⟩
      · obtain ⟨b, arr, ty, e1, e2, e3, e4, e5, e6⟩ := o2 hc
        refine ⟨b, arr, ty, e1, e2, e3, ?_, ?_, fun hm => ?_⟩
        · simp only [Gh.back, if_neg e6]; exact e4
        · simp only [Gh.back]; omega
        · have := hbx b hm; omega
      · obtain ⟨b', arr, ty, e1, e2, e3, e4, e5, e6⟩ := o2 hc
        rw [e1] at hA
        cases hA
        omega
    · simp only [Gh.back, if_true, hk, Option.bind_some]
end
end Go.V
namespace Go.V
open Go.RowKit
set_option linter.unusedVariables false
def zeroB1 : D → Value → Bool
  | .g (.int k) x, .int k' y => decide (k = k') && decide (x = y)
  | .g .bool x, .bool y => x == y
  | .g (.sl _) [], .slice none 0 0 => true
  | .nilFn, .nilFunc => true
  | .nilPtr, .pointer none => true
  | .undef, .int _ _ => true
  | .undef, .bool _ => true
  | .undef, .string _ => true
  | _, _ => false
def zeroB : List D → List Value → Bool
  | [], [] => true
  | d :: ds, v :: vs => zeroB1 d v && zeroB ds vs
  | _, _ => false
theorem zeroB1_sound {w : World} {γ : Gh} {d : D} {v : Value} (h : zeroB1 d v = true) : rdD w γ d v ∧ d.strip = d := by
  unfold zeroB1 at h
  split at h
  · simp only [Bool.and_eq_true, decide_eq_true_eq] at h
    obtain ⟨rfl, rfl⟩ := h
    exact ⟨by simp only [rdD, rdT], rfl⟩
  · have := eq_of_beq h
    subst this
    exact ⟨by simp only [rdD, rdT], rfl⟩
  · refine ⟨?_, rfl⟩
    simp only [rdD, rdT]
    exact ⟨none, 0, rfl, Nat.le_refl _, fun i hi => absurd hi (by simp)⟩
  · exact ⟨by simp only [rdD], rfl⟩
  · exact ⟨by simp only [rdD], rfl⟩
  · exact ⟨by simp only [rdD]; trivial, rfl⟩
  · exact ⟨by simp only [rdD]; trivial, rfl⟩
  · exact ⟨by simp only [rdD]; trivial, rfl⟩
  · cases h
theorem zeroB_sound {w : World} {γ : Gh} : ∀ {ds : List D} {vs : List Value}, zeroB ds vs = true → rdL w γ ds vs ∧ ds.map D.strip = ds
  | [], [], _ => ⟨by simp only [rdL], rfl⟩
  | d :: ds, v :: vs, h => by
    simp only [zeroB, Bool.and_eq_true] at h
    obtain ⟨h1, h2⟩ := zeroB1_sound (w := w) (γ := γ) h.1
    obtain ⟨h3, h4⟩ := zeroB_sound (w := w) (γ := γ) h.2
    exact ⟨by simp only [rdL]; exact ⟨h1, h3⟩, by rw [List.map_cons, h2, h4]⟩
  | [], _ :: _, h => by cases h
  | _ :: _, [], h => by cases h
def notTup : TD → Bool
  | .tup _ => false
  | _ => true
theorem notTup_sound {d : TD} (h : notTup d = true) (ts : List Nat) : d ≠ .tup ts := by rintro rfl; cases h
def elemB (E : Env) (e : Nat) : Bool := match E.ti e with
  | some te => notTup te.d
  | none => true
theorem elemB_sound {E : Env} {e : Nat} (h : elemB E e = true) : ∀ te, E.ti e = some te → ∀ ts, te.d ≠ .tup ts := fun te hte ts => by
  unfold elemB at h
  rw [hte] at h
  exact notTup_sound h ts
def fieldsB (E : Env) (fields : Array Field) : Nat → List (Nat × Nat) → Bool
  | _, [] => true
  | i, (off, ft) :: fs => (match fields[i]? with
    | some f => f.offset.beq off && Nat.beq f.type ft && elemB E ft && (match E.P.info? ft with
      | some i => !(i.size.beq 0)
      | none => false)
    | none => false) && fieldsB E fields (i + 1) fs
theorem fieldsB_sound {E : Env} {fields : Array Field} : ∀ {fs : List (Nat × Nat)} {j : Nat}, fieldsB E fields j fs = true → ∀ (i off ft : Nat), fs[i]? = some (off, ft) → ∃ f, fields[j + i]? = some f ∧ f.offset = off ∧ f.type = ft ∧
    (∀ te, E.ti ft = some te → ∀ ts, te.d ≠ .tup ts) ∧ ∃ i, E.P.info? ft = some i ∧ i.size ≠ 0
  | [], j, _, i, off, ft, hi => by simp at hi
  | (o, t) :: fs, j, h, i, off, ft, hi => by
    simp only [fieldsB, Bool.and_eq_true] at h
    cases i with
    | zero =>
      simp only [List.getElem?_cons_zero, Option.some.injEq, Prod.mk.injEq] at hi
      obtain ⟨rfl, rfl⟩ := hi
      have h1 := h.1
      split at h1
      · rename_i f hf
        simp only [Bool.and_eq_true, nbeq] at h1
        obtain ⟨⟨⟨a1, a2⟩, a3⟩, a4⟩ := h1
        split at a4
        · rename_i x hx
          exact ⟨f, by simpa using hf, a1, a2, elemB_sound a3, x, hx, by simpa [nbeq_false] using a4⟩
        · cases a4
      · cases h1
    | succ i =>
      obtain ⟨f, h1, h2⟩ := fieldsB_sound h.2 i off ft (by simpa using hi)
      exact ⟨f, by rw [show j + (i + 1) = j + 1 + i by omega]; exact h1, h2⟩
def descB (E : Env) (t : Nat) (d : TD) : Bool := match d, E.P.underlying t with
  | .int k, some (.int k') => decide (k = k')
  | .bool, some .bool => true
  | .slice e, some (.slice e') => Nat.beq e e' && elemB E e
  | .array n e, some (.array n' e') => Nat.beq n n' && Nat.beq e e' && elemB E e
  | .struct fs, some (.struct fields) => fs.length.beq fields.size && fieldsB E fields 0 fs
  | .ptr e, some (.pointer e') => Nat.beq e e'
  | .func, some (.func _ _ _) => true
  | .tup _, _ => true
  | _, _ => false
theorem zeroB_nilz {w : World} {γ : Gh} : ∀ {ds : List D} {vs : List Value}, zeroB ds vs = true → rdL w γ (ds.map D.nilz) vs ∧ (ds.map D.nilz).map D.strip = ds.map D.nilz
  | [], [], _ => ⟨by simp only [List.map_nil, rdL], rfl⟩
  | d :: ds, v :: vs, h => by
    simp only [zeroB, Bool.and_eq_true] at h
    obtain ⟨h1, h2⟩ := zeroB1_sound (w := w) (γ := γ) h.1
    obtain ⟨h3, h4⟩ := zeroB_nilz (w := w) (γ := γ) h.2
    have key : rdD w γ d.nilz v ∧ d.nilz.strip = d.nilz := by
      have q := h.1
      unfold zeroB1 at q
      split at q
      case h_3 => exact ⟨by simp only [D.nilz, rdD], rfl⟩
      all_goals first | exact ⟨h1, h2⟩ | cases q
    exact ⟨by simp only [List.map_cons, rdL]; exact ⟨key.1, h3⟩, by rw [List.map_cons, List.map_cons, key.2, h4]⟩
  | [], _ :: _, h => by cases h
  | _ :: _, [], h => by cases h
def infoB (E : Env) (t : Nat) (ti : TI) : Bool := match E.P.info? t with
  | some i => i.size.beq ti.size && i.bytes.ble 65536 && (match i.zero with
    | some z => z.cells.size.beq ti.size && zeroB ti.zero z.cells.toList
    | none => false)
  | none => false
def tiB (E : Env) (t : Nat) (ti : TI) : Bool := (ti.agg == isAggD ti.d) && (!(notTup ti.d) || infoB E t ti) && descB E t ti.d && (notTup ti.d || ti.gl.isNone)
theorem tiB_sound {E : Env} {t : Nat} {ti : TI} (h : tiB E t ti = true) : TiOK E t ti := by
  simp only [tiB, Bool.and_eq_true, Bool.or_eq_true, Bool.not_eq_true'] at h
  obtain ⟨⟨⟨h1, h2⟩, h3⟩, h4⟩ := h
  refine ⟨eq_of_beq h1, fun hn => ?_, ?_, fun ts hts => ?_⟩
  · have hi : infoB E t ti = true := h2.resolve_left fun e => by
      cases hd : ti.d <;> first | exact hn _ hd | (rw [hd] at e; cases e)
    unfold infoB at hi
    split at hi
    · rename_i i hi'
      simp only [Bool.and_eq_true, nbeq] at hi
      obtain ⟨⟨a1, a2⟩, a3⟩ := hi
      split at a3
      · rename_i z hz
        simp only [Bool.and_eq_true, nbeq] at a3
        exact ⟨i, hi', a1, Nat.le_of_ble_eq_true a2, z, hz, a3.1, fun w γ => (zeroB_sound a3.2).1, (zeroB_sound (w := default) (γ := ⟨[], fun _ => none, fun _ => none, 0, 0⟩) a3.2).2, fun f d => by
          unfold zeroOf
          cases mem d ((look E.nils f).getD []) with
          | true => exact ⟨fun w γ => (zeroB_nilz a3.2).1, (zeroB_nilz (w := default) (γ := ⟨[], fun _ => none, fun _ => none, 0, 0⟩) a3.2).2⟩
          | false => exact ⟨fun w γ => (zeroB_sound a3.2).1, (zeroB_sound (w := default) (γ := ⟨[], fun _ => none, fun _ => none, 0, 0⟩) a3.2).2⟩⟩
      · cases a3
    · cases hi
  · generalize hd : ti.d = d at h3
    unfold descB at h3
    split at h3
    · rename_i k k' hu; simp only [decide_eq_true_eq] at h3; subst h3; exact hu
    · rename_i hu; exact hu
    · rename_i e e' hu; simp only [Bool.and_eq_true, nbeq] at h3; obtain ⟨rfl, h3⟩ := h3; exact ⟨hu, elemB_sound h3⟩
    · rename_i n e n' e' hu; simp only [Bool.and_eq_true, nbeq] at h3; obtain ⟨⟨rfl, rfl⟩, h3⟩ := h3; exact ⟨hu, elemB_sound h3⟩
    · rename_i fs fields hu
      simp only [Bool.and_eq_true, nbeq] at h3
      exact ⟨fields, hu, h3.1, fun i off ft hi => by have := fieldsB_sound h3.2 i off ft hi; rwa [Nat.zero_add] at this⟩
    · rename_i e e' hu; simp only [nbeq] at h3; subst h3; exact hu
    · rename_i a b c hu; exact ⟨a, b, c, hu⟩
    · trivial
    · cases h3
  · rcases h4 with h4 | h4
    · rw [hts] at h4; cases h4
    · simpa using h4
def tabB (E : Env) : List (Nat × TI) → Bool
  | [] => true
  | (t, ti) :: l => tiB E t ti && tabB E l
theorem tabB_sound {E : Env} : ∀ {l : List (Nat × TI)}, tabB E l = true → ∀ t ti, look l t = some ti → TiOK E t ti
  | [], _, t, ti, h => by simp [look] at h
  | (s, q) :: l, h, t, ti, hl => by
    simp only [tabB, Bool.and_eq_true] at h
    simp only [look] at hl
    cases hb : Nat.beq s t with
    | true => rw [hb] at hl; cases hl; obtain rfl := nbeq.1 hb; exact tiB_sound h.1
    | false => rw [hb] at hl; exact tabB_sound h.2 t ti hl
def fnsB : List Func → Bool
  | [] => true
  | fn :: l => (fn.body.isNone || !(fn.name == "runtime.NumGoroutine")) && fnsB l
theorem fnsB_sound : ∀ {l : List Func}, fnsB l = true → ∀ (f : Nat) fn, l[f]? = some fn → fn.body.isSome = true → (fn.name == "runtime.NumGoroutine") = false
  | [], _, f, fn, h, _ => by simp at h
  | x :: l, h, 0, fn, hi, hb => by
    simp only [fnsB, Bool.and_eq_true, Bool.or_eq_true, Bool.not_eq_true'] at h
    simp at hi
    subst hi
    rcases h.1 with h1 | h1
    · cases hx : x.body with
      | none => rw [hx] at hb; cases hb
      | some c => rw [hx] at h1; cases h1
    · exact h1
  | x :: l, h, f + 1, fn, hi, hb => by
    simp only [fnsB, Bool.and_eq_true] at h
    exact fnsB_sound h.2 f fn (by simpa using hi) hb
theorem envOK {E : Env} (h1 : tabB E E.tab = true) (h2 : E.P.follows .mixedOrders = true) (h3 : fnsB E.P.funcs.toList = true) (h4 : E.eqs = []) (h5 : E.cnts = []) : EnvOK E :=
  ⟨(fun g hg => by rw [h5] at hg; cases hg), fun t ti ht => tabB_sound h1 t ti ht, h2, fun f fn hf hb => fnsB_sound h3 f fn (by simpa using hf) hb, fun t ht => by rw [h4] at ht; cases ht⟩
end Go.V
namespace Go.V
open Go.RowKit
set_option linter.unusedVariables false
variable {E : Env} {cp : CallP} {ce : CallE}
def noE : CallE := ⟨fun B _ _ _ _ => B.fail, fun m _ _ _ _ => m.fail⟩
theorem noE_ok : EffOK E noE := fun α g args h k res hr => by cases hr
theorem walk_of {f : Nat} {args : List R} {vs : List Value} {r : R} (h : PureOK E cp) (hr : cp f args = some r) (w : World) (hrd : ∀ γ : Gh, (∀ b, γ.rd b = none) → rdRs w γ args vs) :
    Calls E.P f vs.toArray w fun e w' => ∃ v γ', e = .returned v ∧ Below w.heap.size w w' ∧ rdR w' γ' r v :=
  ((h f args r hr).2 ⟨[], fun _ => none, fun _ => none, w.heap.size, 0⟩ w vs 0 (hrd _ fun _ => rfl) (fun _ _ => rfl) (Nat.le_refl _) (fun b hb => by cases hb)).mono fun e w' ⟨v, γ', h1, h2, h3, _⟩ => ⟨v, γ', h1, h2.below, h3⟩
theorem walk_true {f : Nat} {args : List R} {vs : List Value} (h : PureOK E cp) (hr : cp f args = some (.one (.g .bool true))) (w : World) (hrd : ∀ γ : Gh, (∀ b, γ.rd b = none) → rdRs w γ args vs) :
    Calls E.P f vs.toArray w fun e w' => e = .returned (.bool true) ∧ Below w.heap.size w w' :=
  (walk_of h hr w hrd).mono fun e w' ⟨v, γ', h1, h2, h3⟩ => by
    simp only [rdR, rdD, rdT] at h3
    subst h3
    exact ⟨h1, h2⟩
end Go.V
namespace Go
open Go.ChangeShapes Go.WideShapes Go.ChangeAt Go.RowKit
section
variable {H : Type} {enc : TypeId × Value → H} {P : Program}
theorem post_flat {f : Func} {s : ChangeSpec} {apart fresh handsOn : Bool} {W W' : World} {args : Array Value} {v : Value} {ds gs : List (DataW H)} {before pa pv : List MemPlace}
    (hW : DataW.Whole enc P f.params.toList s.vars apart W args.toList ds gs before)
    (hres : ∀ (b : Nat) (sp : Nat → Bool) (hd : Bool), DataW.TrodAll enc P W' b sp hd f.resultTypes.toList (v.resultList f.resultTypes.size) (s.fn H (ds ++ gs)).results [])
    (hargs : ∀ sp : Nat → Bool, (∀ p ∈ before, sp p.block = true) → DataW.TrodAll enc P W' 0 sp true f.params.toList args.toList (s.fn H (ds ++ gs)).args pa)
    (hvars : ∀ sp : Nat → Bool, (∀ p ∈ before, sp p.block = true) → DataW.TrodVars enc P W' sp s.vars (s.fn H (ds ++ gs)).vars pv)
    (hps : before = pa ++ pv) (hk : W.keptBut W' (· ∈ before)) :
    s.post enc P f apart fresh handsOn false W args v W' := by
  have hold : ∀ p ∈ before, (fun b => decide (b < W.heap.size)) p.block = true := fun p hp => by simpa using hW.lt p hp
  refine ⟨ds, gs, before, [], pa, pv, hW, hres _ _ _, hargs _ hold, hvars _ hold, World.keptBut_mono (fun p hp => ⟨hp, ?_⟩) hk, fun h => by cases h⟩
  rw [hps, List.mem_append] at hp
  exact Or.inr hp
end
end Go
namespace Go.V
open Go.RowKit
set_option linter.unusedVariables false
variable {E : Env} {cp : CallP} {ce : CallE} {f : Nat}
abbrev di (x : Int) : D := .g (.int .i64) x
abbrev dk (k : IntKind) (x : Int) : D := .g (.int k) x
abbrev db (x : Bool) : D := .g .bool x
abbrev dl (e : Ts) (xs : List e.den) : D := .g (.sl e) xs
abbrev ri (x : Int) : R := .one (di x)
abbrev rk (k : IntKind) (x : Int) : R := .one (dk k x)
abbrev rb (x : Bool) : R := .one (db x)
abbrev rl (e : Ts) (xs : List e.den) : R := .one (dl e xs)
abbrev rF (i : Nat) : R := .one (.ref i 0)
abbrev rO (e : Ts) (xs : List e.den) (v : Nat) : R := .one (.ow e xs (.v v))
abbrev rA (e : Ts) (x : e.den) : R := .agg (e.leaves x)
abbrev rC (e : Ts) (x : e.den) : R := .one (.cell (e.leaves x))
def gt {α : Type} (xs : List α) (i : Int) (d : α) : α := xs.getD i.toNat d
mutual
def Ps.dec : (p : Ps) → D → Option p.den
  | .g t, d => unLeaf t d
  | .ow e, d => none
  | .fn f caps, .fn f' ds => bif Nat.beq f f' then caps.dec ds else none
  | .cell c, .cell ds => c.dec ds
  | .ref i off, .ref i' off' => bif Nat.beq i i' && Nat.beq off off' then some () else none
  | .nilFn, .nilFn => some ()
  | .nilPtr, .nilPtr => some ()
  | .undef, .undef => some ()
  | .owh e i off, .ow e' xs (.h i' off') => bif Nat.beq i i' && Nat.beq off off' then if h : Ts.beq e' e = true then some (castL h xs) else none else none
  | .vec t, .vec t' xs => if h : T.beq t' t = true then some (T.eq_of_beq h ▸ xs) else none
  | .vref i, .vref i' n => bif Nat.beq i i' then some n else none
  | .chn i, .chn i' => bif Nat.beq i i' then some () else none
  | .sem, .sem cs => some cs
  | .alt a b, .alt p q x => if h : Ps.beq (.alt p q) (.alt a b) = true then some (Ps.eq_of_beq h ▸ x) else none
  | _, _ => none
def Pss.dec : (ps : Pss) → List D → Option ps.den
  | .nil, [] => some ()
  | .cons p ps, d :: ds => match p.dec d with
    | some x => match ps.dec ds with
      | some y => some (x, y)
      | none => none
    | none => none
  | _, _ => none
end
theorem unLeaf_eq {t : T} {d : D} {x : t.den} (h : unLeaf t d = some x) : d = .g t x := by
  unfold unLeaf at h
  split at h
  · rename_i u y
    split at h
    · rename_i hb
      cases h
      have := T.eq_of_beq hb
      subst this
      rfl
    · cases h
  · cases h
mutual
theorem Ps.dec_eq : (p : Ps) → (d : D) → (x : p.den) → p.dec d = some x → d = p.enc x
  | .g t, d, x, h => by simp only [Ps.dec] at h; simp only [Ps.enc]; exact unLeaf_eq h
  | .ow e, d, x, h => by simp only [Ps.dec, reduceCtorEq] at h
  | .fn f caps, d, x, h => by
    cases d <;> simp only [Ps.dec, reduceCtorEq] at h
    rename_i f' ds
    cases hb : Nat.beq f f' with
    | false => rw [hb] at h; cases h
    | true =>
      rw [hb] at h
      obtain rfl := nbeq.1 hb
      simp only [Ps.enc]
      rw [Pss.dec_eq caps ds x h]
  | .cell c, d, x, h => by
    cases d <;> simp only [Ps.dec, reduceCtorEq] at h
    rename_i ds
    simp only [Ps.enc]
    rw [Pss.dec_eq c ds x h]
  | .ref i off, d, x, h => by
    cases d <;> simp only [Ps.dec, reduceCtorEq] at h
    rename_i i' off'
    cases hb : (Nat.beq i i' && Nat.beq off off') with
    | false => rw [hb] at h; cases h
    | true =>
      simp only [Bool.and_eq_true] at hb
      obtain rfl := nbeq.1 hb.1
      obtain rfl := nbeq.1 hb.2
      simp only [Ps.enc]
  | .nilFn, d, x, h => by cases d <;> simp only [Ps.dec, reduceCtorEq] at h; simp only [Ps.enc]
  | .nilPtr, d, x, h => by cases d <;> simp only [Ps.dec, reduceCtorEq] at h; simp only [Ps.enc]
  | .undef, d, x, h => by cases d <;> simp only [Ps.dec, reduceCtorEq] at h; simp only [Ps.enc]
  | .owh e i off, d, x, h => by
    cases d
    case ow e' xs tk =>
      cases tk
      case h i' off' =>
        simp only [Ps.dec] at h
        cases hb : (Nat.beq i i' && Nat.beq off off') with
        | false => simp [hb] at h
        | true =>
          simp only [hb, cond_true] at h
          simp only [Bool.and_eq_true] at hb
          obtain rfl := nbeq.1 hb.1
          obtain rfl := nbeq.1 hb.2
          split at h
          · rename_i hb
            have := Ts.eq_of_beq hb
            subst this
            cases h
            simp only [Ps.enc]
            rfl
          · cases h
      all_goals simp only [Ps.dec, reduceCtorEq] at h
    all_goals simp only [Ps.dec, reduceCtorEq] at h
  | .vec t, d, x, h => by
    cases d <;> simp only [Ps.dec, reduceCtorEq] at h
    rename_i t' xs
    split at h
    · rename_i hb
      have := T.eq_of_beq hb
      subst this
      cases h
      simp only [Ps.enc]
    · cases h
  | .vref i, d, x, h => by
    cases d <;> simp only [Ps.dec, reduceCtorEq] at h
    obtain ⟨hb, h⟩ := bif_some h
    cases h
    rw [nbeq.1 hb]
    simp only [Ps.enc]
  | .chn i, d, x, h => by
    cases d <;> simp only [Ps.dec, reduceCtorEq] at h
    obtain ⟨hb, h⟩ := bif_some h
    rw [nbeq.1 hb]
    simp only [Ps.enc]
  | .sem, d, x, h => by
    cases d <;> simp only [Ps.dec, reduceCtorEq] at h
    cases h
    simp only [Ps.enc]
  | .alt a b, d, x, h => by
    cases d <;> simp only [Ps.dec, reduceCtorEq] at h
    rename_i p q y
    split at h
    · rename_i hb
      have e := Ps.eq_of_beq hb
      simp only [Ps.alt.injEq] at e
      obtain ⟨rfl, rfl⟩ := e
      cases h
      simp only [Ps.enc]
    · cases h
theorem Pss.dec_eq : (ps : Pss) → (ds : List D) → (x : ps.den) → ps.dec ds = some x → ds = ps.enc x
  | .nil, [], x, h => by simp only [Pss.enc]
  | .nil, _ :: _, x, h => by simp only [Pss.dec, reduceCtorEq] at h
  | .cons p ps, [], x, h => by simp only [Pss.dec, reduceCtorEq] at h
  | .cons p ps, d :: ds, x, h => by
    simp only [Pss.dec] at h
    split at h
    · rename_i u hu
      split at h
      · rename_i v hv
        cases h
        simp only [Pss.enc]
        rw [← Ps.dec_eq p d u hu, ← Pss.dec_eq ps ds v hv]
      · cases h
    · cases h
end
abbrev pI : It := .one (.g (.int .i64))
abbrev pB : It := .one (.g .bool)
abbrev pL (e : Ts) : It := .one (.g (.sl e))
def It.enc : (p : It) → p.den → R
  | .one p, x => .one (p.enc x)
  | .agg ts, x => .agg (ts.leaves x)
  | .aggs ps, x => .agg (ps.enc x)
def It.dec : (p : It) → R → Option p.den
  | .one p, .one d => p.dec d
  | .agg ts, .agg ds => unleaves ts ds
  | .aggs ps, .agg ds => ps.dec ds
  | _, _ => none
theorem unleaves_eq : {ts : Ts} → {ds : List D} → {x : ts.den} → unleaves ts ds = some x → ds = ts.leaves x
  | .one t, ds, x, h => by
    match ds with
    | [] => simp [unleaves] at h
    | [d] => simp only [unleaves] at h; simp only [Ts.leaves]; rw [unLeaf_eq h]
    | _ :: _ :: _ => simp [unleaves] at h
  | .cons t ts, ds, x, h => by
    match ds with
    | [] => simp [unleaves] at h
    | d :: ds =>
      simp only [unleaves] at h
      split at h
      · rename_i u v hu hv
        cases h
        simp only [Ts.leaves]
        rw [unLeaf_eq hu, unleaves_eq hv]
      · cases h
theorem It.dec_eq (p : It) (r : R) (x : p.den) (h : p.dec r = some x) : r = p.enc x := by
  cases p with
  | one p => cases r <;> simp only [It.dec, reduceCtorEq] at h; simp only [It.enc]; rw [Ps.dec_eq p _ x h]
  | agg ts => cases r <;> simp only [It.dec, reduceCtorEq] at h; simp only [It.enc]; rw [unleaves_eq h]
  | aggs ps => cases r <;> simp only [It.dec, reduceCtorEq] at h; simp only [It.enc]; rw [Pss.dec_eq ps _ x h]
@[reducible] def denL : List It → Type
  | [] => Unit
  | p :: ps => p.den × denL ps
def encL : (l : List It) → denL l → List R
  | [], _ => []
  | p :: ps, x => p.enc x.1 :: encL ps x.2
def decL : (l : List It) → List R → Option (denL l)
  | [], [] => some ()
  | p :: ps, r :: rs => match p.dec r with
    | some x => match decL ps rs with
      | some y => some (x, y)
      | none => none
    | none => none
  | _, _ => none
theorem decL_eq : (l : List It) → (rs : List R) → (x : denL l) → decL l rs = some x → rs = encL l x
  | [], [], x, h => by simp only [encL]
  | [], _ :: _, x, h => by simp only [decL, reduceCtorEq] at h
  | p :: ps, [], x, h => by simp only [decL, reduceCtorEq] at h
  | p :: ps, r :: rs, x, h => by
    simp only [decL] at h
    split at h
    · rename_i u hu
      split at h
      · rename_i v hv
        cases h
        simp only [encL]
        rw [← It.dec_eq p r u hu, ← decL_eq ps rs v hv]
      · cases h
    · cases h
def noNames (r : R) : R := r.map D.strip
theorem ownD_strip (γ : Gh) (dst : Nat) (d : D) (v : Value) : ownD' γ dst d.strip v := by cases d <;> simp [D.strip, ownD']
theorem ownTop_strip (γ : Gh) (dst : Nat) (r : R) (v : Value) : ownTop γ dst r v → ownTop γ dst (noNames r) v := by
  intro _
  cases r with
  | one d => simp only [noNames, R.map, ownTop]; exact ownD_strip γ dst d v
  | tup rs =>
    cases rs with
    | nil => cases v <;> simp [noNames, R.map, R.mapL, ownTop]
    | cons r rs =>
      cases r <;> cases v <;> simp only [noNames, R.map, R.mapL, ownTop]
      exact fun u _ => ownD_strip γ dst _ u
  | _ => simp [noNames, R.map, ownTop]
def topD : (p : Ps) → D → Option p.den
  | .ow e, .ow e' xs (.s 0) => if h : Ts.beq e' e = true then some (castL h xs) else none
  | .alt a b, .alt p q x => if h : Ps.beq (.alt p q) (.alt a b) = true then some (Ps.eq_of_beq h ▸ x) else bif Ps.allIn (.alt a b) (.alt p q) then some (Ps.reT (.alt a b) (.alt p q) x) else none
  | .alt a b, d => bif Ps.altOK (.alt a b) then Ps.altD (.alt a b) d else none
  | p, d => p.dec d
theorem topD_or (p : Ps) (d : D) (x : p.den) (h : topD p d = some x) : d = p.enc x ∨ ((∃ a b y, p.enc x = .alt a b y) ∧ ∀ (w : World) (γ : Gh) v, rdD w γ d v → rdD w γ (p.enc x) v) := by
  unfold topD at h
  split at h
  · split at h
    · rename_i hb
      have := Ts.eq_of_beq hb
      subst this
      cases h
      exact .inl (by simp only [Ps.enc]; rfl)
    · cases h
  · split at h
    · rename_i hb
      exact .inl (Ps.dec_eq _ _ _ (by simp only [Ps.dec, hb, dite_true]; exact h))
    · obtain ⟨hb, h⟩ := bif_some h
      cases h
      exact .inr ⟨⟨_, _, _, rfl⟩, fun w γ v hv => by simp only [Ps.enc, rdD] at hv ⊢; exact rdP_reT _ _ _ v hb hv⟩
  · obtain ⟨hb, h⟩ := bif_some h
    exact .inr ⟨⟨_, _, _, rfl⟩, fun w γ v hv => by simp only [Ps.enc, rdD]; exact rdP_altD _ _ _ hb h v hv⟩
  · exact .inl (Ps.dec_eq _ _ _ h)
def topL : (ps : Pss) → List D → Option ps.den
  | .nil, [] => some ()
  | .cons p ps, d :: ds => match topD p d with
    | some x => match topL ps ds with
      | some y => some (x, y)
      | none => none
    | none => none
  | _, _ => none
theorem topL_rd {w : World} {γ : Gh} : (ps : Pss) → (ds : List D) → (x : ps.den) → (vs : List Value) → topL ps ds = some x → rdL w γ ds vs → rdL w γ (ps.enc x) vs
  | .nil, [], x, vs, _, hv => by simpa only [Pss.enc] using hv
  | .nil, _ :: _, x, vs, h, _ => by simp only [topL, reduceCtorEq] at h
  | .cons p ps, [], x, vs, h, _ => by simp only [topL, reduceCtorEq] at h
  | .cons p ps, d :: ds, x, [], h, hv => by simp only [rdL] at hv
  | .cons p ps, d :: ds, x, v :: vs, h, hv => by
    simp only [topL] at h
    simp only [rdL] at hv
    split at h
    · rename_i y hy
      split at h
      · rename_i z hz
        cases h
        simp only [Pss.enc, rdL]
        refine ⟨?_, topL_rd ps ds z vs hz hv.2⟩
        rcases topD_or p d y hy with e | ⟨_, e⟩
        · exact e ▸ hv.1
        · exact e w γ v hv.1
      · cases h
    · cases h
def It.res : (i : It) → R → Option i.den
  | .one p, .one d => topD p d
  | .agg ts, .agg ds => unleaves ts ds
  | .aggs ps, .agg ds => topL ps ds
  | _, _ => none
theorem It.res_rd {w : World} {γ : Gh} (i : It) (r : R) (x : i.den) (h : i.res r = some x) (v : Value) (hv : rdR w γ r v) : rdR w γ (i.enc x) v := by
  cases i with
  | one p =>
    cases r <;> simp only [It.res, reduceCtorEq] at h
    rename_i d
    simp only [It.enc, rdR] at hv ⊢
    rcases topD_or p d x h with e | ⟨_, e⟩
    · exact e ▸ hv
    · exact e w γ v hv
  | agg ts => cases r <;> simp only [It.res, reduceCtorEq] at h; simp only [It.enc]; rw [← unleaves_eq h]; exact hv
  | aggs ps =>
    cases r <;> simp only [It.res, reduceCtorEq] at h
    simp only [It.enc, rdR] at hv ⊢
    obtain ⟨vs, h1, h2⟩ := hv
    exact ⟨vs, h1, topL_rd ps _ x _ h h2⟩
theorem It.res_not {i : It} {r : R} {x : i.den} (h : i.res r = some x) (q : List R) : r ≠ .tup q := fun e => by
  subst e
  cases i <;> simp only [It.res, reduceCtorEq] at h
theorem It.res_own {γ : Gh} {dst : Nat} (i : It) (r : R) (x : i.den) (h : i.res r = some x) (v : Value) (hv : ownTop γ dst r v) : ownTop γ dst (i.enc x) v := by
  cases i with
  | one p =>
    cases r <;> simp only [It.res, reduceCtorEq] at h
    rename_i d
    simp only [It.enc] at hv ⊢
    rcases topD_or p d x h with e | ⟨⟨a, b, y, e⟩, _⟩
    · exact e ▸ hv
    · rw [e]; simp only [ownTop, ownD']
  | agg ts => simp only [It.enc, ownTop]
  | aggs ps => simp only [It.enc, ownTop]
def encU : (l : Us) → Us.den l → List R
  | [], _ => []
  | [i], x => [i.enc x]
  | i :: j :: l, x => i.enc x.1 :: encU (j :: l) x.2
def resU : (l : Us) → List R → Option (Us.den l)
  | [], [] => some ()
  | [i], [r] => i.res r
  | i :: j :: l, r :: rs => match i.res r with
    | some x => match resU (j :: l) rs with
      | some y => some (x, y)
      | none => none
    | none => none
  | _, _ => none
theorem resU_rd {w : World} {γ : Gh} : (l : Us) → (rs : List R) → (x : Us.den l) → (vs : List Value) → resU l rs = some x → rdRs w γ rs vs → rdRs w γ (encU l x) vs
  | [], [], x, vs, _, hv => by simpa only [encU] using hv
  | [], _ :: _, x, vs, h, _ => by simp only [resU, reduceCtorEq] at h
  | [i], [], x, vs, h, _ => by simp only [resU, reduceCtorEq] at h
  | [i], [r], x, [], h, hv => by simp only [rdRs] at hv
  | [i], [r], x, v :: vs, h, hv => by
    simp only [resU] at h
    simp only [rdRs] at hv
    simp only [encU, rdRs]
    exact ⟨i.res_rd r x h v hv.1, hv.2⟩
  | [i], _ :: _ :: _, x, vs, h, _ => by simp only [resU, reduceCtorEq] at h
  | i :: j :: l, [], x, vs, h, _ => by simp only [resU, reduceCtorEq] at h
  | i :: j :: l, r :: rs, x, [], h, hv => by simp only [rdRs] at hv
  | i :: j :: l, r :: rs, x, v :: vs, h, hv => by
    simp only [resU] at h
    simp only [rdRs] at hv
    split at h
    · rename_i y hy
      split at h
      · rename_i z hz
        cases h
        simp only [encU, rdRs]
        exact ⟨i.res_rd r y hy v hv.1, resU_rd (j :: l) rs z vs hz hv.2⟩
      · cases h
    · cases h
def encR (tp : Bool) (l : Us) (x : Us.den l) : R := bif tp then .tup (encU l x) else match encU l x with
  | r :: _ => r
  | [] => .undef
def resX (tp : Bool) (l : Us) (r : R) : Option (Us.den l) := match tp, r with
  | true, .tup rs => resU l rs
  | false, r => match l with
    | [i] => i.res r
    | _ => none
  | _, _ => none
theorem resX_rd {w : World} {γ : Gh} {tp : Bool} {l : Us} {r : R} {x : Us.den l} (h : resX tp l r = some x) {v : Value} (hv : rdR w γ r v) : rdR w γ (encR tp l x) v := by
  cases tp with
  | true =>
    cases r <;> simp only [resX, reduceCtorEq] at h
    simp only [encR, cond_true, rdR] at hv ⊢
    obtain ⟨vs, h1, h2⟩ := hv
    exact ⟨vs, h1, resU_rd l _ x _ h h2⟩
  | false =>
    match l, x, h with
    | [i], x, h => exact i.res_rd r x h v hv
    | [], x, h => simp only [resX, reduceCtorEq] at h
    | _ :: _ :: _, x, h => simp only [resX, reduceCtorEq] at h
theorem ownTop_head {γ : Gh} {dst : Nat} {r r' : R} {rs rs' : List R} (hr : ∀ q, r ≠ .tup q) (h : ∀ v, ownTop γ dst r v → ownTop γ dst r' v) {v : Value} (hv : ownTop γ dst (.tup (r :: rs)) v) : ownTop γ dst (.tup (r' :: rs')) v := by
  cases r' with
  | one d' =>
    cases v with
    | tuple vs =>
      simp only [ownTop] at h ⊢
      intro u hu
      refine h u ?_
      cases r with
      | one d => simp only [ownTop] at hv ⊢; exact hv u hu
      | tup q => exact absurd rfl (hr q)
      | _ => trivial
    | _ => simp only [ownTop]
  | _ => cases v <;> simp only [ownTop]
theorem resX_own {γ : Gh} {dst : Nat} {tp : Bool} {l : Us} {r : R} {x : Us.den l} (h : resX tp l r = some x) {v : Value} (hv : ownTop γ dst r v) : ownTop γ dst (encR tp l x) v := by
  cases tp with
  | true =>
    cases r <;> simp only [resX, reduceCtorEq] at h
    rename_i rs
    simp only [encR, cond_true]
    match l, rs, x, h with
    | [], [], x, h => cases v <;> simp only [encU, ownTop]
    | [], _ :: _, x, h => simp only [resU, reduceCtorEq] at h
    | [i], [], x, h => simp only [resU, reduceCtorEq] at h
    | [i], [r], x, h => simp only [resU] at h; simp only [encU]; exact ownTop_head (It.res_not h) (fun v => i.res_own r x h v) hv
    | [i], _ :: _ :: _, x, h => simp only [resU, reduceCtorEq] at h
    | i :: j :: l, [], x, h => simp only [resU, reduceCtorEq] at h
    | i :: j :: l, r :: rs, x, h =>
      simp only [resU] at h
      split at h
      · rename_i y hy
        split at h
        · rename_i z hz
          cases h
          simp only [encU]
          exact ownTop_head (It.res_not hy) (fun v => i.res_own r y hy v) hv
        · cases h
      · cases h
  | false =>
    match l, x, h with
    | [i], x, h => exact i.res_own r x h v hv
    | [], x, h => simp only [resX, reduceCtorEq] at h
    | _ :: _ :: _, x, h => simp only [resX, reduceCtorEq] at h
def withC (cp : CallP) (f : Nat) (l : List It) (tp : Bool) (o : Us) (sh : denL l → Option (Us.den o)) : CallP where
  f g args := bif Nat.beq f g then (match decL l args with
    | some x => (sh x).bind fun y => some (encR tp o y)
    | none => cp.f g args) else cp.f g args
  k B g args q := bif Nat.beq f g then (match decL l args with
    | some x => B.bnd o (sh x) fun y => q (encR tp o y)
    | none => cp.k B g args q) else cp.k B g args q
  hk α g args q := by
    cases Nat.beq f g with
    | false => exact cp.hk α g args q
    | true =>
      simp only [cond_true]
      split
      · rename_i x _
        cases sh x <;> rfl
      · exact cp.hk α g args q
  hn m g args q := by
    cases Nat.beq f g with
    | false => exact cp.hn m g args q
    | true =>
      simp only [cond_true]
      split
      · exact m.bnd _ _ _
      · exact cp.hn m g args q
def withP (cp : CallP) (f : Nat) (l : List It) (tp : Bool) (o : Us) (sh : denL l → Us.den o) : CallP where
  f g args := bif Nat.beq f g then (match decL l args with
    | some x => some (encR tp o (sh x))
    | none => cp.f g args) else cp.f g args
  k B g args q := bif Nat.beq f g then (match decL l args with
    | some x => q (encR tp o (sh x))
    | none => cp.k B g args q) else cp.k B g args q
  hk α g args q := by
    cases Nat.beq f g with
    | false => exact cp.hk α g args q
    | true =>
      simp only [cond_true]
      split
      · rfl
      · exact cp.hk α g args q
  hn m g args q := by
    cases Nat.beq f g with
    | false => exact cp.hn m g args q
    | true =>
      simp only [cond_true]
      split
      · rfl
      · exact cp.hn m g args q
theorem withC_ok {l : List It} {tp : Bool} {o : Us} {sh : denL l → Option (Us.den o)} (hcp : PureOK E cp)
    (h : ∀ x y, sh x = some y → (∃ fn, E.P.funcs[f]? = some fn ∧ fn.body.isSome = true) ∧ ∀ γ w vs dst, rdRs w γ (encL l x) vs → (∀ b, w.heap.size ≤ b → γ.rd b = none) → γ.base ≤ w.heap.size → (∀ b ∈ γ.bx, b < w.heap.size) →
      Calls E.P f vs.toArray w fun e w' => ∃ v γ', e = .returned v ∧ Grow γ w γ' w' dst ∧ rdR w' γ' (encR tp o y) v ∧ ownTop γ' dst (encR tp o y) v) : PureOK E (withC cp f l tp o sh) := by
  intro g args r hr
  change (bif Nat.beq f g then (match decL l args with
    | some x => (sh x).bind fun y => some (encR tp o y)
    | none => cp.f g args) else cp.f g args) = some r at hr
  cases hb : Nat.beq f g with
  | true =>
    obtain rfl := nbeq.1 hb
    rw [hb] at hr
    simp only [cond_true] at hr
    split at hr
    · rename_i x hx
      rw [decL_eq l args x hx]
      obtain ⟨y, hy, hy2⟩ := Option.bind_eq_some_iff.1 hr
      cases hy2
      exact h x y hy
    · exact hcp f args r hr
  | false => rw [hb] at hr; exact hcp g args r hr
theorem withP_ok {l : List It} {tp : Bool} {o : Us} {sh : denL l → Us.den o} (hcp : PureOK E cp) (h : PureOK E (withC cp f l tp o fun x => some (sh x))) : PureOK E (withP cp f l tp o sh) := by
  intro g args r hr
  refine h g args r ?_
  change (bif Nat.beq f g then (match decL l args with
    | some x => some (encR tp o (sh x))
    | none => cp.f g args) else cp.f g args) = some r at hr
  change (bif Nat.beq f g then (match decL l args with
    | some x => (some (sh x)).bind fun y => some (encR tp o y)
    | none => cp.f g args) else cp.f g args) = some r
  exact hr
noncomputable def finO (own : Bool) (o : R × Heap) : R := bif own then fin o.2 o.1 else noNames (fin o.2 o.1)
noncomputable def bodyP (E : Env) (f : Nat) (cp : CallP) (ce : CallE) (hn : H) (args : List R) : Tr (R × Heap) := bif anyRef args || R.hasOwL args then .fail else bodyT E f cp ce hn args []
def oN {α : Type} (_ : α) : OT := .nil
noncomputable def FC (E : Env) (f : Nat) (cp : CallP) (ce : CallE) (hn : H) (l : List It) (tp : Bool) (o : Us) (own : Bool) (x : denL l) : Option (Us.den o) := (bodyP E f cp ce hn (encL l x)).collO fun r => resX tp o (finO own r)
noncomputable def FP (E : Env) (f : Nat) (cp : CallP) (ce : CallE) (hn : H) (l : List It) (tp : Bool) (o : Us) (own : Bool) (x : denL l) : Us.den o := (bodyP E f cp ce hn (encL l x)).coll (fun r => (resX tp o (finO own r)).getD (Us.dflt o)) (Us.dflt o)
noncomputable def FT (E : Env) (f : Nat) (cp : CallP) (ce : CallE) (hn : H) (l : List It) (tp : Bool) (o : Us) (own : Bool) (x : denL l) : Bool := (bodyP E f cp ce hn (encL l x)).total && ((bodyP E f cp ce hn (encL l x)).map fun r => (resX tp o (finO own r)).isSome).ends
theorem FC_end {own : Bool} {tp : Bool} {o : Us} {args : List R} {hn : H} {r : R × Heap} {y : Us.den o} (hE : EnvOK E) (hcp : PureOK E cp) (hce : EffOK E ce) (h : (bodyP E f cp ce hn args).den = some r) (h2 : resX tp o (finO own r) = some y) :
    (∃ fn, E.P.funcs[f]? = some fn ∧ fn.body.isSome = true) ∧ ∀ γ w vs dst, rdRs w γ args vs → (∀ b, w.heap.size ≤ b → γ.rd b = none) → γ.base ≤ w.heap.size → (∀ b ∈ γ.bx, b < w.heap.size) →
      Calls E.P f vs.toArray w fun e w' => ∃ v γ', e = .returned v ∧ Grow γ w γ' w' dst ∧ rdR w' γ' (encR tp o y) v ∧ ownTop γ' dst (encR tp o y) v := by
  unfold bodyP at h
  cases hb : (anyRef args || R.hasOwL args) with
  | true => rw [hb] at h; cases h
  | false =>
    rw [hb] at h
    simp only [cond_false] at h
    cases own with
    | true =>
      obtain ⟨a1, a2⟩ := pure_sound (g := fun r => r) (fun _ _ _ _ h => h) (fun _ _ _ _ h => h) hE hcp hce hb h
      exact ⟨a1, fun γ w vs dst q1 q2 q3 q4 => (a2 γ w vs dst q1 q2 q3 q4).mono fun e w' ⟨v, γ', e1, e2, e3, e4⟩ => ⟨v, γ', e1, e2, resX_rd h2 e3, resX_own h2 e4⟩⟩
    | false =>
      obtain ⟨a1, a2⟩ := pure_sound (g := noNames) (fun w γ r v h => (rdR_map nameOnly_strip r v).2 h) ownTop_strip hE hcp hce hb h
      exact ⟨a1, fun γ w vs dst q1 q2 q3 q4 => (a2 γ w vs dst q1 q2 q3 q4).mono fun e w' ⟨v, γ', e1, e2, e3, e4⟩ => ⟨v, γ', e1, e2, resX_rd h2 e3, resX_own h2 e4⟩⟩
theorem conC {hn : H} {l : List It} {tp : Bool} {o : Us} {sh : denL l → Option (Us.den o)} (own : Bool) (hE : EnvOK E) (hcp : PureOK E cp) (hce : EffOK E ce)
    (h1 : ∀ x, (bodyP E f cp ce hn (encL l x)).obsL oN = (bodyP E f cp ce hn (encL l x)).obsR oN) (h2 : ∀ x, FC E f cp ce hn l tp o own x = sh x) : PureOK E (withC cp f l tp o sh) :=
  withC_ok hcp fun x y hy => by
    obtain ⟨r, r1, r2, _⟩ := Tr.collO_den ((h2 x).trans hy) (h1 x)
    exact FC_end hE hcp hce r1 r2
theorem conP {hn : H} {l : List It} {tp : Bool} {o : Us} {sh : denL l → Us.den o} (own : Bool) (hE : EnvOK E) (hcp : PureOK E cp) (hce : EffOK E ce)
    (h1 : ∀ x, (bodyP E f cp ce hn (encL l x)).obsL oN = (bodyP E f cp ce hn (encL l x)).obsR oN) (h2 : ∀ x, (FT E f cp ce hn l tp o own x, FP E f cp ce hn l tp o own x) = (true, sh x)) : PureOK E (withP cp f l tp o sh) :=
  withP_ok hcp (withC_ok hcp fun x y hy => by
    cases hy
    have h := h2 x
    simp only [FT, FP, Prod.mk.injEq, Bool.and_eq_true] at h
    obtain ⟨⟨a0, a1⟩, a2⟩ := h
    obtain ⟨r, r1, _⟩ := Tr.total_den a0 (h1 x)
    have e := Tr.coll_den (f := fun r => (resX tp o (finO own r)).getD (Us.dflt o)) (d := Us.dflt o) a0 r1
    have e2 := Tr.ends_den (f := fun r => (resX tp o (finO own r)).isSome) a1 r1
    obtain ⟨z, hz⟩ := Option.isSome_iff_exists.1 e2
    refine FC_end (hn := hn) (own := own) hE hcp hce r1 ?_
    rw [hz, Option.getD_some, a2] at e
    rw [hz, e])
def _root_.Go.V.Tr.bL {α : Type} : Tr α → Tr α
  | .both a _ => a
  | t => t
def _root_.Go.V.Tr.bR {α : Type} : Tr α → Tr α
  | .both _ b => b
  | t => t
theorem conClone {e : Ts} {o : Us} {sh : List e.den → Option (Us.den o)} (own : Bool) (hE : EnvOK E) (hcp : PureOK E cp) (hce : EffOK E ce)
    (h0 : bodyP E f cp ce .e [.one (.g (.sl e) [])] = .both (bodyP E f cp ce .e [.one (.g (.sl e) [])]).bL (bodyP E f cp ce .e [.one (.g (.sl e) [])]).bR)
    (h1 : (bodyP E f cp ce .e [.one (.g (.sl e) [])]).bL.obsL oN = (bodyP E f cp ce .e [.one (.g (.sl e) [])]).bL.obsR oN)
    (h1' : (bodyP E f cp ce .e [.one (.g (.sl e) [])]).bL.den = (bodyP E f cp ce .e [.one (.g (.sl e) [])]).bR.den)
    (h2 : (bodyP E f cp ce .e [.one (.g (.sl e) [])]).bL.collO (fun r => resX false o (finO own r)) = sh [])
    (h3 : ∀ x l, (bodyP E f cp ce .e [.one (.g (.sl e) (x :: l))]).obsL oN = (bodyP E f cp ce .e [.one (.g (.sl e) (x :: l))]).obsR oN)
    (h4 : ∀ x l, (bodyP E f cp ce .e [.one (.g (.sl e) (x :: l))]).collO (fun r => resX false o (finO own r)) = sh (x :: l)) : PureOK E (withC cp f [.one (.g (.sl e))] false o fun x => sh x.1) :=
  withC_ok hcp fun x y hy => by
    obtain ⟨xs, u⟩ := x
    replace hy : sh xs = some y := hy
    cases xs with
    | nil =>
      obtain ⟨r, r1, r2, _⟩ := Tr.collO_den (h2.trans hy) h1
      exact FC_end (hn := .e) hE hcp hce (by show (bodyP E f cp ce .e [.one (.g (.sl e) [])]).den = some r; rw [h0]; simp only [Tr.den, ← h1', r1, both, if_true]) r2
    | cons x l =>
      obtain ⟨r, r1, r2, _⟩ := Tr.collO_den ((h4 x l).trans hy) (h3 x l)
      exact FC_end (hn := .e) hE hcp hce r1 r2
@[reducible] def denH : List Pss → Type
  | [] => Unit
  | p :: ps => p.den × denH ps
def encH : (l : List Pss) → denH l → Heap
  | [], _ => []
  | p :: ps, x => p.enc x.1 :: encH ps x.2
def decH : (l : List Pss) → Heap → Option (denH l)
  | [], [] => some ()
  | p :: ps, h :: hs => match p.dec h with
    | some x => match decH ps hs with
      | some y => some (x, y)
      | none => none
    | none => none
  | _, _ => none
theorem decH_eq : (l : List Pss) → (h : Heap) → (x : denH l) → decH l h = some x → h = encH l x
  | [], [], x, h => by simp only [encH]
  | [], _ :: _, x, h => by simp only [decH, reduceCtorEq] at h
  | p :: ps, [], x, h => by simp only [decH, reduceCtorEq] at h
  | p :: ps, r :: rs, x, h => by
    simp only [decH] at h
    split at h
    · rename_i u hu
      split at h
      · rename_i v hv
        cases h
        simp only [encH]
        rw [← Pss.dec_eq p r u hu, ← decH_eq ps rs v hv]
      · cases h
    · cases h
def decA (la : List It) (lh : List Pss) (args : List R) (h : Heap) : Option (denL la × denH lh) := match decL la args with
  | some x => match decH lh h with
    | some y => some (x, y)
    | none => none
  | none => none
inductive EP where
  | r | t (i : Nat) | h (i j : Nat)
def itE : List (EP × It) → Us
  | [] => []
  | p :: l => p.2 :: itE l
def rdE (o : R × Heap) : (p : EP) → (i : It) → Option i.den
  | .r, i => i.res o.1
  | .t n, i => match o.1 with
    | .tup rs => (match rs[n]? with
      | some r => i.res r
      | none => none)
    | _ => none
  | .h m n, .one p => match o.2[m]? with
    | some ds => (match ds[n]? with
      | some d => p.rd d
      | none => none)
    | none => none
  | _, _ => none
def pkE : (l : List (EP × It)) → R × Heap → Option (Us.den (itE l))
  | [], _ => some ()
  | [p], o => rdE o p.1 p.2
  | p :: q :: l, o => match rdE o p.1 p.2, pkE (q :: l) o with
    | some x, some y => some (show Us.den (itE (p :: q :: l)) from (x, y))
    | _, _ => none
def withE {X : Type} (ce : CallE) (f : Nat) (dec : List R → Heap → Option X) (o : Us) (out : X → Us.den o → R × Heap) (sh : X → Option (Us.den o)) : CallE where
  k B g args h q := bif Nat.beq f g then (match dec args h with
    | some x => B.bnd o (sh x) fun y => q (out x y).1 (out x y).2
    | none => ce.k B g args h q) else ce.k B g args h q
  hn m g args h q := by
    cases Nat.beq f g with
    | false => exact ce.hn m g args h q
    | true =>
      simp only [cond_true]
      split
      · exact m.bnd _ _ _
      · exact ce.hn m g args h q
def oE (o : R × Heap) : OT := .one (.ret, ⟨[(0, o.1)], o.2, [], 0, 0⟩)
theorem oE_inj {o o' : R × Heap} (h : oE o = oE o') : o = o' := by
  obtain ⟨a, b⟩ := o
  obtain ⟨a', b'⟩ := o'
  simp only [oE, OT.one.injEq, Prod.mk.injEq, St.mk.injEq, List.cons.injEq, true_and, and_true] at h
  exact Prod.ext h.1 h.2
theorem conE {hn : H} {la : List It} {lh : List Pss} {ep : List (EP × It)} {out : denL la × denH lh → Us.den (itE ep) → R × Heap} {sh : denL la × denH lh → Option (Us.den (itE ep))} (hE : EnvOK E) (hcp : PureOK E cp) (hce : EffOK E ce)
    (h1 : ∀ x, (bodyT E f cp ce hn (encL la x.1) (encH lh x.2)).obsL oE = (bodyT E f cp ce hn (encL la x.1) (encH lh x.2)).obsR fun o => oE (out x ((pkE ep o).getD (Us.dflt _))))
    (h2 : ∀ x, (bodyT E f cp ce hn (encL la x.1) (encH lh x.2)).collO (pkE ep) = sh x) :
    EffOK E (withE ce f (decA la lh) (itE ep) out sh) := by
  intro α g args hh k res hr
  replace hr : (withE ce f (decA la lh) (itE ep) out sh).k (oB α) g args hh k = some res := hr
  unfold withE at hr
  dsimp only at hr
  cases hb : Nat.beq f g with
  | false => rw [hb] at hr; exact hce α g args hh k res hr
  | true =>
    obtain rfl := nbeq.1 hb
    rw [hb] at hr
    simp only [cond_true] at hr
    split at hr
    · rename_i x hd
      obtain ⟨y, hy, hk⟩ := Option.bind_eq_some_iff.1 hr
      obtain ⟨o, ho, hp, eo⟩ := Tr.collO_den ((h2 x).trans hy) (h1 x)
      replace eo := oE_inj eo
      rw [hp, Option.getD_some] at eo
      obtain ⟨b1, b2⟩ := body_sound hE hcp hce ho
      have hargs : args = encL la x.1 ∧ hh = encH lh x.2 := by
        unfold decA at hd
        split at hd
        · rename_i u hu
          split at hd
          · rename_i v hv
            cases hd
            exact ⟨decL_eq la args u hu, decH_eq lh hh v hv⟩
          · cases hd
        · cases hd
      obtain ⟨rfl, rfl⟩ := hargs
      refine ⟨b1, fun γ w vs q1 q2 q3 q4 q5 q6 => (b2 γ w vs q1 q2 q3 q4 q5 q6).mono fun e w' ⟨v, r, h', γ', r1, r2, r3⟩ => ⟨v, r, h', γ', r1, ?_, r3⟩⟩
      have e2 : (r, h') = out x y := (Option.some.inj r2).trans eo
      rw [← e2] at hk
      exact hk
    · exact hce α f args hh k res hr
end Go.V
def Go.V.LL : Nat := 1000000
namespace Go.V
open Go.RowKit
set_option linter.unusedVariables false
mutual
theorem T.beq_rfl : (t : T) → T.beq t t = true
  | .int k => by simp [T.beq]
  | .bool => by simp [T.beq]
  | .sl e => by simp only [T.beq]; exact Ts.beq_rfl e
theorem Ts.beq_rfl : (ts : Ts) → Ts.beq ts ts = true
  | .one t => by simp only [Ts.beq]; exact T.beq_rfl t
  | .cons t ts => by simp only [Ts.beq, Bool.and_eq_true]; exact ⟨T.beq_rfl t, Ts.beq_rfl ts⟩
end
theorem unLeaf_g (t : T) (x : t.den) : unLeaf t (.g t x) = some x := by simp [unLeaf, T.beq_rfl, T.cast]
theorem unleaves_leaves : (ts : Ts) → (z : ts.den) → unleaves ts (ts.leaves z) = some z
  | .one t, z => by simp [unleaves, Ts.leaves, unLeaf_g]
  | .cons t ts, z => by simp [unleaves, Ts.leaves, unLeaf_g, unleaves_leaves ts]
def eqV : List Value → List Value → Bool
  | [], [] => true
  | .int _ a :: l, .int _ b :: m => a == b && eqV l m
  | .bool a :: l, .bool b :: m => a == b && eqV l m
  | _, _ => false
def fits : List T → List Value → Bool
  | [], [] => true
  | .int k :: ts, .int k' _ :: vs => decide (k = k') && fits ts vs
  | .bool :: ts, .bool _ :: vs => fits ts vs
  | _, _ => false
theorem fits_cons {t : T} {ts : List T} {vs : List Value} (h : fits (t :: ts) vs = true) : ∃ v l, vs = v :: l ∧ fits ts l = true ∧ ((∃ k n, t = .int k ∧ v = .int k n) ∨ (∃ b, t = .bool ∧ v = .bool b)) := by
  cases t with
  | int k =>
    cases vs with
    | nil => simp [fits] at h
    | cons v l =>
      cases v <;> simp only [fits, Bool.and_eq_true, decide_eq_true_eq, Bool.false_eq_true] at h
      obtain ⟨rfl, h⟩ := h
      exact ⟨_, _, rfl, h, .inl ⟨_, _, rfl, rfl⟩⟩
  | bool =>
    cases vs with
    | nil => simp [fits] at h
    | cons v l =>
      cases v <;> simp only [fits, Bool.false_eq_true] at h
      exact ⟨_, _, rfl, h, .inr ⟨_, rfl, rfl⟩⟩
  | sl e => cases vs <;> simp [fits] at h
theorem fits_length : ∀ {ts : List T} {vs : List Value}, fits ts vs = true → vs.length = ts.length
  | [], [], _ => rfl
  | [], _ :: _, h => by simp [fits] at h
  | t :: ts, vs, h => by
    obtain ⟨v, l, rfl, h1, _⟩ := fits_cons h
    simp [fits_length h1]
theorem fits_split : ∀ {ks ls : List T} {vs : List Value}, fits (ks ++ ls) vs = true → fits ks (vs.take ks.length) = true ∧ fits ls (vs.drop ks.length) = true
  | [], ls, vs, h => ⟨by simp [fits], by simpa using h⟩
  | k :: ks, ls, vs, h => by
    rw [List.cons_append] at h
    obtain ⟨v, l, rfl, h1, h2⟩ := fits_cons h
    obtain ⟨a, b⟩ := fits_split h1
    refine ⟨?_, by simpa using b⟩
    rcases h2 with ⟨q, n, rfl, rfl⟩ | ⟨c, rfl, rfl⟩ <;> simpa [fits] using a
theorem eqV_append : ∀ {ks : List T} {a b c d : List Value}, fits ks a = true → fits ks b = true → eqV (a ++ c) (b ++ d) = (eqV a b && eqV c d)
  | [], a, b, c, d, h1, h2 => by
    have e1 := fits_length h1
    have e2 := fits_length h2
    obtain rfl := List.eq_nil_of_length_eq_zero e1
    obtain rfl := List.eq_nil_of_length_eq_zero e2
    simp [eqV]
  | k :: ks, a, b, c, d, h1, h2 => by
    obtain ⟨v, l, rfl, g1, g2⟩ := fits_cons h1
    obtain ⟨u, m, rfl, g3, g4⟩ := fits_cons h2
    have ih := eqV_append (c := c) (d := d) g1 g3
    rcases g2 with ⟨q, n, rfl, rfl⟩ | ⟨x, rfl, rfl⟩ <;> rcases g4 with ⟨q', n', hq, rfl⟩ | ⟨x', hq, rfl⟩ <;> first | (cases hq; done) | skip
    · simp only [List.cons_append, eqV, ih, Bool.and_assoc]
    · simp only [List.cons_append, eqV, ih, Bool.and_assoc]
def repL (ks : List T) : Nat → List T
  | 0 => []
  | n + 1 => ks ++ repL ks n
def eqFs (g : TypeId → Option (List T)) (P : Program) : Nat → List Field → Option (List T)
  | _, [] => some []
  | off, f :: fs => bif (f.name == "_") || !(f.offset.beq off) then none else match g f.type with
    | some ks => bif (P.cellsOf f.type).beq ks.length then (match eqFs g P (off + ks.length) fs with
      | some r => some (ks ++ r)
      | none => none) else none
    | none => none
def eqLv (P : Program) : Nat → TypeId → Option (List T)
  | 0, _ => none
  | d + 1, t => match P.underlying t with
    | some (.int k) => some [.int k]
    | some .bool => some [.bool]
    | some (.struct fs) => bif P.stoodInHeld t then none else eqFs (eqLv P d) P 0 fs.toList
    | some (.array n e) => match eqLv P d e with
      | some ks => bif (P.cellsOf e).beq ks.length then some (repL ks n) else none
      | none => none
    | _ => none
def Rep (P : Program) (e : TypeId) (a : Value) (l : List Value) : Prop := match P.underlying e with
  | some (.struct _) => ∃ xs, a = .agg xs ∧ xs.toList = l
  | some (.array _ _) => ∃ xs, a = .agg xs ∧ xs.toList = l
  | _ => l = [a]
def EqAt2 (P : Program) (dd : Nat) (e : TypeId) (ks : List T) : Prop :=
  ∀ (w : World) (a b : Value) (la lb : List Value), Rep P e a la → Rep P e b lb → fits ks la = true → fits ks lb = true → (Op.equalIn dd e a b).run P w = .ok (eqV la lb) w
section
variable {P : Program} (w : World)
theorem part_rep {d : Nat} {e : TypeId} {ks : List T} {xs : Array Value} {off : Nat} (he : eqLv P d e = some ks) (hc : P.cellsOf e = ks.length) (hf : fits ks ((xs.toList.drop off).take ks.length) = true) :
    ∃ a, (part e xs off).run P w = .ok a w ∧ Rep P e a ((xs.toList.drop off).take ks.length) := by
  cases d with
  | zero => simp [eqLv] at he
  | succ d =>
    have hlen := fits_length hf
    cases hu : P.underlying e with
    | none => simp [eqLv, hu] at he
    | some kd =>
      obtain ⟨i, hi⟩ := info_of_underlying hu
      have agg : (∃ n e', kd = .array n e') ∨ (∃ fs, kd = .struct fs) → ∃ a, (part e xs off).run P w = .ok a w ∧ Rep P e a ((xs.toList.drop off).take ks.length) := by
        intro hk
        have hl : (xs.extract off (off + P.cellsOf e)).toList = (xs.toList.drop off).take ks.length := by
          rw [Array.toList_extract, hc]
          simp [List.extract]
        refine ⟨.agg (xs.extract off (off + P.cellsOf e)), ?_, ?_⟩
        · rcases hk with ⟨n, e', rfl⟩ | ⟨fs, rfl⟩ <;> simp [part, isAgg, run_underlying hu, run_sizeOf w hi]
        · unfold Rep
          rw [hu]
          rcases hk with ⟨n, e', rfl⟩ | ⟨fs, rfl⟩ <;> exact ⟨_, rfl, hl⟩
      have plain : ks.length = 1 → (part e xs off = do match xs[off]? with | some v => pure v | none => stuck "part: no such cell") ∨ True → (∀ v, xs[off]? = some v → (part e xs off).run P w = .ok v w) → (∀ a l, l = [a] → Rep P e a l) → ∃ a, (part e xs off).run P w = .ok a w ∧ Rep P e a ((xs.toList.drop off).take ks.length) := by
        intro h1 _ h2 h3
        rw [h1] at hlen ⊢
        cases hd : (xs.toList.drop off).take 1 with
        | nil => rw [hd] at hlen; simp at hlen
        | cons v l =>
          have hv : xs[off]? = some v := by
            have : ((xs.toList.drop off).take 1)[0]? = some v := by rw [hd]; rfl
            simpa using this
          have hl : l = [] := by
            rw [hd] at hlen
            simpa using hlen
          subst hl
          exact ⟨v, h2 v hv, h3 v _ rfl⟩
      cases kd
      case bool =>
        simp only [eqLv, hu, Option.some.injEq] at he
        subst he
        exact plain rfl (.inr trivial) (fun v hv => by simp [part, isAgg, run_underlying hu, hv]) (fun a l h => by unfold Rep; rw [hu]; exact h)
      case int k =>
        simp only [eqLv, hu, Option.some.injEq] at he
        subst he
        exact plain rfl (.inr trivial) (fun v hv => by simp [part, isAgg, run_underlying hu, hv]) (fun a l h => by unfold Rep; rw [hu]; exact h)
      case array n e' => exact agg (.inl ⟨n, e', rfl⟩)
      case struct fs => exact agg (.inr ⟨fs, rfl⟩)
      all_goals simp [eqLv, hu] at he
theorem eqFields_sound (dd : Nat) {d : Nat} (IH : ∀ e ks, eqLv P d e = some ks → EqAt2 P dd e ks) (xs ys : Array Value) : ∀ (fs : List Field) (off : Nat) (ks : List T), eqFs (eqLv P d) P off fs = some ks →
    fits ks (xs.toList.drop off) = true → fits ks (ys.toList.drop off) = true → (Op.eqFields dd xs ys fs).run P w = .ok (eqV (xs.toList.drop off) (ys.toList.drop off)) w
  | [], off, ks, h, hx, hy => by
    simp only [eqFs, Option.some.injEq] at h
    subst h
    rw [List.eq_nil_of_length_eq_zero (fits_length hx), List.eq_nil_of_length_eq_zero (fits_length hy)]
    simp [Op.eqFields, eqV]
  | f :: fs, off, ks, h, hx, hy => by
    simp only [eqFs] at h
    cases hb : ((f.name == "_") || !(f.offset.beq off)) with
    | true => rw [hb] at h; cases h
    | false =>
      rw [hb] at h
      simp only [cond_false] at h
      simp only [Bool.or_eq_false_iff, Bool.not_eq_false', beq_eq_false_iff_ne, ne_eq] at hb
      obtain ⟨hn, ho⟩ := hb
      have ho := nbeq.1 ho
      split at h
      · rename_i k1 hk1
        cases hc : (P.cellsOf f.type).beq k1.length with
        | false => rw [hc] at h; cases h
        | true =>
          rw [hc] at h
          simp only [cond_true] at h
          split at h
          · rename_i r hr
            cases h
            obtain ⟨x1, x2⟩ := fits_split hx
            obtain ⟨y1, y2⟩ := fits_split hy
            obtain ⟨a, p1, r1⟩ := part_rep w hk1 (nbeq.1 hc) (xs := xs) (off := off) x1
            obtain ⟨b, p2, r2⟩ := part_rep w hk1 (nbeq.1 hc) (xs := ys) (off := off) y1
            have e := IH f.type k1 hk1 w a b _ _ r1 r2 x1 y1
            simp only [List.drop_drop] at x2 y2
            have ih := eqFields_sound dd IH xs ys fs (off + k1.length) r hr x2 y2
            have e3 : eqV (xs.toList.drop off) (ys.toList.drop off) = (eqV ((xs.toList.drop off).take k1.length) ((ys.toList.drop off).take k1.length) && eqV (xs.toList.drop (off + k1.length)) (ys.toList.drop (off + k1.length))) := by
              rw [← eqV_append x1 y1, ← List.drop_drop, ← List.drop_drop, List.take_append_drop, List.take_append_drop]
            subst ho
            simp only [Op.eqFields, hn, ne_eq, not_false_eq_true, if_true, Sem.run_bind, p1, p2, e, Result.andThen_ok, e3]
            cases eqV ((xs.toList.drop f.offset).take k1.length) ((ys.toList.drop f.offset).take k1.length) with
            | false => simp
            | true => simpa using ih
          · cases h
      · cases h
theorem eqItems_sound (dd : Nat) {d : Nat} {e : TypeId} {k1 : List T} (hk : eqLv P d e = some k1) (hc : P.cellsOf e = k1.length) (IH : EqAt2 P dd e k1) (xs ys : Array Value) : ∀ (n j : Nat),
    fits (repL k1 n) (xs.toList.drop (j * k1.length)) = true → fits (repL k1 n) (ys.toList.drop (j * k1.length)) = true → (Op.eqItems dd e (P.cellsOf e) xs ys (List.range' j n)).run P w = .ok (eqV (xs.toList.drop (j * k1.length)) (ys.toList.drop (j * k1.length))) w
  | 0, j, hx, hy => by
    simp only [repL] at hx hy
    rw [List.eq_nil_of_length_eq_zero (fits_length hx), List.eq_nil_of_length_eq_zero (fits_length hy)]
    simp [Op.eqItems, eqV]
  | n + 1, j, hx, hy => by
    simp only [repL] at hx hy
    obtain ⟨x1, x2⟩ := fits_split hx
    obtain ⟨y1, y2⟩ := fits_split hy
    obtain ⟨a, p1, r1⟩ := part_rep w hk hc (xs := xs) (off := j * k1.length) x1
    obtain ⟨b, p2, r2⟩ := part_rep w hk hc (xs := ys) (off := j * k1.length) y1
    have e1 := IH w a b _ _ r1 r2 x1 y1
    simp only [List.drop_drop] at x2 y2
    have hj : j * k1.length + k1.length = (j + 1) * k1.length := by rw [Nat.add_mul, Nat.one_mul]
    rw [hj] at x2 y2
    have ih := eqItems_sound dd hk hc IH xs ys n (j + 1) x2 y2
    have e3 : eqV (xs.toList.drop (j * k1.length)) (ys.toList.drop (j * k1.length)) = (eqV ((xs.toList.drop (j * k1.length)).take k1.length) ((ys.toList.drop (j * k1.length)).take k1.length) && eqV (xs.toList.drop ((j + 1) * k1.length)) (ys.toList.drop ((j + 1) * k1.length))) := by
      rw [← eqV_append x1 y1, ← hj, ← List.drop_drop, ← List.drop_drop, List.take_append_drop, List.take_append_drop]
    rw [hc] at ih ⊢
    simp only [List.range'_succ, Op.eqItems, Sem.run_bind, p1, p2, e1, Result.andThen_ok, e3]
    cases eqV ((xs.toList.drop (j * k1.length)).take k1.length) ((ys.toList.drop (j * k1.length)).take k1.length) with
    | false => simp
    | true => simpa using ih
end
theorem equal_sound {P : Program} (m : Nat) : ∀ (d : Nat) (e : TypeId) (ks : List T), eqLv P d e = some ks → EqAt2 P (m + d) e ks
  | 0, e, ks, h => by simp [eqLv] at h
  | d + 1, e, ks, h => by
    intro w a b la lb ra rb fa fb
    cases hu : P.underlying e with
    | none => simp [eqLv, hu] at h
    | some kd =>
      simp only [Rep, hu] at ra rb
      cases kd
      case bool =>
        simp only [eqLv, hu, Option.some.injEq] at h
        subst h
        obtain ⟨v, l, e1, g1, g2⟩ := fits_cons fa
        obtain ⟨v', l', e2, g3, g4⟩ := fits_cons fb
        simp only at ra rb
        subst ra; subst rb
        cases e1; cases e2
        rcases g2 with ⟨_, _, hq, _⟩ | ⟨x, _, rfl⟩
        · cases hq
        rcases g4 with ⟨_, _, hq, _⟩ | ⟨y, _, rfl⟩
        · cases hq
        rw [show m + (d + 1) = (m + d) + 1 from rfl, run_equalIn_bool' w (m + d) e x y hu]
        simp [eqV]
      case int k =>
        simp only [eqLv, hu, Option.some.injEq] at h
        subst h
        obtain ⟨v, l, e1, g1, g2⟩ := fits_cons fa
        obtain ⟨v', l', e2, g3, g4⟩ := fits_cons fb
        simp only at ra rb
        subst ra; subst rb
        cases e1; cases e2
        rcases g2 with ⟨q, x, hq, rfl⟩ | ⟨_, hq, _⟩
        case inr => cases hq
        rcases g4 with ⟨q', y, hq', rfl⟩ | ⟨_, hq', _⟩
        case inr => cases hq'
        cases hq; cases hq'
        rw [show m + (d + 1) = (m + d) + 1 from rfl, run_equalIn_int w (m + d) e k k x y hu]
        simp [eqV]
      case array n e' =>
        simp only [eqLv, hu] at h
        obtain ⟨xs, rfl, rfl⟩ := ra
        obtain ⟨ys, rfl, rfl⟩ := rb
        split at h
        · rename_i k1 hk1
          cases hc : (P.cellsOf e').beq k1.length with
          | false => rw [hc] at h; cases h
          | true =>
            rw [hc] at h
            cases h
            have hui : ∃ kd, P.underlying e' = some kd := by
              cases d with
              | zero => simp [eqLv] at hk1
              | succ d =>
                cases hu' : P.underlying e' with
                | none => simp [eqLv, hu'] at hk1
                | some kd => exact ⟨kd, rfl⟩
            obtain ⟨kd, hu'⟩ := hui
            obtain ⟨i, hi⟩ := info_of_underlying hu'
            rw [show m + (d + 1) = (m + d) + 1 from rfl, run_equalIn_array w (m + d) xs ys hu hi]
            have := eqItems_sound w (m + d) hk1 (nbeq.1 hc) (equal_sound m d e' k1 hk1) xs ys n 0 (by simpa using fa) (by simpa using fb)
            simpa [List.range_eq_range'] using this
        · cases h
      case struct fs =>
        simp only [eqLv, hu] at h
        obtain ⟨xs, rfl, rfl⟩ := ra
        obtain ⟨ys, rfl, rfl⟩ := rb
        cases hs : P.stoodInHeld e with
        | true => rw [hs] at h; cases h
        | false =>
          rw [hs] at h
          simp only [cond_false] at h
          have hfs : P.fieldsOf e = fs := by simp [Program.fieldsOf, hu]
          rw [show m + (d + 1) = (m + d) + 1 from rfl, run_equalIn_struct w (m + d) e xs ys (by rw [hfs]; exact hu) hs, hfs]
          have := eqFields_sound w (m + d) (fun e ks => equal_sound m d e ks) xs ys fs.toList 0 ks h (by simpa using fa) (by simpa using fb)
          simpa using this
      all_goals simp [eqLv, hu] at h
def Ts.list : Ts → List T
  | .one t => [t]
  | .cons t ts => t :: ts.list
def tsB : List T → List T → Bool
  | [], [] => true
  | a :: l, b :: m => T.beq a b && tsB l m
  | _, _ => false
theorem tsB_eq : ∀ {a b : List T}, tsB a b = true → a = b
  | [], [], _ => rfl
  | a :: l, b :: m, h => by
    simp only [tsB, Bool.and_eq_true] at h
    rw [T.eq_of_beq h.1, tsB_eq h.2]
  | [], _ :: _, h => by cases h
  | _ :: _, [], h => by cases h
def plainL : List T → Bool
  | [] => true
  | .sl _ :: _ => false
  | _ :: l => plainL l
def eqB (E : Env) (t : Nat) : Bool := match E.ti t with
  | some { gl := some ts, .. } => match eqLv E.P 9 t with
    | some ks => tsB ts.list ks && !(E.P.eqGuardType E.P.depth t) && plainL ks && (match E.P.underlying t with
      | some (.struct _) => true
      | some (.array _ _) => true
      | _ => false)
    | none => false
  | _ => false
theorem eq_leaves {w : World} {γ : Gh} : ∀ {ts : Ts} {a b : List D} {u v : ts.den} {c : Bool} {xs ys : List Value}, plainL ts.list = true → unleaves ts a = some u → unleaves ts b = some v → eqD a b = some c → rdL w γ a xs → rdL w γ b ys →
    fits ts.list xs = true ∧ fits ts.list ys = true ∧ c = eqV xs ys
  | .one t, a, b, u, v, c, xs, ys, hp, h1, h2, he, hx, hy => by
    obtain rfl := (unleaves_spec h1).symm
    obtain rfl := (unleaves_spec h2).symm
    simp only [Ts.leaves] at he hx hy
    match xs, ys with
    | [x], [y] =>
      cases t with
      | int k =>
        simp only [rdL, rdD, rdT, and_true] at hx hy
        subst hx; subst hy
        simp only [eqD, if_true, Option.some.injEq] at he
        simp only [Ts.list, fits, decide_true, Bool.and_self, eqV, true_and]
        exact he.symm
      | bool =>
        simp only [rdL, rdD, rdT, and_true] at hx hy
        subst hx; subst hy
        simp only [eqD, Option.some.injEq] at he
        simp only [Ts.list, fits, eqV, true_and]
        exact he.symm
      | sl e => simp [Ts.list, plainL] at hp
    | [], _ => simp only [rdL] at hx
    | _ :: _ :: _, _ => simp only [rdL, and_false] at hx
    | [x], [] => simp only [rdL] at hy
    | [x], _ :: _ :: _ => simp only [rdL, and_false] at hy
  | .cons t ts, a, b, u, v, c, xs, ys, hp, h1, h2, he, hx, hy => by
    obtain rfl := (unleaves_spec h1).symm
    obtain rfl := (unleaves_spec h2).symm
    simp only [Ts.leaves] at he hx hy
    match xs, ys with
    | x :: xs, y :: ys =>
      simp only [rdL] at hx hy
      have hs : ∀ (z : ts.den), unleaves ts (ts.leaves z) = some z := unleaves_leaves ts
      cases t with
      | int k =>
        simp only [rdD, rdT] at hx hy
        obtain ⟨rfl, hx⟩ := hx
        obtain ⟨rfl, hy⟩ := hy
        simp only [eqD, if_true] at he
        split at he
        · rename_i c' hc'
          cases he
          obtain ⟨q1, q2, q3⟩ := eq_leaves (by simpa [Ts.list, plainL] using hp) (hs u.2) (hs v.2) hc' hx hy
          simp only [Ts.list, fits, decide_true, Bool.true_and, eqV, q1, q2, q3, true_and]
        · cases he
      | bool =>
        simp only [rdD, rdT] at hx hy
        obtain ⟨rfl, hx⟩ := hx
        obtain ⟨rfl, hy⟩ := hy
        simp only [eqD] at he
        split at he
        · rename_i c' hc'
          cases he
          obtain ⟨q1, q2, q3⟩ := eq_leaves (by simpa [Ts.list, plainL] using hp) (hs u.2) (hs v.2) hc' hx hy
          simp only [Ts.list, fits, eqV, q1, q2, q3, true_and]
        · cases he
      | sl e => simp [Ts.list, plainL] at hp
    | [], _ => simp only [rdL] at hx
    | _ :: _, [] => simp only [rdL] at hy
def eqsB (E : Env) : List Nat → Bool
  | [] => true
  | t :: l => eqB E t && eqsB E l
theorem eqsB_mem {E : Env} : ∀ {l : List Nat} {t : Nat}, eqsB E l = true → mem t l = true → eqB E t = true
  | [], t, _, h => by cases h
  | s :: l, t, hb, h => by
    simp only [eqsB, Bool.and_eq_true] at hb
    simp only [mem, Bool.or_eq_true] at h
    rcases h with h | h
    · obtain rfl := nbeq.1 h; exact hb.1
    · exact eqsB_mem hb.2 h
theorem envOK2 {E : Env} (h1 : tabB E E.tab = true) (h2 : E.P.follows .mixedOrders = true) (h3 : fnsB E.P.funcs.toList = true) (h4 : eqsB E E.eqs = true) (h5 : ∀ g, mem g E.cnts = true → (∃ fn, E.P.funcs[g]? = some fn ∧ fn.body.isSome = true) ∧ ∀ (w : World) (b : Nat) (cs : List Int) (x : Int), SemAt w b cs → Calls E.P g #[.pointer (some ⟨b, 0, none⟩), .int .i64 x] w fun e w' => e = .returned (.int .i64 (countV cs x)) ∧ w' = w := by exact fun g hg => absurd hg Bool.false_ne_true) : EnvOK E :=
  ⟨h5, fun t ti ht => tabB_sound h1 t ti ht, h2, fun f fn hf hb => fnsB_sound h3 f fn (by simpa using hf) hb, fun t ht ti ts hti hgl w γ a b u v c x y p q hu hv hc hx hy => by
    have hb := eqsB_mem h4 ht
    unfold eqB at hb
    rw [hti] at hb
    obtain ⟨d, sz, ag, gl, z⟩ := ti
    simp only at hgl
    subst hgl
    simp only at hb
    split at hb
    · rename_i ks hks
      simp only [Bool.and_eq_true, Bool.not_eq_true'] at hb
      obtain ⟨⟨⟨b1, b2⟩, b3⟩, b4⟩ := hb
      obtain rfl := tsB_eq b1
      obtain ⟨f1, f2, rfl⟩ := eq_leaves b3 hu hv hc hx hy
      refine ⟨fun op => run_eqGuard_agg w op t p q x y b2, ?_⟩
      have hr : ∀ z : Array Value, Rep E.P t (.agg z) z.toList := fun z => by
        unfold Rep
        split at b4
        · exact ⟨z, rfl, rfl⟩
        · exact ⟨z, rfl, rfl⟩
        · cases b4
      exact equal_sound 9991 9 t _ hks w (.agg x) (.agg y) _ _ (hr x) (hr y) f1 f2
    · cases hb⟩
end Go.V
namespace Go.V
open Go.RowKit Go.ChangeShapes
set_option linter.unusedVariables false
mutual
def T.ok : (t : T) → t.den → Prop
  | .int k, x => k.min ≤ x ∧ x ≤ k.max
  | .bool, _ => True
  | .sl e, xs => List.length xs ≤ maxLen ∧ ∀ i (h : i < List.length xs), e.ok (xs[i]'h)
def Ts.ok : (ts : Ts) → ts.den → Prop
  | .one t, x => t.ok x
  | .cons t ts, x => t.ok x.1 ∧ ts.ok x.2
end
inductive Pl : List T → List D → Prop where
  | nil : Pl [] []
  | cons {t : T} {x : t.den} {ks : List T} {ds : List D} : t.ok x → Pl ks ds → Pl (t :: ks) (.g t x :: ds)
theorem Pl.append : ∀ {k l : List T} {a b : List D}, Pl k a → Pl l b → Pl (k ++ l) (a ++ b)
  | _, _, _, _, .nil, h => h
  | _, _, _, _, .cons h1 h2, h => .cons h1 (Pl.append h2 h)
theorem Pl.length : ∀ {k : List T} {a : List D}, Pl k a → a.length = k.length
  | _, _, .nil => rfl
  | _, _, .cons _ h => by simp [Pl.length h]
theorem Pl.leaves : ∀ {ts : Ts} {ds : List D}, Pl ts.list ds → ∃ x : ts.den, ds = ts.leaves x ∧ ts.ok x
  | .one t, ds, h => by
    simp only [Ts.list] at h
    cases h with
    | cons h1 h2 =>
      cases h2
      rename_i x
      exact ⟨x, by simp only [Ts.leaves], by simp only [Ts.ok]; exact h1⟩
  | .cons t ts, ds, h => by
    simp only [Ts.list] at h
    cases h with
    | cons h1 h2 =>
      rename_i x
      obtain ⟨y, rfl, hy⟩ := Pl.leaves h2
      exact ⟨(x, y), by simp only [Ts.leaves], by simp only [Ts.ok]; exact ⟨h1, hy⟩⟩
def tsOf : List T → Option Ts
  | [] => none
  | [t] => some (.one t)
  | t :: l => match tsOf l with
    | some ts => some (.cons t ts)
    | none => none
theorem tsOf_list : ∀ {l : List T} {ts : Ts}, tsOf l = some ts → ts.list = l
  | [], ts, h => by simp [tsOf] at h
  | [t], ts, h => by simp only [tsOf, Option.some.injEq] at h; subst h; rfl
  | t :: u :: l, ts, h => by
    simp only [tsOf] at h
    split at h
    · rename_i us hus
      cases h
      simp only [Ts.list]
      rw [tsOf_list (l := u :: l) hus]
    · cases h
theorem Ts.list_length : ∀ (ts : Ts), ts.list.length = ts.size
  | .one t => by simp only [Ts.list, Ts.size, List.length_singleton]
  | .cons t ts => by simp only [Ts.list, Ts.size, List.length_cons, Ts.list_length ts]
def lvP (P : Program) : Nat → TypeId → Option (List T)
  | 0, _ => none
  | d + 1, t => match P.underlying t with
    | some (.int k) => some [.int k]
    | some .bool => some [.bool]
    | some (.slice e) => match lvP P d e with
      | some ks => match tsOf ks with
        | some ts => bif (P.cellsOf e).beq ks.length then some [.sl ts] else none
        | none => none
      | none => none
    | some (.struct fs) => match eqFs (lvP P d) P 0 fs.toList with
      | some ks => bif (P.cellsOf t).beq ks.length then some ks else none
      | none => none
    | some (.array n e) => match lvP P d e with
      | some ks => bif (P.cellsOf e).beq ks.length && (P.cellsOf t).beq (repL ks n).length then some (repL ks n) else none
      | none => none
    | _ => none
def Free (γ : Gh) : Prop := ∀ b, γ.rd b = none
theorem Free.may {γ : Gh} (h : Free γ) (b i : Nat) : γ.may b i := by simp [Gh.may, h b]
section
variable {H : Type} {enc : TypeId × Value → H} {P : Program} {w : World} {base : Nat} {spare : Nat → Bool} {held : Bool}
theorem rdL_app {γ : Gh} : ∀ {a b : List D} {c d : List Value}, rdL w γ a c → rdL w γ b d → rdL w γ (a ++ b) (c ++ d)
  | [], b, [], d, _, h => by simpa using h
  | x :: a, b, y :: c, d, h1, h2 => by
    simp only [rdL] at h1
    simp only [List.cons_append, rdL]
    exact ⟨h1.1, rdL_app h1.2 h2⟩
  | [], _, _ :: _, _, h, _ => by simp only [rdL] at h
  | _ :: _, _, [], _, h, _ => by simp only [rdL] at h
theorem open_fields {d : Nat} {cs : List Value} (IH : ∀ (t : TypeId) (ks : List T), lvP P d t = some ks → ∀ (fuel : Nat) (cs : List Value) x, DataW.trod enc P w base spare held fuel t cs = some x → ∃ ds, Pl ks ds ∧ ∀ γ : Gh, Free γ → rdL w γ ds cs) (n : Nat) :
    ∀ (fs : List Field) (off : Nat) (ks : List T), eqFs (lvP P d) P off fs = some ks → (∀ (i : Nat) (f : Field), fs[i]? = some f → ∃ y, DataW.trod enc P w base spare held n f.type ((cs.drop f.offset).take (P.cellsOf f.type)) = some y) →
    ∃ ds, Pl ks ds ∧ ∀ γ : Gh, Free γ → rdL w γ ds ((cs.drop off).take ks.length)
  | [], off, ks, h, _ => by
    simp only [eqFs, Option.some.injEq] at h
    subst h
    exact ⟨[], .nil, fun γ _ => by simp [rdL]⟩
  | f :: fs, off, ks, h, hf => by
    simp only [eqFs] at h
    cases hb : ((f.name == "_") || !(f.offset.beq off)) with
    | true => rw [hb] at h; cases h
    | false =>
      rw [hb] at h
      simp only [cond_false] at h
      simp only [Bool.or_eq_false_iff, Bool.not_eq_false'] at hb
      have ho := nbeq.1 hb.2
      split at h
      · rename_i k1 hk1
        cases hc : (P.cellsOf f.type).beq k1.length with
        | false => rw [hc] at h; cases h
        | true =>
          rw [hc] at h
          simp only [cond_true] at h
          split at h
          · rename_i r hr
            cases h
            obtain ⟨y, hy⟩ := hf 0 f rfl
            rw [nbeq.1 hc, ho] at hy
            obtain ⟨d1, p1, q1⟩ := IH f.type k1 hk1 n _ y hy
            obtain ⟨d2, p2, q2⟩ := open_fields IH n fs (off + k1.length) r hr fun i f' hi => hf (i + 1) f' (by simpa using hi)
            refine ⟨d1 ++ d2, p1.append p2, fun γ hγ => ?_⟩
            have := rdL_app (q1 γ hγ) (q2 γ hγ)
            rw [← List.drop_drop] at this
            have e : ∀ (l : List Value) (a b : Nat), l.take a ++ (l.drop a).take b = l.take (a + b) := fun l a b => by rw [List.take_add]
            rw [e] at this
            simpa using this
          · cases h
      · cases h
theorem open_items {d m : Nat} {e : TypeId} {k1 : List T} {cs : List Value} (hk : lvP P d e = some k1) (hc : P.cellsOf e = k1.length)
    (IH : ∀ (t : TypeId) (ks : List T), lvP P d t = some ks → ∀ (fuel : Nat) (cs : List Value) x, DataW.trod enc P w base spare held fuel t cs = some x → ∃ ds, Pl ks ds ∧ ∀ γ : Gh, Free γ → rdL w γ ds cs) :
    ∀ (n j : Nat), (∀ i, i < n → ∃ y, DataW.trod enc P w base spare held m e ((cs.drop ((j + i) * P.cellsOf e)).take (P.cellsOf e)) = some y) → ∃ ds, Pl (repL k1 n) ds ∧ ∀ γ : Gh, Free γ → rdL w γ ds ((cs.drop (j * k1.length)).take (repL k1 n).length)
  | 0, j, _ => ⟨[], by simp only [repL]; exact .nil, fun γ _ => by simp [repL, rdL]⟩
  | n + 1, j, h => by
    obtain ⟨y, hy⟩ := h 0 (by omega)
    rw [hc, Nat.add_zero] at hy
    obtain ⟨d1, p1, q1⟩ := IH e k1 hk m _ y hy
    obtain ⟨d2, p2, q2⟩ := open_items hk hc IH n (j + 1) fun i hi => by
      have := h (i + 1) (by omega)
      rwa [show j + (i + 1) = j + 1 + i by omega] at this
    refine ⟨d1 ++ d2, by simp only [repL]; exact p1.append p2, fun γ hγ => ?_⟩
    have := rdL_app (q1 γ hγ) (q2 γ hγ)
    rw [show (j + 1) * k1.length = j * k1.length + k1.length by rw [Nat.add_mul, Nat.one_mul], ← List.drop_drop] at this
    have e2 : ∀ (l : List Value) (a b : Nat), l.take a ++ (l.drop a).take b = l.take (a + b) := fun l a b => by rw [List.take_add]
    rw [e2] at this
    simpa [repL] using this
theorem choose_list {α : Type} {Q : Nat → α → Prop} : ∀ (n : Nat), (∀ i, i < n → ∃ x, Q i x) → ∃ l : List α, l.length = n ∧ ∀ i (h : i < l.length), Q i (l[i]'h)
  | 0, _ => ⟨[], rfl, fun i h => absurd h (Nat.not_lt_zero _)⟩
  | n + 1, h => by
    obtain ⟨l, hl, hq⟩ := choose_list n fun i hi => h i (by omega)
    obtain ⟨x, hx⟩ := h n (by omega)
    refine ⟨l ++ [x], by simp [hl], fun i hi => ?_⟩
    by_cases hin : i < l.length
    · rw [List.getElem_append_left hin]; exact hq i hin
    · have : i = n := by simp at hi; omega
      subst this
      have e : (l ++ [x])[i]'hi = x := by
        rw [List.getElem_append_right (by omega)]
        simp [hl]
      rw [e]; exact hx
theorem open_lv : ∀ (d : Nat) (t : TypeId) (ks : List T), lvP P d t = some ks → ∀ (fuel : Nat) (cs : List Value) x, DataW.trod enc P w base spare held fuel t cs = some x → ∃ ds, Pl ks ds ∧ ∀ γ : Gh, Free γ → rdL w γ ds cs
  | 0, t, ks, h, _, _, _, _ => by simp [lvP] at h
  | d + 1, t, ks, h, fuel, cs, x, hx => by
    cases hu : P.underlying t with
    | none => simp [lvP, hu] at h
    | some kd =>
      cases kd
      case bool =>
        simp only [lvP, hu, Option.some.injEq] at h
        subst h
        cases fuel with
        | zero => simp [DataW.trod] at hx
        | succ fuel =>
          unfold DataW.trod at hx
          rw [hu] at hx
          split at hx <;> simp_all
          rename_i b
          exact ⟨[.g .bool b], .cons (by simp only [T.ok]) .nil, fun γ _ => by simp [rdL, rdD, rdT]⟩
      case int k =>
        simp only [lvP, hu, Option.some.injEq] at h
        subst h
        obtain ⟨n, rfl, _, hw⟩ := DataW.trod_int hu hx
        simp only [Lit.wf, Bool.and_eq_true, decide_eq_true_eq] at hw
        exact ⟨[.g (.int k) n], .cons (by simp only [T.ok]; exact hw) .nil, fun γ _ => by simp [rdL, rdD, rdT]⟩
      case slice e =>
        simp only [lvP, hu] at h
        split at h
        · rename_i k1 hk1
          split at h
          · rename_i ts hts
            cases hc : (P.cellsOf e).beq k1.length with
            | false => rw [hc] at h; cases h
            | true =>
              rw [hc] at h
              cases h
              have hl := tsOf_list hts
              have hsz : P.cellsOf e = ts.size := by rw [nbeq.1 hc, ← hl, Ts.list_length]
              rcases DataW.trod_slice hu hx with ⟨rfl, _⟩ | ⟨a, len, cap, elems, rest, n, _, rfl, _, hb, hlc, hm, hlen, hel, _, _⟩
              · exact ⟨[.g (.sl ts) []], .cons (by simp only [T.ok]; exact ⟨Nat.zero_le _, fun i hi => absurd hi (Nat.not_lt_zero _)⟩) .nil, fun γ _ => by
                  simp only [rdL, rdD, rdT, and_true]
                  exact ⟨none, 0, rfl, Nat.le_refl _, fun i hi => absurd hi (Nat.not_lt_zero _)⟩⟩
              · have hone : ∀ i, i < len → ∃ y : ts.den, ts.ok y ∧ a.spot = none ∧ ∀ γ : Gh, Free γ → rdTs w γ ts y a.block (a.off + i * ts.size) := fun i hi => by
                  have h1 := hel i hi
                  rw [List.getElem?_eq_getElem (by omega)] at h1
                  obtain ⟨cs, hcs, htr⟩ := Option.bind_eq_some_iff.1 h1
                  obtain ⟨ds, p1, q1⟩ := open_lv d e k1 hk1 n cs _ htr
                  rw [← hl] at p1
                  obtain ⟨y, rfl, hy⟩ := p1.leaves
                  obtain ⟨_, c2, c3⟩ := World.cells?_some hcs
                  have hpos := Ts.size_pos ts
                  rw [hsz] at c2 c3
                  have hget : ∀ j, j < ts.size → ∃ v, cs[j]? = some v ∧ w.cell? ((a.add (i * ts.size)).add j) = some v := fun j hj => by
                    have hlt : j < cs.length := by omega
                    exact ⟨cs[j], List.getElem?_eq_getElem hlt, by rw [c3 j hj]; exact List.getElem?_eq_getElem hlt⟩
                  have haddr : a.spot = none := by
                    have h00 := hel 0 (by omega)
                    rw [List.getElem?_eq_getElem (by omega)] at h00
                    obtain ⟨cs0, hcs0, _⟩ := Option.bind_eq_some_iff.1 h00
                    obtain ⟨_, e2, e3⟩ := World.cells?_some hcs0
                    rw [hsz] at e2 e3
                    have e4 := e3 0 hpos
                    rw [List.getElem?_eq_getElem (by omega)] at e4
                    simp only [Nat.zero_mul, Addr.add, if_true] at e4
                    cases hsp : a.spot with
                    | none => rfl
                    | some q =>
                      unfold World.cell? at e4
                      split at e4
                      · rw [hsp] at e4; simp at e4
                      · cases e4
                  have hadd : ∀ j, (a.add (i * ts.size)).add j = ⟨a.block, a.off + i * ts.size + j, none⟩ := fun j => by
                    obtain ⟨ab, ao, as⟩ := a
                    simp only at haddr
                    subst haddr
                    simp only [add_none]
                  refine ⟨y, hy, haddr, fun γ hγ => rdTs_of_rdC (rdC_of_cells fun j dd hj => ?_)⟩
                  obtain ⟨v, hv, hdv⟩ := rdL_get (q1 γ hγ) hj
                  have hjl : j < ts.size := by
                    have := (List.getElem?_eq_some_iff.1 hj).1
                    rwa [leaves_length] at this
                  obtain ⟨v', hv', hcell⟩ := hget j hjl
                  rw [hv] at hv'
                  cases hv'
                  rw [hadd j] at hcell
                  exact ⟨v, hcell, hγ.may _ _, hdv⟩
                obtain ⟨xs, hxl, hxs⟩ := choose_list len hone
                refine ⟨[.g (.sl ts) xs], .cons (by simp only [T.ok]; exact ⟨by omega, fun i hi => (hxs i hi).1⟩) .nil, fun γ hγ => ?_⟩
                simp only [rdL, rdD, rdT, and_true]
                refine ⟨some a, cap, by rw [hxl], by omega, fun i hi => ?_⟩
                obtain ⟨_, hsp, hr⟩ := hxs i hi
                refine ⟨a.block, a.off, ?_, hr γ hγ⟩
                obtain ⟨ab, ao, as⟩ := a
                simp only at hsp
                subst hsp
                rfl
          · cases h
        · cases h
      case struct fs =>
        simp only [lvP, hu] at h
        split at h
        · rename_i k0 hk0
          have h' := h
          replace h := hk0
          cases hc : (P.cellsOf t).beq k0.length with
          | false => rw [hc] at h'; cases h'
          | true =>
          rw [hc] at h'
          cases h'
          obtain ⟨xs, n, _, _, hl, hlen, hf⟩ := DataW.trod_struct hu hx
          obtain ⟨ds, p1, q1⟩ := open_fields (enc := enc) (w := w) (base := base) (spare := spare) (held := held) (cs := cs) (fun t ks => open_lv d t ks) n fs.toList 0 _ h fun i f hi => by
            have hi' : fs[i]? = some f := by simpa using hi
            have hlt := (Array.getElem?_eq_some_iff.1 hi').1
            exact ⟨xs[i]'(by omega), by rw [hf i f hi']; exact List.getElem?_eq_getElem _⟩
          refine ⟨ds, p1, fun γ hγ => ?_⟩
          have := q1 γ hγ
          rwa [List.drop_zero, List.take_of_length_le (by rw [hl, nbeq.1 hc]; exact Nat.le_refl _)] at this
        · cases h
      case array n e =>
        simp only [lvP, hu] at h
        split at h
        · rename_i k1 hk1
          cases hc : ((P.cellsOf e).beq k1.length && (P.cellsOf t).beq (repL k1 n).length) with
          | false => rw [hc] at h; cases h
          | true =>
            rw [hc] at h
            cases h
            simp only [Bool.and_eq_true] at hc
            obtain ⟨xs, m, _, _, hl, hlen, hi⟩ := DataW.trod_array hu hx
            obtain ⟨ds, p1, q1⟩ := open_items (enc := enc) (w := w) (base := base) (spare := spare) (held := held) (cs := cs) (m := m) hk1 (nbeq.1 hc.1) (fun t ks => open_lv d t ks) n 0 fun i hin => by
              exact ⟨xs[i]'(by omega), by rw [Nat.zero_add, hi i hin]; exact List.getElem?_eq_getElem _⟩
            refine ⟨ds, p1, fun γ hγ => ?_⟩
            have := q1 γ hγ
            rw [Nat.zero_mul, List.drop_zero, List.take_of_length_le (by rw [hl, nbeq.1 hc.2]; exact Nat.le_refl _)] at this
            exact this
        · cases h
      all_goals simp [lvP, hu] at h
def argR (ag : Bool) (ts : Ts) (x : ts.den) : R := match ag with
  | true => .agg (ts.leaves x)
  | false => match ts.leaves x with
    | [d] => .one d
    | _ => .undef
def isAggP (P : Program) (t : TypeId) : Bool := match P.underlying t with
  | some (.struct _) => true
  | some (.array _ _) => true
  | _ => false
def argB (P : Program) (t : TypeId) (ag : Bool) (ts : Ts) : Bool := (match lvP P 9 t with
  | some ks => tsB ks ts.list
  | none => false) && (isAggP P t == ag) && (ag || ts.size.beq 1)
theorem open_arg {r : Reach} {b0 : Nat} {t : TypeId} {ag : Bool} {ts : Ts} {v : Value} {d : DataW H} {ps : List MemPlace} (hb : argB P t ag ts = true) (hval : Value.okWide P w r b0 t v) (h : DataW.Trod enc P w base spare held t v d ps) :
    ∃ x : ts.den, ts.ok x ∧ ∀ γ : Gh, Free γ → rdR w γ (argR ag ts x) v := by
  simp only [argB, Bool.and_eq_true, Bool.or_eq_true] at hb
  obtain ⟨⟨hb1, hb2⟩, hb3⟩ := hb
  split at hb1
  · rename_i ks hks
    obtain rfl := tsB_eq hb1
    obtain ⟨fuel, hf⟩ := h
    obtain ⟨ds, p1, q1⟩ := open_lv 9 t ts.list hks fuel _ _ hf
    obtain ⟨x, rfl, hx⟩ := p1.leaves
    refine ⟨x, hx, fun γ hγ => ?_⟩
    have hr := q1 γ hγ
    have hb2 := eq_of_beq hb2
    cases ag with
    | true =>
      have hcs : ∃ cs, v = .agg cs := by
        unfold isAggP at hb2
        unfold Value.okWide at hval
        split at hb2
        · rename_i hu; rw [hu] at hval; obtain ⟨cs, rfl, _⟩ := hval; exact ⟨cs, rfl⟩
        · rename_i hu; rw [hu] at hval; obtain ⟨cs, rfl, _⟩ := hval; exact ⟨cs, rfl⟩
        · cases hb2
      obtain ⟨cs, rfl⟩ := hcs
      simp only [argR, rdR]
      exact ⟨cs, rfl, hr⟩
    | false =>
      have h1 : ts.size = 1 := by
        rcases hb3 with hb3 | hb3
        · cases hb3
        · exact nbeq.1 hb3
      have hl := leaves_length ts x
      rw [h1] at hl
      simp only [argR]
      cases hlv : ts.leaves x with
      | nil => rw [hlv] at hl; simp at hl
      | cons y ys =>
        have hys : ys = [] := by rw [hlv] at hl; simpa using hl
        subst hys
        rw [hlv] at hr
        simp only [rdR]
        have hlen := rdL_length hr
        have hc : ∃ u, v.cells.toList = [u] := by
          match hh : v.cells.toList, hlen with
          | [u], _ => exact ⟨u, rfl⟩
        obtain ⟨u, hu⟩ := hc
        rw [hu] at hr
        simp only [rdL, and_true] at hr
        have hv : v = u := by
          cases v with
          | agg cs =>
            exfalso
            unfold isAggP at hb2
            unfold Value.okWide at hval
            simp only [lvP] at hks
            split at hb2
            · cases hb2
            · cases hb2
            · rename_i hn1 hn2
              cases hut : P.underlying t with
              | none => rw [hut] at hks; cases hks
              | some kd =>
                rw [hut] at hval hks
                cases kd <;> first | (exact hn1 _ hut) | (exact hn2 _ _ hut) | (simp at hks; done) | (simp only [Cell.okWide, hut] at hval; unfold Cell.ok at hval; rw [hut] at hval; simp at hval)
          | _ => simpa [Value.cells] using hu
        rw [hv]
        exact hr
  · cases hb1
end
end Go.V
namespace Go.V.P
open Go Go.V Go.IntWalk
set_option linter.unusedVariables false
def isT : Option Bool → Bool
  | some true => true
  | _ => false
theorem isT_eq {x : Option Bool} (h : isT x = true) : x = some true := by
  unfold isT at h
  split at h
  · rfl
  · cases h
theorem all_range {p : Int → Bool} {a : Int} {n : Nat} (h : (List.range n).all (fun i => p (a + (i : Int))) = true) {x : Int} (h1 : a ≤ x) (h2 : x < a + n) : p x = true := by
  rw [List.all_eq_true] at h
  have := h (x - a).toNat (List.mem_range.2 (by omega))
  rwa [show a + ((x - a).toNat : Int) = x by omega] at this
theorem all_range2 {p : Int → Int → Bool} {a b : Int} {n m : Nat} (h : (List.range n).all (fun i => (List.range m).all fun j => p (a + (i : Int)) (b + (j : Int))) = true) {x y : Int} (h1 : a ≤ x) (h2 : x < a + n) (h3 : b ≤ y) (h4 : y < b + m) : p x y = true :=
  all_range (p := fun y => p x y) (all_range (p := fun x => (List.range m).all fun j => p x (b + (j : Int))) h h1 h2) h3 h4
theorem and_le (x : Int) (m : Nat) (hm : m < 2 ^ 63) : ∃ n : Int, IntKind.wrap .i64 ((BitVec.ofInt (IntKind.bits .i64) x &&& BitVec.ofInt (IntKind.bits .i64) (m : Int)).toNat : Int) = n ∧ 0 ≤ n ∧ n ≤ m := by
  have h1 : (BitVec.ofInt 64 x &&& BitVec.ofInt 64 (m : Int)).toNat ≤ m := by
    rw [BitVec.toNat_and]
    refine Nat.le_trans Nat.and_le_right ?_
    rw [BitVec.toNat_ofInt]
    have : ((m : Int) % (2 ^ 64 : Nat)).toNat = m := by omega
    rw [this]
    exact Nat.le_refl _
  refine ⟨_, i64_in _ ?_, ?_, ?_⟩
  · show _ ≤ (((BitVec.ofInt 64 x &&& BitVec.ofInt 64 (m : Int)).toNat : Nat) : Int) ∧ (((BitVec.ofInt 64 x &&& BitVec.ofInt 64 (m : Int)).toNat : Nat) : Int) ≤ _
    omega
  · omega
  · show (((BitVec.ofInt 64 x &&& BitVec.ofInt 64 (m : Int)).toNat : Nat) : Int) ≤ _
    omega
theorem u8_in (n : Int) (h : 0 ≤ n ∧ n ≤ 255) : IntKind.wrap .u8 n = n := by
  have h2 : IntKind.wrap .u8 n = n % 256 := rfl
  rw [h2]; omega
theorem and8_le (x : Int) (m : Nat) (hm : m < 256) : ∃ n : Int, IntKind.wrap .u8 ((BitVec.ofInt (IntKind.bits .u8) x &&& BitVec.ofInt (IntKind.bits .u8) (m : Int)).toNat : Int) = n ∧ 0 ≤ n ∧ n ≤ m := by
  have h1 : (BitVec.ofInt 8 x &&& BitVec.ofInt 8 (m : Int)).toNat ≤ m := by
    rw [BitVec.toNat_and]
    refine Nat.le_trans Nat.and_le_right ?_
    rw [BitVec.toNat_ofInt]
    have : ((m : Int) % (2 ^ 8 : Nat)).toNat = m := by omega
    rw [this]
    exact Nat.le_refl _
  refine ⟨_, u8_in _ ?_, ?_, ?_⟩
  · show _ ≤ (((BitVec.ofInt 8 x &&& BitVec.ofInt 8 (m : Int)).toNat : Nat) : Int) ∧ (((BitVec.ofInt 8 x &&& BitVec.ofInt 8 (m : Int)).toNat : Nat) : Int) ≤ _
    omega
  · omega
  · show (((BitVec.ofInt 8 x &&& BitVec.ofInt 8 (m : Int)).toNat : Nat) : Int) ≤ _
    omega
def rnd (x y : Int) : Int := if x < 0 then -((-x + y / 2) / y) else (x + y / 2) / y
theorem half_zero {b : Int} (hb : 1 ≤ b) : b / 2 / b = 0 := Int.ediv_eq_zero_of_lt (by omega) (by omega)
theorem rnd_zero {b : Int} (hb : 1 ≤ b) : rnd 0 b = 0 := by
  unfold rnd
  rw [if_neg (by omega), Int.zero_add, half_zero hb]
theorem rnd_neg {x b : Int} (hb : 1 ≤ b) : rnd (-x) b = -rnd x b := by
  rcases Int.lt_trichotomy x 0 with h | h | h
  · unfold rnd
    rw [if_neg (by omega), if_pos h, Int.neg_neg]
  · subst h; rw [Int.neg_zero, rnd_zero hb]; rfl
  · unfold rnd
    rw [if_pos (by omega), if_neg (by omega), Int.neg_neg]
theorem rnd_pos_add {x k b : Int} (hb : 1 ≤ b) (hx : 0 ≤ x) (hk : 0 ≤ k) : rnd (x + k * b) b = rnd x b + k := by
  have h : 0 ≤ k * b := Int.mul_nonneg hk (by omega)
  unfold rnd
  rw [if_neg (by omega), if_neg (by omega), show x + k * b + b / 2 = (x + b / 2) + k * b by omega, Int.add_mul_ediv_right _ _ (by omega)]
theorem rnd_mul {x b : Int} (hb : 1 ≤ b) : rnd (x * b) b = x := by
  by_cases hx : x < 0
  · have := rnd_pos_add (x := 0) (k := -x) hb (Int.le_refl 0) (by omega)
    rw [Int.zero_add, rnd_zero hb, Int.zero_add, Int.neg_mul, rnd_neg hb] at this
    omega
  · have := rnd_pos_add (x := 0) (k := x) hb (Int.le_refl 0) (by omega)
    rwa [Int.zero_add, rnd_zero hb, Int.zero_add] at this
theorem rnd_one {x : Int} : rnd x 1 = x := by have := rnd_mul (x := x) (b := 1) (by omega); rwa [Int.mul_one] at this
theorem rnd_abs {x b c : Int} (hb : 1 ≤ b) (h1 : -c ≤ x) (h2 : x ≤ c) : -(c + b) ≤ rnd x b ∧ rnd x b ≤ c + b := by
  unfold rnd
  by_cases hx : x < 0
  · rw [if_pos hx]
    have h3 : 0 ≤ (-x + b / 2) / b := Int.ediv_nonneg (by omega) (by omega)
    have h4 : (-x + b / 2) / b ≤ -x + b / 2 := Int.ediv_le_self _ (by omega)
    omega
  · rw [if_neg hx]
    have h3 : 0 ≤ (x + b / 2) / b := Int.ediv_nonneg (by omega) (by omega)
    have h4 : (x + b / 2) / b ≤ x + b / 2 := Int.ediv_le_self _ (by omega)
    omega
theorem tmod_lt {x m : Int} (hm : 0 < m) : -m < Int.tmod x m ∧ Int.tmod x m < m := ⟨Int.lt_tmod_of_pos x hm, Int.tmod_lt_of_pos x hm⟩
theorem iterN_inv {σ ζ : Type} {p : σ → Option (σ ⊕ ζ)} (I : σ → Prop) (μ : σ → Nat) {Q : ζ → Prop}
    (h : ∀ s, I s → (∃ s', p s = some (.inl s') ∧ I s' ∧ μ s' < μ s) ∨ (∃ z, p s = some (.inr z) ∧ Q z)) : ∀ (n : Nat) (s : σ), I s → μ s < n → ∃ z, iterN p n s = some z ∧ Q z
  | 0, s, _, hn => absurd hn (Nat.not_lt_zero _)
  | n + 1, s, hi, hn => by
    simp only [iterN]
    rcases h s hi with ⟨s', h1, h2, h3⟩ | ⟨z, h1, h2⟩
    · rw [h1]
      exact iterN_inv I μ h n s' h2 (by omega)
    · rw [h1]
      exact ⟨z, rfl, h2⟩
theorem iterN_for {σ ζ : Type} {p : σ → Option (σ ⊕ ζ)} {z : ζ} : ∀ (n : Nat) (st : Nat → σ) (m : Nat), n < m → (∀ i, i < n → p (st i) = some (.inl (st (i + 1)))) → p (st n) = some (.inr z) → iterN p m (st 0) = some z
  | 0, st, m + 1, _, _, he => by
    simp only [iterN]
    rw [he]
    rfl
  | n + 1, st, m + 1, hm, hs, he => by
    simp only [iterN]
    rw [hs 0 (by omega)]
    exact iterN_for n (fun i => st (i + 1)) m (by omega) (fun i hi => hs (i + 1) (by omega)) he
  | _, _, 0, hm, _, _ => absurd hm (Nat.not_lt_zero _)
theorem LL_lt {n : Nat} (h : n < 1000000) : n < LL := h
theorem mul_in' {a b c d : Int} (h1 : 0 ≤ a) (h2 : a ≤ c) (h3 : 0 ≤ b) (h4 : b ≤ d) : 0 ≤ a * b ∧ a * b ≤ c * d :=
  ⟨Int.mul_nonneg h1 h3, Int.mul_le_mul h2 h4 h3 (by omega)⟩
end Go.V.P
