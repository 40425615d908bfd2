/- Each operation of the evaluator is the machine's: those that make no memory, or new memory alone. -/
import Derived.Test.YtelfooangijedaaSim
import Derived.WalkKit
import Derived.WalkLawsBesides
namespace Go.V
open Go.RowKit

/-! ### What is asked of the tables -/
def isAggD : TD → Bool
  | .array _ _ => true
  | .struct _ => true
  | _ => false
structure TiOK (E : Env) (t : Nat) (ti : TI) : Prop where
  agg : ti.agg = isAggD ti.d
  info : (∀ ts, ti.d ≠ .tup ts) → ∃ i, E.P.info? t = some i ∧ i.size = ti.size ∧ i.bytes ≤ 65536 ∧ ∃ z, i.zero = some z ∧ z.cells.size = ti.size ∧ (∀ w γ, rdL w γ ti.zero z.cells.toList) ∧ ti.zero.map D.strip = ti.zero
  desc : match ti.d with
    | .int k => E.P.underlying t = some (.int k)
    | .bool => E.P.underlying t = some .bool
    | .slice e => E.P.underlying t = some (.slice e) ∧ ∀ te, E.ti e = some te → ∀ ts, te.d ≠ .tup ts
    | .array n e => E.P.underlying t = some (.array n e) ∧ ∀ te, E.ti e = some te → ∀ ts, te.d ≠ .tup ts
    | .struct fs => ∃ fields, E.P.underlying t = some (.struct fields) ∧ fs.length = fields.size ∧ ∀ (i off ft : Nat), fs[i]? = some (off, ft) → ∃ f, fields[i]? = some f ∧ f.offset = off ∧ f.type = ft ∧ (∀ te, E.ti ft = some te → ∀ ts, te.d ≠ .tup ts) ∧ ∃ i, E.P.info? ft = some i ∧ i.size ≠ 0
    | .ptr e => E.P.underlying t = some (.pointer e)
    | .func => ∃ a b c, E.P.underlying t = some (.func a b c)
    | .tup _ => True
  nt : ∀ ts, ti.d = .tup ts → ti.gl = none
structure EnvOK (E : Env) : Prop where
  ti : ∀ t ti, E.ti t = some ti → TiOK E t ti
  mixed : E.P.follows .mixedOrders = true
  fns : ∀ (f : Nat) (fn : Func), E.P.funcs[f]? = some fn → fn.body.isSome = true → (fn.name == "runtime.NumGoroutine") = false
  eqs : ∀ t, mem t E.eqs = true → ∀ (ti : TI) (ts : Ts), E.ti t = some ti → ti.gl = some ts → ∀ (w : World) (γ : Gh) (a b : List D) (u v : ts.den) (c : Bool) (x y : Array Value) (p q : Operand), unleaves ts a = some u → unleaves ts b = some v → eqD a b = some c → rdL w γ a x.toList → rdL w γ b y.toList →
    (∀ op, (eqGuard op t p q (.agg x) (.agg y)).run E.P w = .ok () w) ∧ (Op.equal t (.agg x) (.agg y)).run E.P w = .ok c w

section
variable {E : Env} {P : Program} {γ : Gh} {dead : List Tok} {C : List Nat} {a : Act} {w : World} {dst : Nat}

/-- What is looked up is what lies in the frame. -/
def LkOK (lk : Nat → Option R) (γ : Gh) (dead : List Tok) (C : List Nat) (a : Act) (w : World) : Prop :=
  ∀ s r, lk s = some r → rdR w γ r (a.tmps.getD s Go.undef) ∧ tkR γ dead C r (a.tmps.getD s Go.undef)

def Quiet (P : Program) (o : Oper) (a : Act) (γ : Gh) (dead : List Tok) (C : List Nat) (w : World) (r : R) : Prop :=
  ∀ (next : Act → World → Prop) (Q : Exit → Act → World → Prop),
    (∀ v γ' w', Grow γ w γ' w' (dstOf o) → rdR w' γ' r v → tkR γ' dead (dstOf o :: C) r v → next (a.put o.dst v) w') → o.wp P a w next Q

theorem Quiet.mk {o : Oper} {r : R} {v : Value} {γ' : Gh} {w' : World} (hrun : (execOp a.eval o).run P w = .ok (.value v) w') (hg : Grow γ w γ' w' (dstOf o)) (hr : rdR w' γ' r v) (ht : tkR γ' dead (dstOf o :: C) r v) :
    Quiet P o a γ dead C w r := by
  intro next Q h
  unfold Oper.wp
  rw [hrun]
  exact h v γ' w' hg hr ht

def Gh.drop (γ : Gh) (dst : Nat) : Gh := { γ with ow := fun k => if k = .s dst then none else γ.ow k }
theorem Grow.self (hf : ∀ b, w.heap.size ≤ b → γ.rd b = none) : Grow γ w (γ.drop dst) w dst where
  below := Below.refl _ _
  bx := rfl
  base := rfl
  rd := fun _ _ => rfl
  fresh := hf
  ow := fun k hk => by simp [Gh.drop, hk]
  new := fun h hh => by simp [Gh.drop] at hh
theorem rdR_drop {r : R} {v : Value} : rdR w γ r v → rdR w (γ.drop dst) r v := rdR_mono (γ := γ) (w := w) (w' := w) (γ' := γ.drop dst) ⟨fun _ _ _ h1 h2 => ⟨h2, h1⟩⟩ (fun _ _ h => h) r v
theorem rdD_drop {d : D} {v : Value} : rdD w γ d v → rdD w (γ.drop dst) d v := rdD_mono (γ := γ) (w := w) (w' := w) (γ' := γ.drop dst) ⟨fun _ _ _ h1 h2 => ⟨h2, h1⟩⟩ (fun _ _ h => h) d v
theorem rdL_drop {d : List D} {v : List Value} : rdL w γ d v → rdL w (γ.drop dst) d v := rdL_mono (γ := γ) (w := w) (w' := w) (γ' := γ.drop dst) ⟨fun _ _ _ h1 h2 => ⟨h2, h1⟩⟩ (fun _ _ h => h) d v
theorem tkR_drop {r : R} {v : Value} (hC : dst ∉ C) (h : tkR γ dead C r v) : tkR (γ.drop dst) dead (dst :: C) r v :=
  tkR_mono (fun _ ht => List.mem_cons_of_mem _ ht) (fun _ x => x) (fun k hk _ => .inr (by
    have : k ≠ .s dst := fun e => hC (hk dst e)
    simp [Gh.drop, this])) r v h

/-- nothing is made: the value lies there -/
theorem Quiet.here {o : Oper} {r : R} {v : Value} (hf : ∀ b, w.heap.size ≤ b → γ.rd b = none) (hrun : (execOp a.eval o).run P w = .ok (.value v) w) (hr : rdR w γ r v)
    (ht : tkR (γ.drop (dstOf o)) dead (dstOf o :: C) r v) : Quiet P o a γ dead C w r :=
  .mk hrun (Grow.self hf) (rdR_drop hr) ht

theorem evalO_sound {lk : Nat → Option R} {ty : Nat} {x : Operand} {r : R} (hl : LkOK lk γ dead C a w) (h : evalO E ty lk x = some r) :
    rdR w γ r (a.eval x) ∧ tkR γ dead C r (a.eval x) := by
  cases x with
  | tmp t => exact hl t r h
  | func f =>
    simp only [evalO, Option.some.injEq] at h
    subst h
    exact ⟨by simp only [Act.eval, rdR, rdD]; exact ⟨#[], rfl, by simp [rdL]⟩, by simp [tkR, tkD]⟩
  | global g => simp [evalO] at h
  | const v =>
    simp only [evalO] at h
    unfold constR at h
    split at h
    · cases h; exact ⟨by simp [Act.eval, rdR, rdD, rdT], by simp [tkR, tkD]⟩
    · cases h; exact ⟨by simp [Act.eval, rdR, rdD, rdT], by simp [tkR, tkD]⟩
    · cases h; exact ⟨by simp [Act.eval, rdR, rdD], by simp [tkR, tkD]⟩
    · cases h; exact ⟨by simp [Act.eval, rdR, rdD], by simp [tkR, tkD]⟩
    · split at h
      · cases h
        refine ⟨?_, by simp [tkR, tkD]⟩
        simp only [Act.eval, rdR, rdD, rdT]
        exact ⟨none, 0, rfl, Nat.le_refl _, fun i hi => absurd hi (by simp)⟩
      · cases h
    · cases h

theorem evalO_one {lk : Nat → Option R} {ty : Nat} {x : Operand} {d : D} (hl : LkOK lk γ dead C a w) (h : evalO E ty lk x = some (.one d)) : rdD w γ d (a.eval x) := by
  have := (evalO_sound hl h).1
  simpa only [rdR] using this
theorem evalO_int {lk : Nat → Option R} {ty : Nat} {x : Operand} {k : IntKind} {i : Int} (hl : LkOK lk γ dead C a w) (h : evalO E ty lk x = some (.one (.g (.int k) i))) : a.eval x = .int k i := by
  have := evalO_one hl h
  simpa only [rdD, rdT] using this
theorem evalO_bool {lk : Nat → Option R} {ty : Nat} {x : Operand} {b : Bool} (hl : LkOK lk γ dead C a w) (h : evalO E ty lk x = some (.one (.g .bool b))) : a.eval x = .bool b := by
  have := evalO_one hl h
  simpa only [rdD, rdT] using this

/-! ### Values alone -/
theorem q_move {o : Oper} {x : Operand} {lk : Nat → Option R} {ty : Nat} {r : R} (hop : o.op = .move x ∨ o.op = .assign x) (hf : ∀ b, w.heap.size ≤ b → γ.rd b = none) (hl : LkOK lk γ dead C a w) (hC : dstOf o ∉ C)
    (h : evalO E ty lk x = some r) : Quiet P o a γ dead C w r := by
  obtain ⟨h1, h2⟩ := evalO_sound hl h
  refine .here hf ?_ h1 (tkR_drop hC h2)
  rcases hop with e | e <;> simp [execOp, e]

theorem q_pick {o : Oper} {c x y : Operand} {b : Bool} {lk : Nat → Option R} {ty ty' : Nat} {r : R} (hop : o.op = .pick c x y) (hf : ∀ b, w.heap.size ≤ b → γ.rd b = none) (hl : LkOK lk γ dead C a w) (hC : dstOf o ∉ C)
    (hc : evalO E ty' lk c = some (.one (.g .bool b))) (h : evalO E ty lk (if b then x else y) = some r) : Quiet P o a γ dead C w r := by
  obtain ⟨h1, h2⟩ := evalO_sound hl h
  refine .here hf ?_ h1 (tkR_drop hC h2)
  have hb := evalO_bool hl hc
  cases b <;> simp [execOp, hop, hb, asBool]

theorem q_plain {o : Oper} {d : D} {v : Value} (hf : ∀ b, w.heap.size ≤ b → γ.rd b = none) (hrun : (execOp a.eval o).run P w = .ok (.value v) w) (hd : rdD w γ d v) (hn : d.strip = d) : Quiet P o a γ dead C w (.one d) := by
  refine .here hf hrun (by simpa only [rdR] using hd) ?_
  cases d <;> simp only [tkR, tkD]
  case ow e xs k => simp [D.strip] at hn

/-- a number or a bool as the machine has it -/
def D.val : D → Value
  | .g (.int k) x => .int k x
  | .g .bool b => .bool b
  | _ => Go.undef
theorem run_int {o : Oper} {op : BinOp} {xt yt : Nat} {x y : Operand} {k : IntKind} {i j : Int} {d : D} (hop : o.op = .binOp op xt x y yt) (hx : a.eval x = .int k i) (hy : a.eval y = .int k j)
    (hd : binI op k i j = some d) : (execOp a.eval o).run P w = .ok (.value d.val) w ∧ rdD w γ d d.val ∧ d.strip = d := by
  unfold binI at hd
  cases op <;> simp only [reduceCtorEq, Option.some.injEq] at hd <;> subst hd <;>
    refine ⟨?_, ?_, rfl⟩
  all_goals first
    | (simp [execOp, hop, hx, hy, eqGuard_at_int, binOp, Op.intArith, Op.intBits, Op.intCmp, D.val]; done)
    | (simp only [rdD, rdT, D.val])

theorem q_int {o : Oper} {op : BinOp} {xt yt : Nat} {x y : Operand} {k : IntKind} {i j : Int} {d : D} (hop : o.op = .binOp op xt x y yt) (hf : ∀ b, w.heap.size ≤ b → γ.rd b = none) (hx : a.eval x = .int k i) (hy : a.eval y = .int k j)
    (hd : binI op k i j = some d) : Quiet P o a γ dead C w (.one d) := by
  obtain ⟨h1, h2, h3⟩ := run_int (P := P) (γ := γ) (w := w) hop hx hy hd
  exact q_plain hf h1 h2 h3

theorem q_quo {o : Oper} {xt yt : Nat} {x y : Operand} {k : IntKind} {i j : Int} (hop : o.op = .binOp .quo xt x y yt) (hf : ∀ b, w.heap.size ≤ b → γ.rd b = none) (hx : a.eval x = .int k i) (hy : a.eval y = .int k j)
    (hj : (j == 0) = false) : Quiet P o a γ dead C w (.one (.g (.int k) (k.wrap (i.tdiv j)))) := by
  have hj' : ¬ j = 0 := by simpa using hj
  exact q_plain (v := .int k (k.wrap (i.tdiv j))) hf (by simp [execOp, hop, hx, hy, eqGuard_at_int, binOp, Op.intDiv, hj']) (by simp [rdD, rdT]) rfl
theorem q_rem {o : Oper} {xt yt : Nat} {x y : Operand} {k : IntKind} {i j : Int} (hop : o.op = .binOp .rem xt x y yt) (hf : ∀ b, w.heap.size ≤ b → γ.rd b = none) (hx : a.eval x = .int k i) (hy : a.eval y = .int k j)
    (hj : (j == 0) = false) : Quiet P o a γ dead C w (.one (.g (.int k) (i.tmod j))) := by
  have hj' : ¬ j = 0 := by simpa using hj
  exact q_plain (v := .int k (i.tmod j)) hf (by simp [execOp, hop, hx, hy, eqGuard_at_int, binOp, Op.intDiv, hj']) (by simp [rdD, rdT]) rfl
theorem q_shl {o : Oper} {xt yt : Nat} {x y : Operand} {k k' : IntKind} {i j : Int} (hop : o.op = .binOp .shl xt x y yt) (hf : ∀ b, w.heap.size ≤ b → γ.rd b = none) (hx : a.eval x = .int k i) (hy : a.eval y = .int k' j)
    (hj : 0 ≤ j) : Quiet P o a γ dead C w (.one (.g (.int k) (k.wrap (i * 2 ^ min j.toNat k.bits)))) := by
  have hj' : ¬ j < 0 := by omega
  exact q_plain (v := .int k (k.wrap (i * 2 ^ min j.toNat k.bits))) hf (by simp [execOp, hop, hx, hy, eqGuard_at_int, binOp, Op.shift, hj']) (by simp [rdD, rdT]) rfl
theorem q_shr {o : Oper} {xt yt : Nat} {x y : Operand} {k k' : IntKind} {i j : Int} (hop : o.op = .binOp .shr xt x y yt) (hf : ∀ b, w.heap.size ≤ b → γ.rd b = none) (hx : a.eval x = .int k i) (hy : a.eval y = .int k' j)
    (hj : 0 ≤ j) : Quiet P o a γ dead C w (.one (.g (.int k) (i.fdiv (2 ^ min j.toNat k.bits)))) := by
  have hj' : ¬ j < 0 := by omega
  exact q_plain (v := .int k (i.fdiv (2 ^ min j.toNat k.bits))) hf (by simp [execOp, hop, hx, hy, eqGuard_at_int, binOp, Op.shift, hj']) (by simp [rdD, rdT]) rfl
theorem q_beq {o : Oper} {xt yt : Nat} {x y : Operand} {i j : Bool} (ht : P.underlying xt = some .bool) (hop : o.op = .binOp .eql xt x y yt) (hf : ∀ b, w.heap.size ≤ b → γ.rd b = none) (hx : a.eval x = .bool i) (hy : a.eval y = .bool j) :
    Quiet P o a γ dead C w (.one (.g .bool (i == j))) :=
  q_plain (v := .bool (i == j)) hf (by simp [execOp, hop, hx, hy, eqGuard_at_bool, run_eql_bool (h := ht)]) (by simp [rdD, rdT]) rfl
theorem q_bne {o : Oper} {xt yt : Nat} {x y : Operand} {i j : Bool} (ht : P.underlying xt = some .bool) (hop : o.op = .binOp .neq xt x y yt) (hf : ∀ b, w.heap.size ≤ b → γ.rd b = none) (hx : a.eval x = .bool i) (hy : a.eval y = .bool j) :
    Quiet P o a γ dead C w (.one (.g .bool (!(i == j)))) :=
  q_plain (v := .bool (!(i == j))) hf (by simp [execOp, hop, hx, hy, eqGuard_at_bool, run_neq_bool (h := ht)]) (by simp [rdD, rdT]) rfl
theorem q_aggeq {o : Oper} {xt yt : Nat} {x y : Operand} {xs ys : Array Value} {c : Bool} (hop : o.op = .binOp .eql xt x y yt) (hf : ∀ b, w.heap.size ≤ b → γ.rd b = none) (hx : a.eval x = .agg xs) (hy : a.eval y = .agg ys)
    (hg : ∀ op, (eqGuard op xt x y (.agg xs) (.agg ys)).run P w = .ok () w) (he : (Op.equal xt (.agg xs) (.agg ys)).run P w = .ok c w) :
    Quiet P o a γ dead C w (.one (.g .bool c)) :=
  q_plain (v := .bool c) hf (by simp [execOp, hop, hx, hy, hg, binOp, he]) (by simp [rdD, rdT]) rfl
theorem q_aggne {o : Oper} {xt yt : Nat} {x y : Operand} {xs ys : Array Value} {c : Bool} (hop : o.op = .binOp .neq xt x y yt) (hf : ∀ b, w.heap.size ≤ b → γ.rd b = none) (hx : a.eval x = .agg xs) (hy : a.eval y = .agg ys)
    (hg : ∀ op, (eqGuard op xt x y (.agg xs) (.agg ys)).run P w = .ok () w) (he : (Op.equal xt (.agg xs) (.agg ys)).run P w = .ok c w) :
    Quiet P o a γ dead C w (.one (.g .bool (!c))) :=
  q_plain (v := .bool (!c)) hf (by simp [execOp, hop, hx, hy, hg, binOp, he]) (by simp [rdD, rdT]) rfl
theorem q_not {o : Oper} {xt : Nat} {x : Operand} {i : Bool} (hop : o.op = .unOp .not xt x) (hf : ∀ b, w.heap.size ≤ b → γ.rd b = none) (hx : a.eval x = .bool i) :
    Quiet P o a γ dead C w (.one (.g .bool (!i))) :=
  q_plain (v := .bool (!i)) hf (by simp [execOp, hop, hx, Op.unary]) (by simp [rdD, rdT]) rfl
theorem q_neg {o : Oper} {xt : Nat} {x : Operand} {k : IntKind} {i : Int} (hop : o.op = .unOp .neg xt x) (hf : ∀ b, w.heap.size ≤ b → γ.rd b = none) (hx : a.eval x = .int k i) :
    Quiet P o a γ dead C w (.one (.g (.int k) (k.wrap (0 - i)))) :=
  q_plain (v := .int k (k.wrap (0 - i))) hf (by simp [execOp, hop, hx, Op.unary, Op.intArith]) (by simp [rdD, rdT]) rfl
theorem q_convert {o : Oper} {s d : Nat} {x : Operand} {k kk : IntKind} {i : Int} {td : TypeDesc} (hs : P.underlying s = some td) (ht : P.underlying d = some (.int kk)) (hop : o.op = .convert s d x) (hf : ∀ b, w.heap.size ≤ b → γ.rd b = none) (hx : a.eval x = .int k i) :
    Quiet P o a γ dead C w (.one (.g (.int kk) (kk.wrap i))) :=
  q_plain (v := .int kk (kk.wrap i)) hf (by simp [execOp, hop, hx, Go.convert, run_underlying hs, run_underlying ht, Conv.intToInt]) (by simp [rdD, rdT]) rfl
theorem q_nilCheck {o : Oper} {x : Operand} {d : D} (hop : o.op = .nilCheck x) (hf : ∀ b, w.heap.size ≤ b → γ.rd b = none) (hn : d.strip = d) {p : Addr} (hx : a.eval x = .pointer (some p)) (hd : rdD w γ d (.pointer (some p))) :
    Quiet P o a γ dead C w (.one d) :=
  q_plain (v := .pointer (some p)) hf (by simp [execOp, hop, hx]) hd hn
theorem rdRs_get : ∀ {rs : List R} {vs : List Value} {i : Nat} {r : R}, rdRs w γ rs vs → rs[i]? = some r → ∃ v, vs[i]? = some v ∧ rdR w γ r v
  | r :: rs, v :: vs, 0, q, h, hi => by
    simp only [rdRs] at h
    simp at hi
    exact ⟨v, by simp, hi ▸ h.1⟩
  | r :: rs, v :: vs, i + 1, q, h, hi => by
    simp only [rdRs] at h
    simpa using rdRs_get h.2 (by simpa using hi)
  | [], _, _, _, _, hi => by simp at hi
  | _ :: _, [], _, _, h, _ => by simp only [rdRs] at h
theorem tkRs_get : ∀ {rs : List R} {vs : List Value} {i : Nat} {r : R} {v : Value}, tkRs γ dead C rs vs → rs[i]? = some r → vs[i]? = some v → tkR γ dead C r v
  | r :: rs, v :: vs, 0, q, u, h, hi, hv => by
    simp only [tkRs] at h
    simp at hi hv
    exact hi ▸ hv ▸ h.1
  | r :: rs, v :: vs, i + 1, q, u, h, hi, hv => by
    simp only [tkRs] at h
    exact tkRs_get h.2 (by simpa using hi) (by simpa using hv)
  | [], _, _, _, _, _, hi, _ => by simp at hi
  | _ :: _, [], _, _, _, _, _, hv => by simp at hv
theorem q_extract {o : Oper} {x : Operand} {i : Nat} {rs : List R} {r : R} {lk : Nat → Option R} {ty : Nat} (hop : o.op = .extract x i) (hf : ∀ b, w.heap.size ≤ b → γ.rd b = none) (hl : LkOK lk γ dead C a w) (hC : dstOf o ∉ C)
    (h : evalO E ty lk x = some (.tup rs)) (hi : rs[i]? = some r) : Quiet P o a γ dead C w r := by
  obtain ⟨h1, h2⟩ := evalO_sound hl h
  simp only [rdR] at h1
  obtain ⟨vs, hv, hrs⟩ := h1
  obtain ⟨v, hvi, hr⟩ := rdRs_get hrs hi
  rw [hv] at h2
  simp only [tkR] at h2
  refine .here hf (v := v) ?_ hr (tkR_drop hC (tkRs_get h2 hi hvi))
  have : vs[i]? = some v := by simpa using hvi
  simp [execOp, hop, hv, Instr.extract, this]
theorem mapO_some {α β : Type} {f : α → Option β} : ∀ {l : List α} {m : List β}, mapO f l = some m → l.length = m.length ∧ ∀ (i : Nat) x, l[i]? = some x → ∃ y, m[i]? = some y ∧ f x = some y
  | [], m, h => by simp only [mapO, Option.some.injEq] at h; subst h; simp
  | x :: l, m, h => by
    simp only [mapO] at h
    split at h
    · rename_i y hy
      split at h
      · rename_i ys hys
        cases h
        obtain ⟨h1, h2⟩ := mapO_some hys
        refine ⟨by simp [h1], fun i z hz => ?_⟩
        cases i with
        | zero => simp at hz; subst hz; exact ⟨y, by simp, hy⟩
        | succ i => simpa using h2 i z (by simpa using hz)
      · cases h
    · cases h
theorem rdL_of_get : ∀ {ds : List D} {vs : List Value}, ds.length = vs.length → (∀ (i : Nat) d v, ds[i]? = some d → vs[i]? = some v → rdD w γ d v) → rdL w γ ds vs
  | [], [], _, _ => by simp [rdL]
  | d :: ds, v :: vs, hl, h => by
    simp only [rdL]
    exact ⟨h 0 d v (by simp) (by simp), rdL_of_get (by simpa using hl) fun i x y hx hy => h (i + 1) x y (by simpa using hx) (by simpa using hy)⟩
  | [], _ :: _, hl, _ => by simp at hl
  | _ :: _, [], hl, _ => by simp at hl
theorem rdL_get : ∀ {ds : List D} {vs : List Value} {i : Nat} {d : D}, rdL w γ ds vs → ds[i]? = some d → ∃ v, vs[i]? = some v ∧ rdD w γ d v
  | d :: ds, v :: vs, 0, q, h, hi => by
    simp only [rdL] at h
    simp at hi
    exact ⟨v, by simp, hi ▸ h.1⟩
  | d :: ds, v :: vs, i + 1, q, h, hi => by
    simp only [rdL] at h
    simpa using rdL_get h.2 (by simpa using hi)
  | [], _, _, _, _, hi => by simp at hi
  | _ :: _, [], _, _, h, _ => by simp only [rdL] at h
theorem q_makeFunc {o : Oper} {g : Nat} {first caps : Array Operand} {ds : List D} {lk : Nat → Option R} {ty : Nat} (hop : o.op = .makeFunc (.func g) first caps) (h0 : first.toList = []) (hf : ∀ b, w.heap.size ≤ b → γ.rd b = none) (hl : LkOK lk γ dead C a w)
    (h : mapO (fun p => match evalO E ty lk p with | some (.one d) => some d.strip | _ => none) caps.toList = some ds) : Quiet P o a γ dead C w (.one (.fn g ds)) := by
  have e0 : first = #[] := by simpa using h0
  refine q_plain (v := .func (.func g) #[] (caps.map a.eval)) hf (by simp [execOp, hop, Instr.makeFunc, e0]) ?_ rfl
  simp only [rdD]
  refine ⟨_, rfl, ?_⟩
  obtain ⟨hlen, hget⟩ := mapO_some h
  refine rdL_of_get (by simpa using hlen.symm) fun i d v hd hv => ?_
  have hx : ∃ x, caps.toList[i]? = some x ∧ a.eval x = v := by
    simp at hv
    obtain ⟨x, hx, rfl⟩ := hv
    exact ⟨x, by simpa using hx, rfl⟩
  obtain ⟨x, hx, rfl⟩ := hx
  obtain ⟨y, hy, he⟩ := hget i x hx
  rw [hy] at hd
  cases hd
  split at he
  · rename_i d' hev
    cases he
    exact rdD_strip.2 (evalO_one hl hev)
  · cases he

/-! ### len, min, max -/
theorem asSl_sound {d : D} {e : Ts} {xs : List e.den} {v : Value} (h : asSl d = some ⟨e, xs⟩) (hd : rdD w γ d v) : rdT w γ (.sl e) xs v := by
  cases d <;> simp only [asSl, reduceCtorEq] at h
  case g t x =>
    cases t <;> simp only [reduceCtorEq] at h
    case sl e' => cases h; simpa only [rdD] using hd
  case ow e' ys k => cases h; simpa only [rdD] using hd
theorem slOK_spec (hE : EnvOK E) {t : Nat} {e : Ts} (h : slOK E t e = true) : ∃ et i, E.P.underlying t = some (.slice et) ∧ E.P.info? et = some i ∧ i.size = e.size ∧ i.bytes ≤ 65536 ∧ ∃ z, i.zero = some z ∧ z.cells.size = e.size := by
  unfold slOK at h
  split at h
  · rename_i et size agg gl zero ht
    split at h
    · rename_i te hte
      have h0 := (hE.ti _ _ ht).desc
      simp only at h0
      obtain ⟨h1, h2⟩ := h0
      have hsz := nbeq.1 h
      obtain ⟨i, e1, e2, e3, z, e4, e5, _⟩ := (hE.ti _ _ hte).info (h2 te hte)
      exact ⟨et, i, h1, e1, e2.trans hsz, e3, z, e4, e5.trans hsz⟩
    · cases h
  · cases h
end
end Go.V
