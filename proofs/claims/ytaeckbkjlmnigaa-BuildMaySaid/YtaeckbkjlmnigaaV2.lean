/- V2: Ops, Ops2, Ops3, Ops4, one behind the other. -/
import Derived.Test.YtaeckbkjlmnigaaV1
import Derived.WalkKit
import Derived.WalkLawsBesides
namespace Go.V
open Go.RowKit
def isAggD : TD → Bool
  | .array _ _ => true
  | .struct _ => true
  | _ => false
structure TiOK (E : Env) (t : Nat) (ti : TI) : Prop where
  agg : ti.agg = isAggD ti.d
  info : (∀ ts, ti.d ≠ .tup ts) → ∃ i, E.P.info? t = some i ∧ i.size = ti.size ∧ i.bytes ≤ 65536 ∧ ∃ z, i.zero = some z ∧ z.cells.size = ti.size ∧ (∀ w γ, rdL w γ ti.zero z.cells.toList) ∧ ti.zero.map D.strip = ti.zero ∧ ∀ f d, (∀ w γ, rdL w γ (zeroOf E f d ti) z.cells.toList) ∧ (zeroOf E f d ti).map D.strip = zeroOf E f d ti
  desc : match ti.d with
    | .int k => E.P.underlying t = some (.int k)
    | .bool => E.P.underlying t = some .bool
    | .slice e => E.P.underlying t = some (.slice e) ∧ ∀ te, E.ti e = some te → ∀ ts, te.d ≠ .tup ts
    | .array n e => E.P.underlying t = some (.array n e) ∧ ∀ te, E.ti e = some te → ∀ ts, te.d ≠ .tup ts
    | .struct fs => ∃ fields, E.P.underlying t = some (.struct fields) ∧ fs.length = fields.size ∧ ∀ (i off ft : Nat), fs[i]? = some (off, ft) → ∃ f, fields[i]? = some f ∧ f.offset = off ∧ f.type = ft ∧ (∀ te, E.ti ft = some te → ∀ ts, te.d ≠ .tup ts) ∧ ∃ i, E.P.info? ft = some i ∧ i.size ≠ 0
    | .ptr e => E.P.underlying t = some (.pointer e)
    | .func => ∃ a b c, E.P.underlying t = some (.func a b c)
    | .tup _ => True
  nt : ∀ ts, ti.d = .tup ts → ti.gl = none
structure EnvOK (E : Env) : Prop where
  cnts : ∀ g, mem g E.cnts = true → (∃ fn, E.P.funcs[g]? = some fn ∧ fn.body.isSome = true) ∧ ∀ (w : World) (b : Nat) (cs : List Int) (x : Int), SemAt w b cs → Calls E.P g #[.pointer (some ⟨b, 0, none⟩), .int .i64 x] w fun e w' => e = .returned (.int .i64 (countV cs x)) ∧ w' = w
  ti : ∀ t ti, E.ti t = some ti → TiOK E t ti
  mixed : E.P.follows .mixedOrders = true
  fns : ∀ (f : Nat) (fn : Func), E.P.funcs[f]? = some fn → fn.body.isSome = true → (fn.name == "runtime.NumGoroutine") = false
  eqs : ∀ t, mem t E.eqs = true → ∀ (ti : TI) (ts : Ts), E.ti t = some ti → ti.gl = some ts → ∀ (w : World) (γ : Gh) (a b : List D) (u v : ts.den) (c : Bool) (x y : Array Value) (p q : Operand), unleaves ts a = some u → unleaves ts b = some v → eqD a b = some c → rdL w γ a x.toList → rdL w γ b y.toList →
    (∀ op, (eqGuard op t p q (.agg x) (.agg y)).run E.P w = .ok () w) ∧ (Op.equal t (.agg x) (.agg y)).run E.P w = .ok c w
section
variable {E : Env} {P : Program} {γ : Gh} {dead : List Tok} {C : List Nat} {a : Act} {w : World} {dst : Nat}
def LkOK (lk : Nat → Option R) (γ : Gh) (dead : List Tok) (C : List Nat) (a : Act) (w : World) : Prop :=
  ∀ s r, lk s = some r → rdR w γ r (a.tmps.getD s Go.undef) ∧ tkR γ dead C r (a.tmps.getD s Go.undef)
def Quiet (P : Program) (o : Oper) (a : Act) (γ : Gh) (dead : List Tok) (C : List Nat) (w : World) (r : R) : Prop :=
  ∀ (next : Act → World → Prop) (Q : Exit → Act → World → Prop),
    (∀ v γ' w', Grow γ w γ' w' (dstOf o) → rdR w' γ' r v → tkR γ' dead (dstOf o :: C) r v → next (a.put o.dst v) w') → o.wp P a w next Q
theorem Quiet.mk {o : Oper} {r : R} {v : Value} {γ' : Gh} {w' : World} (hrun : (execOp a.eval o).run P w = .ok (.value v) w') (hg : Grow γ w γ' w' (dstOf o)) (hr : rdR w' γ' r v) (ht : tkR γ' dead (dstOf o :: C) r v) :
    Quiet P o a γ dead C w r := by
  intro next Q h
  unfold Oper.wp
  rw [hrun]
  exact h v γ' w' hg hr ht
def Gh.drop (γ : Gh) (dst : Nat) : Gh := { γ with ow := fun k => if k = .s dst then none else γ.ow k }
theorem Grow.self (hf : ∀ b, w.heap.size ≤ b → γ.rd b = none) : Grow γ w (γ.drop dst) w dst where
  below := Below.refl _ _
  bx := rfl
  nb := rfl
  base := rfl
  rd := fun _ _ => rfl
  fresh := hf
  ow := fun k hk => by simp [Gh.drop, hk]
  new := fun h hh => by simp [Gh.drop] at hh
theorem rdR_drop {r : R} {v : Value} : rdR w γ r v → rdR w (γ.drop dst) r v := rdR_mono (γ := γ) (w := w) (w' := w) (γ' := γ.drop dst) ⟨fun _ _ _ h1 h2 => ⟨h2, h1⟩⟩ (fun _ _ h => h) r v
theorem rdD_drop {d : D} {v : Value} : rdD w γ d v → rdD w (γ.drop dst) d v := rdD_mono (γ := γ) (w := w) (w' := w) (γ' := γ.drop dst) ⟨fun _ _ _ h1 h2 => ⟨h2, h1⟩⟩ (fun _ _ h => h) d v
theorem rdL_drop {d : List D} {v : List Value} : rdL w γ d v → rdL w (γ.drop dst) d v := rdL_mono (γ := γ) (w := w) (w' := w) (γ' := γ.drop dst) ⟨fun _ _ _ h1 h2 => ⟨h2, h1⟩⟩ (fun _ _ h => h) d v
theorem tkR_drop {r : R} {v : Value} (hC : dst ∉ C) (h : tkR γ dead C r v) : tkR (γ.drop dst) dead (dst :: C) r v :=
  tkR_mono (fun _ ht => List.mem_cons_of_mem _ ht) (fun _ x => x) (fun k hk _ => .inr (by
    have : k ≠ .s dst := fun e => hC (hk dst e)
    simp [Gh.drop, this])) r v h
theorem Quiet.here {o : Oper} {r : R} {v : Value} (hf : ∀ b, w.heap.size ≤ b → γ.rd b = none) (hrun : (execOp a.eval o).run P w = .ok (.value v) w) (hr : rdR w γ r v)
    (ht : tkR (γ.drop (dstOf o)) dead (dstOf o :: C) r v) : Quiet P o a γ dead C w r :=
  .mk hrun (Grow.self hf) (rdR_drop hr) ht
theorem evalO_sound {lk : Nat → Option R} {ty : Nat} {x : Operand} {r : R} (hl : LkOK lk γ dead C a w) (h : evalO E ty lk x = some r) :
    rdR w γ r (a.eval x) ∧ tkR γ dead C r (a.eval x) := by
  cases x with
  | tmp t => exact hl t r h
  | func f =>
    simp only [evalO, Option.some.injEq] at h
    subst h
    exact ⟨by simp only [Act.eval, rdR, rdD]; exact ⟨#[], rfl, by simp [rdL]⟩, by simp [tkR, tkD]⟩
  | global g => simp [evalO] at h
  | const v =>
    simp only [evalO] at h
    unfold constR at h
    split at h
    · cases h; exact ⟨by simp [Act.eval, rdR, rdD, rdT], by simp [tkR, tkD]⟩
    · cases h; exact ⟨by simp [Act.eval, rdR, rdD, rdT], by simp [tkR, tkD]⟩
    · cases h; exact ⟨by simp [Act.eval, rdR, rdD], by simp [tkR, tkD]⟩
    · cases h; exact ⟨by simp [Act.eval, rdR, rdD], by simp [tkR, tkD]⟩
    · split at h
      · cases h
        refine ⟨?_, by simp [tkR, tkD]⟩
        simp only [Act.eval, rdR, rdD, rdT]
        exact ⟨none, 0, rfl, Nat.le_refl _, fun i hi => absurd hi (by simp)⟩
      · cases h
    · cases h
theorem evalO_one {lk : Nat → Option R} {ty : Nat} {x : Operand} {d : D} (hl : LkOK lk γ dead C a w) (h : evalO E ty lk x = some (.one d)) : rdD w γ d (a.eval x) := by
  have := (evalO_sound hl h).1
  simpa only [rdR] using this
theorem evalO_int {lk : Nat → Option R} {ty : Nat} {x : Operand} {k : IntKind} {i : Int} (hl : LkOK lk γ dead C a w) (h : evalO E ty lk x = some (.one (.g (.int k) i))) : a.eval x = .int k i := by
  have := evalO_one hl h
  simpa only [rdD, rdT] using this
theorem evalO_bool {lk : Nat → Option R} {ty : Nat} {x : Operand} {b : Bool} (hl : LkOK lk γ dead C a w) (h : evalO E ty lk x = some (.one (.g .bool b))) : a.eval x = .bool b := by
  have := evalO_one hl h
  simpa only [rdD, rdT] using this
theorem q_move {o : Oper} {x : Operand} {lk : Nat → Option R} {ty : Nat} {r : R} (hop : o.op = .move x ∨ o.op = .assign x) (hf : ∀ b, w.heap.size ≤ b → γ.rd b = none) (hl : LkOK lk γ dead C a w) (hC : dstOf o ∉ C)
    (h : evalO E ty lk x = some r) : Quiet P o a γ dead C w r := by
  obtain ⟨h1, h2⟩ := evalO_sound hl h
  refine .here hf ?_ h1 (tkR_drop hC h2)
  rcases hop with e | e <;> simp [execOp, e]
theorem q_pick {o : Oper} {c x y : Operand} {b : Bool} {lk : Nat → Option R} {ty ty' : Nat} {r : R} (hop : o.op = .pick c x y) (hf : ∀ b, w.heap.size ≤ b → γ.rd b = none) (hl : LkOK lk γ dead C a w) (hC : dstOf o ∉ C)
    (hc : evalO E ty' lk c = some (.one (.g .bool b))) (h : evalO E ty lk (if b then x else y) = some r) : Quiet P o a γ dead C w r := by
  obtain ⟨h1, h2⟩ := evalO_sound hl h
  refine .here hf ?_ h1 (tkR_drop hC h2)
  have hb := evalO_bool hl hc
  cases b <;> simp [execOp, hop, hb, asBool]
theorem q_plain {o : Oper} {d : D} {v : Value} (hf : ∀ b, w.heap.size ≤ b → γ.rd b = none) (hrun : (execOp a.eval o).run P w = .ok (.value v) w) (hd : rdD w γ d v) (hn : d.strip = d) : Quiet P o a γ dead C w (.one d) := by
  refine .here hf hrun (by simpa only [rdR] using hd) ?_
  cases d <;> simp only [tkR, tkD]
  case ow e xs k => simp [D.strip] at hn
def D.val : D → Value
  | .g (.int k) x => .int k x
  | .g .bool b => .bool b
  | _ => Go.undef
theorem run_int {o : Oper} {op : BinOp} {xt yt : Nat} {x y : Operand} {k : IntKind} {i j : Int} {d : D} (hop : o.op = .binOp op xt x y yt) (hx : a.eval x = .int k i) (hy : a.eval y = .int k j)
    (hd : binI op k i j = some d) : (execOp a.eval o).run P w = .ok (.value d.val) w ∧ rdD w γ d d.val ∧ d.strip = d := by
  unfold binI at hd
  cases op <;> simp only [reduceCtorEq, Option.some.injEq] at hd <;> subst hd <;>
    refine ⟨?_, ?_, rfl⟩
  all_goals first
    | (simp [execOp, hop, hx, hy, eqGuard_at_int, binOp, Op.intArith, Op.intBits, Op.intCmp, D.val]; done)
    | (simp only [rdD, rdT, D.val])
theorem q_int {o : Oper} {op : BinOp} {xt yt : Nat} {x y : Operand} {k : IntKind} {i j : Int} {d : D} (hop : o.op = .binOp op xt x y yt) (hf : ∀ b, w.heap.size ≤ b → γ.rd b = none) (hx : a.eval x = .int k i) (hy : a.eval y = .int k j)
    (hd : binI op k i j = some d) : Quiet P o a γ dead C w (.one d) := by
  obtain ⟨h1, h2, h3⟩ := run_int (P := P) (γ := γ) (w := w) hop hx hy hd
  exact q_plain hf h1 h2 h3
theorem q_quo {o : Oper} {xt yt : Nat} {x y : Operand} {k : IntKind} {i j : Int} (hop : o.op = .binOp .quo xt x y yt) (hf : ∀ b, w.heap.size ≤ b → γ.rd b = none) (hx : a.eval x = .int k i) (hy : a.eval y = .int k j)
    (hj : (j == 0) = false) : Quiet P o a γ dead C w (.one (.g (.int k) (k.wrap (i.tdiv j)))) := by
  have hj' : ¬ j = 0 := by simpa using hj
  exact q_plain (v := .int k (k.wrap (i.tdiv j))) hf (by simp [execOp, hop, hx, hy, eqGuard_at_int, binOp, Op.intDiv, hj']) (by simp [rdD, rdT]) rfl
theorem q_rem {o : Oper} {xt yt : Nat} {x y : Operand} {k : IntKind} {i j : Int} (hop : o.op = .binOp .rem xt x y yt) (hf : ∀ b, w.heap.size ≤ b → γ.rd b = none) (hx : a.eval x = .int k i) (hy : a.eval y = .int k j)
    (hj : (j == 0) = false) : Quiet P o a γ dead C w (.one (.g (.int k) (i.tmod j))) := by
  have hj' : ¬ j = 0 := by simpa using hj
  exact q_plain (v := .int k (i.tmod j)) hf (by simp [execOp, hop, hx, hy, eqGuard_at_int, binOp, Op.intDiv, hj']) (by simp [rdD, rdT]) rfl
theorem q_shl {o : Oper} {xt yt : Nat} {x y : Operand} {k k' : IntKind} {i j : Int} (hop : o.op = .binOp .shl xt x y yt) (hf : ∀ b, w.heap.size ≤ b → γ.rd b = none) (hx : a.eval x = .int k i) (hy : a.eval y = .int k' j)
    (hj : 0 ≤ j) : Quiet P o a γ dead C w (.one (.g (.int k) (k.wrap (i * 2 ^ min j.toNat k.bits)))) := by
  have hj' : ¬ j < 0 := by omega
  exact q_plain (v := .int k (k.wrap (i * 2 ^ min j.toNat k.bits))) hf (by simp [execOp, hop, hx, hy, eqGuard_at_int, binOp, Op.shift, hj']) (by simp [rdD, rdT]) rfl
theorem q_shr {o : Oper} {xt yt : Nat} {x y : Operand} {k k' : IntKind} {i j : Int} (hop : o.op = .binOp .shr xt x y yt) (hf : ∀ b, w.heap.size ≤ b → γ.rd b = none) (hx : a.eval x = .int k i) (hy : a.eval y = .int k' j)
    (hj : 0 ≤ j) : Quiet P o a γ dead C w (.one (.g (.int k) (i.fdiv (2 ^ min j.toNat k.bits)))) := by
  have hj' : ¬ j < 0 := by omega
  exact q_plain (v := .int k (i.fdiv (2 ^ min j.toNat k.bits))) hf (by simp [execOp, hop, hx, hy, eqGuard_at_int, binOp, Op.shift, hj']) (by simp [rdD, rdT]) rfl
theorem q_beq {o : Oper} {xt yt : Nat} {x y : Operand} {i j : Bool} (ht : P.underlying xt = some .bool) (hop : o.op = .binOp .eql xt x y yt) (hf : ∀ b, w.heap.size ≤ b → γ.rd b = none) (hx : a.eval x = .bool i) (hy : a.eval y = .bool j) :
    Quiet P o a γ dead C w (.one (.g .bool (i == j))) :=
  q_plain (v := .bool (i == j)) hf (by simp [execOp, hop, hx, hy, eqGuard_at_bool, run_eql_bool (h := ht)]) (by simp [rdD, rdT]) rfl
theorem q_bne {o : Oper} {xt yt : Nat} {x y : Operand} {i j : Bool} (ht : P.underlying xt = some .bool) (hop : o.op = .binOp .neq xt x y yt) (hf : ∀ b, w.heap.size ≤ b → γ.rd b = none) (hx : a.eval x = .bool i) (hy : a.eval y = .bool j) :
    Quiet P o a γ dead C w (.one (.g .bool (!(i == j)))) :=
  q_plain (v := .bool (!(i == j))) hf (by simp [execOp, hop, hx, hy, eqGuard_at_bool, run_neq_bool (h := ht)]) (by simp [rdD, rdT]) rfl
theorem q_aggeq {o : Oper} {xt yt : Nat} {x y : Operand} {xs ys : Array Value} {c : Bool} (hop : o.op = .binOp .eql xt x y yt) (hf : ∀ b, w.heap.size ≤ b → γ.rd b = none) (hx : a.eval x = .agg xs) (hy : a.eval y = .agg ys)
    (hg : ∀ op, (eqGuard op xt x y (.agg xs) (.agg ys)).run P w = .ok () w) (he : (Op.equal xt (.agg xs) (.agg ys)).run P w = .ok c w) :
    Quiet P o a γ dead C w (.one (.g .bool c)) :=
  q_plain (v := .bool c) hf (by simp [execOp, hop, hx, hy, hg, binOp, he]) (by simp [rdD, rdT]) rfl
theorem q_aggne {o : Oper} {xt yt : Nat} {x y : Operand} {xs ys : Array Value} {c : Bool} (hop : o.op = .binOp .neq xt x y yt) (hf : ∀ b, w.heap.size ≤ b → γ.rd b = none) (hx : a.eval x = .agg xs) (hy : a.eval y = .agg ys)
    (hg : ∀ op, (eqGuard op xt x y (.agg xs) (.agg ys)).run P w = .ok () w) (he : (Op.equal xt (.agg xs) (.agg ys)).run P w = .ok c w) :
    Quiet P o a γ dead C w (.one (.g .bool (!c))) :=
  q_plain (v := .bool (!c)) hf (by simp [execOp, hop, hx, hy, hg, binOp, he]) (by simp [rdD, rdT]) rfl
theorem q_not {o : Oper} {xt : Nat} {x : Operand} {i : Bool} (hop : o.op = .unOp .not xt x) (hf : ∀ b, w.heap.size ≤ b → γ.rd b = none) (hx : a.eval x = .bool i) :
    Quiet P o a γ dead C w (.one (.g .bool (!i))) :=
  q_plain (v := .bool (!i)) hf (by simp [execOp, hop, hx, Op.unary]) (by simp [rdD, rdT]) rfl
theorem q_neg {o : Oper} {xt : Nat} {x : Operand} {k : IntKind} {i : Int} (hop : o.op = .unOp .neg xt x) (hf : ∀ b, w.heap.size ≤ b → γ.rd b = none) (hx : a.eval x = .int k i) :
    Quiet P o a γ dead C w (.one (.g (.int k) (k.wrap (0 - i)))) :=
  q_plain (v := .int k (k.wrap (0 - i))) hf (by simp [execOp, hop, hx, Op.unary, Op.intArith]) (by simp [rdD, rdT]) rfl
theorem q_convert {o : Oper} {s d : Nat} {x : Operand} {k kk : IntKind} {i : Int} {td : TypeDesc} (hs : P.underlying s = some td) (ht : P.underlying d = some (.int kk)) (hop : o.op = .convert s d x) (hf : ∀ b, w.heap.size ≤ b → γ.rd b = none) (hx : a.eval x = .int k i) :
    Quiet P o a γ dead C w (.one (.g (.int kk) (kk.wrap i))) :=
  q_plain (v := .int kk (kk.wrap i)) hf (by simp [execOp, hop, hx, Go.convert, run_underlying hs, run_underlying ht, Conv.intToInt]) (by simp [rdD, rdT]) rfl
theorem q_nilCheck {o : Oper} {x : Operand} {d : D} (hop : o.op = .nilCheck x) (hf : ∀ b, w.heap.size ≤ b → γ.rd b = none) (hn : d.strip = d) {p : Addr} (hx : a.eval x = .pointer (some p)) (hd : rdD w γ d (.pointer (some p))) :
    Quiet P o a γ dead C w (.one d) :=
  q_plain (v := .pointer (some p)) hf (by simp [execOp, hop, hx]) hd hn
theorem rdRs_get : ∀ {rs : List R} {vs : List Value} {i : Nat} {r : R}, rdRs w γ rs vs → rs[i]? = some r → ∃ v, vs[i]? = some v ∧ rdR w γ r v
  | r :: rs, v :: vs, 0, q, h, hi => by
    simp only [rdRs] at h
    simp at hi
    exact ⟨v, by simp, hi ▸ h.1⟩
  | r :: rs, v :: vs, i + 1, q, h, hi => by
    simp only [rdRs] at h
    simpa using rdRs_get h.2 (by simpa using hi)
  | [], _, _, _, _, hi => by simp at hi
  | _ :: _, [], _, _, h, _ => by simp only [rdRs] at h
theorem tkRs_get : ∀ {rs : List R} {vs : List Value} {i : Nat} {r : R} {v : Value}, tkRs γ dead C rs vs → rs[i]? = some r → vs[i]? = some v → tkR γ dead C r v
  | r :: rs, v :: vs, 0, q, u, h, hi, hv => by
    simp only [tkRs] at h
    simp at hi hv
    exact hi ▸ hv ▸ h.1
  | r :: rs, v :: vs, i + 1, q, u, h, hi, hv => by
    simp only [tkRs] at h
    exact tkRs_get h.2 (by simpa using hi) (by simpa using hv)
  | [], _, _, _, _, _, hi, _ => by simp at hi
  | _ :: _, [], _, _, _, _, _, hv => by simp at hv
theorem q_extract {o : Oper} {x : Operand} {i : Nat} {rs : List R} {r : R} {lk : Nat → Option R} {ty : Nat} (hop : o.op = .extract x i) (hf : ∀ b, w.heap.size ≤ b → γ.rd b = none) (hl : LkOK lk γ dead C a w) (hC : dstOf o ∉ C)
    (h : evalO E ty lk x = some (.tup rs)) (hi : rs[i]? = some r) : Quiet P o a γ dead C w r := by
  obtain ⟨h1, h2⟩ := evalO_sound hl h
  simp only [rdR] at h1
  obtain ⟨vs, hv, hrs⟩ := h1
  obtain ⟨v, hvi, hr⟩ := rdRs_get hrs hi
  rw [hv] at h2
  simp only [tkR] at h2
  refine .here hf (v := v) ?_ hr (tkR_drop hC (tkRs_get h2 hi hvi))
  have : vs[i]? = some v := by simpa using hvi
  simp [execOp, hop, hv, Instr.extract, this]
theorem mapO_some {α β : Type} {f : α → Option β} : ∀ {l : List α} {m : List β}, mapO f l = some m → l.length = m.length ∧ ∀ (i : Nat) x, l[i]? = some x → ∃ y, m[i]? = some y ∧ f x = some y
  | [], m, h => by simp only [mapO, Option.some.injEq] at h; subst h; simp
  | x :: l, m, h => by
    simp only [mapO] at h
    split at h
    · rename_i y hy
      split at h
      · rename_i ys hys
        cases h
        obtain ⟨h1, h2⟩ := mapO_some hys
        refine ⟨by simp [h1], fun i z hz => ?_⟩
        cases i with
        | zero => simp at hz; subst hz; exact ⟨y, by simp, hy⟩
        | succ i => simpa using h2 i z (by simpa using hz)
      · cases h
    · cases h
theorem rdL_of_get : ∀ {ds : List D} {vs : List Value}, ds.length = vs.length → (∀ (i : Nat) d v, ds[i]? = some d → vs[i]? = some v → rdD w γ d v) → rdL w γ ds vs
  | [], [], _, _ => by simp [rdL]
  | d :: ds, v :: vs, hl, h => by
    simp only [rdL]
    exact ⟨h 0 d v (by simp) (by simp), rdL_of_get (by simpa using hl) fun i x y hx hy => h (i + 1) x y (by simpa using hx) (by simpa using hy)⟩
  | [], _ :: _, hl, _ => by simp at hl
  | _ :: _, [], hl, _ => by simp at hl
theorem rdL_get : ∀ {ds : List D} {vs : List Value} {i : Nat} {d : D}, rdL w γ ds vs → ds[i]? = some d → ∃ v, vs[i]? = some v ∧ rdD w γ d v
  | d :: ds, v :: vs, 0, q, h, hi => by
    simp only [rdL] at h
    simp at hi
    exact ⟨v, by simp, hi ▸ h.1⟩
  | d :: ds, v :: vs, i + 1, q, h, hi => by
    simp only [rdL] at h
    simpa using rdL_get h.2 (by simpa using hi)
  | [], _, _, _, _, hi => by simp at hi
  | _ :: _, [], _, _, h, _ => by simp only [rdL] at h
theorem q_makeFunc {o : Oper} {g : Nat} {first caps : Array Operand} {ds : List D} {lk : Nat → Option R} {ty : Nat} (hop : o.op = .makeFunc (.func g) first caps) (h0 : first.toList = []) (hf : ∀ b, w.heap.size ≤ b → γ.rd b = none) (hl : LkOK lk γ dead C a w)
    (h : mapO (fun p => match evalO E ty lk p with | some (.one d) => some d.strip | _ => none) caps.toList = some ds) : Quiet P o a γ dead C w (.one (.fn g ds)) := by
  have e0 : first = #[] := by simpa using h0
  refine q_plain (v := .func (.func g) #[] (caps.map a.eval)) hf (by simp [execOp, hop, Instr.makeFunc, e0]) ?_ rfl
  simp only [rdD]
  refine ⟨_, rfl, ?_⟩
  obtain ⟨hlen, hget⟩ := mapO_some h
  refine rdL_of_get (by simpa using hlen.symm) fun i d v hd hv => ?_
  have hx : ∃ x, caps.toList[i]? = some x ∧ a.eval x = v := by
    simp at hv
    obtain ⟨x, hx, rfl⟩ := hv
    exact ⟨x, by simpa using hx, rfl⟩
  obtain ⟨x, hx, rfl⟩ := hx
  obtain ⟨y, hy, he⟩ := hget i x hx
  rw [hy] at hd
  cases hd
  split at he
  · rename_i d' hev
    cases he
    exact rdD_strip.2 (evalO_one hl hev)
  · cases he
theorem asSl_sound {d : D} {e : Ts} {xs : List e.den} {v : Value} (h : asSl d = some ⟨e, xs⟩) (hd : rdD w γ d v) : rdT w γ (.sl e) xs v := by
  cases d <;> simp only [asSl, reduceCtorEq] at h
  case g t x =>
    cases t <;> simp only [reduceCtorEq] at h
    case sl e' => cases h; simpa only [rdD] using hd
  case ow e' ys k => cases h; simpa only [rdD] using hd
  case nilS e' =>
    cases h
    simp only [rdD] at hd
    subst hd
    simp only [rdT]
    exact ⟨none, 0, rfl, Nat.le_refl _, fun i hi => absurd hi (by simp)⟩
theorem slOK_spec (hE : EnvOK E) {t : Nat} {e : Ts} (h : slOK E t e = true) : ∃ et i, E.P.underlying t = some (.slice et) ∧ E.P.info? et = some i ∧ i.size = e.size ∧ i.bytes ≤ 65536 ∧ ∃ z, i.zero = some z ∧ z.cells.size = e.size := by
  unfold slOK at h
  split at h
  · rename_i et size agg gl zero ht
    split at h
    · rename_i te hte
      have h0 := (hE.ti _ _ ht).desc
      simp only at h0
      obtain ⟨h1, h2⟩ := h0
      have hsz := nbeq.1 h
      obtain ⟨i, e1, e2, e3, z, e4, e5, _⟩ := (hE.ti _ _ hte).info (h2 te hte)
      exact ⟨et, i, h1, e1, e2.trans hsz, e3, z, e4, e5.trans hsz⟩
    · cases h
  · cases h
end
end Go.V
namespace Go.V
open Go.RowKit
section
variable {E : Env} {P : Program} {γ : Gh} {dead : List Tok} {C : List Nat} {a : Act} {w : World} {dst : Nat}
theorem q_len {o : Oper} {c : Call} {x : Operand} {d : D} {e : Ts} {xs : List e.den} (hE : EnvOK E) (hop : o.op = .call c) (hc : c.callee = .builtin .len) (ha : c.args.toList = [x]) (hf : ∀ b, w.heap.size ≤ b → γ.rd b = none)
    (hd : rdD w γ d (a.eval x)) (hs : asSl d = some ⟨e, xs⟩) (ht : slOK E (c.argTypes.getD 0 0) e = true) (hty : c.argTypes.size = 1) : Quiet E.P o a γ dead C w (.one (.g (.int .i64) (xs.length : Int))) := by
  have h1 := asSl_sound hs hd
  simp only [rdT] at h1
  obtain ⟨A, cp, hv, hle, _⟩ := h1
  obtain ⟨et, i, hu, _⟩ := slOK_spec hE ht
  have hargs : c.args = #[x] := by apply Array.ext'; simpa using ha
  obtain ⟨t0, hat, ht0⟩ : ∃ t0, c.argTypes[0]? = some t0 ∧ c.argTypes.getD 0 0 = t0 := ⟨c.argTypes.getD 0 0, by simp [hty], rfl⟩
  rw [ht0] at hu
  refine q_plain (v := .int .i64 (xs.length : Int)) hf ?_ (by simp [rdD, rdT]) rfl
  simp [execOp, hop, resolve, hc, hargs, invoke, builtin, Builtin.len_, hat, hv, goInt, run_underlying hu]
theorem max_if (x z : Int) : (if z > x then z else x) = max x z := by simp only [Int.max_def]; split <;> split <;> omega
theorem min_if (x z : Int) : (if z < x then z else x) = min x z := by simp only [Int.min_def]; split <;> split <;> omega
theorem foldMM_sound (mx : Bool) (kk : IntKind) : ∀ (l : List R) (vs : List Value) (x y : Int), (∀ (i : Nat) r v, l[i]? = some r → vs[i]? = some v → rdR w γ r v) → l.length = vs.length → foldMM mx kk x l = some y →
    (vs.foldlM (if mx then Builtin.max2 else Builtin.min2) (.int kk x)).run P w = .ok (.int kk y) w
  | [], [], x, y, _, _, h => by simp [foldMM] at h; subst h; simp
  | .one (.g (.int k) z) :: l, v :: vs, x, y, hv, hl, h => by
    simp only [foldMM] at h
    split at h
    · rename_i hk
      subst hk
      have h0 := hv 0 (.one (.g (.int k) z)) v rfl rfl
      simp only [rdR, rdD, rdT] at h0
      subst h0
      have ih := foldMM_sound mx k l vs _ y (fun i q u hq hu => hv (i + 1) q u (by simpa using hq) (by simpa using hu)) (by simpa using hl) h
      rw [List.foldlM_cons]
      cases mx with
      | true =>
        have e := max_if x z
        simp only [if_true, Builtin.max2, Sem.run_bind, Sem.run_pure, Result.andThen_ok, e]
        simpa using ih
      | false =>
        have e := min_if x z
        simp only [Bool.false_eq_true, if_false, Builtin.min2, Sem.run_bind, Sem.run_pure, Result.andThen_ok, e]
        simpa using ih
    · cases h
  | .one (.g .bool _) :: _, _ :: _, _, _, _, _, h => by simp [foldMM] at h
  | .one (.g (.sl _) _) :: _, _ :: _, _, _, _, _, h => by simp [foldMM] at h
  | .one (.ow _ _ _) :: _, _ :: _, _, _, _, _, h => by simp [foldMM] at h
  | .one (.fn _ _) :: _, _ :: _, _, _, _, _, h => by simp [foldMM] at h
  | .one .nilFn :: _, _ :: _, _, _, _, _, h => by simp [foldMM] at h
  | .one .nilPtr :: _, _ :: _, _, _, _, _, h => by simp [foldMM] at h
  | .one (.cell _) :: _, _ :: _, _, _, _, _, h => by simp [foldMM] at h
  | .one (.ref _ _) :: _, _ :: _, _, _, _, _, h => by simp [foldMM] at h
  | .one .undef :: _, _ :: _, _, _, _, _, h => by simp [foldMM] at h
  | .agg _ :: _, _ :: _, _, _, _, _, h => by simp [foldMM] at h
  | .tup _ :: _, _ :: _, _, _, _, _, h => by simp [foldMM] at h
  | .undef :: _, _ :: _, _, _, _, _, h => by simp [foldMM] at h
  | .skip :: _, _ :: _, _, _, _, _, h => by simp [foldMM] at h
  | [], _ :: _, _, _, _, hl, _ => by simp at hl
  | _ :: _, [], _, _, _, hl, _ => by simp at hl
theorem args_sound {lk : Nat → Option R} {ty : Nat} {xs : List Operand} {rs : List R} (hl : LkOK lk γ dead C a w) (h : mapO (evalO E ty lk) xs = some rs) :
    rs.length = (xs.map a.eval).length ∧ ∀ (i : Nat) r v, rs[i]? = some r → (xs.map a.eval)[i]? = some v → rdR w γ r v ∧ tkR γ dead C r v := by
  obtain ⟨h1, h2⟩ := mapO_some h
  refine ⟨by simp [h1], fun i r v hr hv => ?_⟩
  simp only [List.getElem?_map, Option.map_eq_some_iff] at hv
  obtain ⟨x, hx, rfl⟩ := hv
  obtain ⟨y, hy, he⟩ := h2 i x hx
  rw [hy] at hr
  cases hr
  exact evalO_sound hl he
theorem q_minmax {o : Oper} {c : Call} {b : Builtin} {mx : Bool} {kk : IntKind} {x y : Int} {l : List R} {lk : Nat → Option R} {ty : Nat} (hop : o.op = .call c) (hb : b = if mx then .max else .min) (hc : c.callee = .builtin b)
    (hf : ∀ b, w.heap.size ≤ b → γ.rd b = none) (hl : LkOK lk γ dead C a w) (h : mapO (evalO E ty lk) c.args.toList = some (.one (.g (.int kk) x) :: l)) (hm : foldMM mx kk x l = some y) :
    Quiet E.P o a γ dead C w (.one (.g (.int kk) y)) := by
  obtain ⟨h1, h2⟩ := args_sound hl h
  obtain ⟨x0, xs, hxs⟩ : ∃ x0 xs, c.args.toList = x0 :: xs := by
    cases hh : c.args.toList with
    | nil => rw [hh] at h1; simp at h1
    | cons x0 xs => exact ⟨x0, xs, rfl⟩
  have hargs : c.args = (x0 :: xs).toArray := by apply Array.ext'; simpa using hxs
  rw [hxs] at h1 h2
  have e0 := (h2 0 (.one (.g (.int kk) x)) (a.eval x0) rfl rfl).1
  simp only [rdR, rdD, rdT] at e0
  have hfold := foldMM_sound (P := E.P) (w := w) (γ := γ) mx kk l (xs.map a.eval) x y (fun i r v hr hv => (h2 (i + 1) r v (by simpa using hr) (by simpa using hv)).1) (by simpa using h1) hm
  refine q_plain (v := .int kk y) hf ?_ (by simp [rdD, rdT]) rfl
  subst hb
  cases mx with
  | true =>
    simp only [if_true] at hc hfold
    simp [execOp, hop, resolve, hc, hargs, invoke, builtin, Builtin.max_, e0, hfold]
  | false =>
    simp only [Bool.false_eq_true, if_false] at hc hfold
    simp [execOp, hop, resolve, hc, hargs, invoke, builtin, Builtin.min_, e0, hfold]
theorem rdC_drop : ∀ {c : List D} {b o n : Nat}, rdC w γ c b o → rdC w γ (c.drop n) b (o + n)
  | c, b, o, 0, h => by simpa using h
  | [], b, o, n + 1, h => by simp [rdC]
  | d :: c, b, o, n + 1, h => by
    simp only [rdC] at h
    have := rdC_drop (n := n) h.2
    simpa [Nat.add_assoc, Nat.add_comm 1 n] using this
theorem add_none (b o n : Nat) : (⟨b, o, none⟩ : Addr).add n = ⟨b, o + n, none⟩ := Addr.add_lit b o n
theorem run_fieldAt (hE : EnvOK E) {s i off ft size : Nat} {agg : Bool} {gl : Option Ts} {zero : List D} {fs : List (Nat × Nat)} (ht : E.ti s = some ⟨.struct fs, size, agg, gl, zero⟩) (hi : fs[i]? = some (off, ft)) (b o : Nat) :
    (Instr.fieldAt s (.pointer (some ⟨b, o, none⟩)) i).run E.P w = .ok (.pointer (some ⟨b, o + off, none⟩)) w := by
  have h1 := (hE.ti _ _ ht).desc
  simp only at h1
  obtain ⟨fields, hu, _, hfs⟩ := h1
  obtain ⟨f, hf, ho, hty, _, info, hinfo, hne⟩ := hfs i off ft hi
  have e1 : (sizeOf f.type).run E.P w = .ok info.size w := by simp [sizeOf, typeInfo, hty, hinfo]
  simp [Instr.fieldAt, run_underlying hu, hf, Instr.sureAddr, fieldPlace, e1, hne, add_none, ho]
theorem q_fieldCell {o : Oper} {s i off ft size : Nat} {agg : Bool} {gl : Option Ts} {zero : List D} {fs : List (Nat × Nat)} {x : Operand} {c : List D} (hE : EnvOK E) (hop : o.op = .fieldAddr s x i) (hf : ∀ b, w.heap.size ≤ b → γ.rd b = none)
    (ht : E.ti s = some ⟨.struct fs, size, agg, gl, zero⟩) (hi : fs[i]? = some (off, ft)) (hd : rdD w γ (.cell c) (a.eval x)) : Quiet E.P o a γ dead C w (.one (.cell (c.drop off))) := by
  simp only [rdD] at hd
  obtain ⟨b, p, hv, hc⟩ := hd
  refine q_plain (v := .pointer (some ⟨b, p + off, none⟩)) hf (by simp [execOp, hop, hv, run_fieldAt hE ht hi]) ?_ rfl
  simp only [rdD]
  exact ⟨b, p + off, rfl, rdC_drop hc⟩
theorem q_fieldRef {o : Oper} {s i off ft size r p : Nat} {agg : Bool} {gl : Option Ts} {zero : List D} {fs : List (Nat × Nat)} {x : Operand} (hE : EnvOK E) (hop : o.op = .fieldAddr s x i) (hf : ∀ b, w.heap.size ≤ b → γ.rd b = none)
    (ht : E.ti s = some ⟨.struct fs, size, agg, gl, zero⟩) (hi : fs[i]? = some (off, ft)) (hd : rdD w γ (.ref r p) (a.eval x)) : Quiet E.P o a γ dead C w (.one (.ref r (p + off))) := by
  simp only [rdD] at hd
  obtain ⟨b, hb, hv⟩ := hd
  refine q_plain (v := .pointer (some ⟨b, p + off, none⟩)) hf (by simp [execOp, hop, hv, run_fieldAt hE ht hi]) ?_ rfl
  simp only [rdD]
  exact ⟨b, hb, rfl⟩
theorem run_indexArr (hE : EnvOK E) {t n e size : Nat} {agg : Bool} {gl : Option Ts} {zero : List D} {te : TI} (ht : E.ti t = some ⟨.array n e, size, agg, gl, zero⟩) (hte : E.ti e = some te) (b o : Nat) {j : Nat} (hj : j < n) (k : IntKind) :
    (Instr.indexAt t (.pointer (some ⟨b, o, none⟩)) (.int k (j : Int))).run E.P w = .ok (.pointer (some ⟨b, o + j * te.size, none⟩)) w := by
  have h1 := (hE.ti _ _ ht).desc
  simp only at h1
  obtain ⟨hu, hnt⟩ := h1
  obtain ⟨info, hinfo, hsz, _⟩ := (hE.ti _ _ hte).info (hnt te hte)
  have e1 : (sizeOf e).run E.P w = .ok te.size w := by simp [sizeOf, typeInfo, hinfo, hsz]
  simp [Instr.indexAt, asIntOf, run_underlying hu, Instr.sureAddr, hj, e1, add_none]
theorem ob_some {α τ : Type} {x : Option τ} {k : τ → Option α} {r : α} (h : (oB α).ob x k = some r) : ∃ y, x = some y ∧ k y = some r := by
  cases x with
  | none => cases h
  | some y => exact ⟨y, rfl, h⟩
theorem atIdx_some {α : Type} {i : Int} {k : Nat → Option α} {r : α} : ∀ {n j : Nat}, atIdx (oB α) i k j n = some r → ∃ m : Nat, j ≤ m ∧ m < j + n ∧ i = (m : Int) ∧ k m = some r
  | 0, j, h => by cases h
  | n + 1, j, h => by
    simp only [atIdx] at h
    cases hb : (i == (j : Int)) with
    | true =>
      rw [hb] at h
      exact ⟨j, Nat.le_refl _, by omega, by simpa using hb, h⟩
    | false =>
      rw [hb] at h
      obtain ⟨m, h1, h2, h3, h4⟩ := atIdx_some (n := n) (j := j + 1) h
      exact ⟨m, by omega, by omega, h3, h4⟩
theorem q_indexCell {o : Oper} {t n e size j : Nat} {agg : Bool} {gl : Option Ts} {zero : List D} {te : TI} {x i : Operand} {c : List D} {k : IntKind} (hE : EnvOK E) (hop : o.op = .indexAddr t x i) (hf : ∀ b, w.heap.size ≤ b → γ.rd b = none)
    (ht : E.ti t = some ⟨.array n e, size, agg, gl, zero⟩) (hte : E.ti e = some te) (hd : rdD w γ (.cell c) (a.eval x)) (hi : a.eval i = .int k (j : Int)) (hj : j < n) : Quiet E.P o a γ dead C w (.one (.cell (c.drop (j * te.size)))) := by
  simp only [rdD] at hd
  obtain ⟨b, p, hv, hc⟩ := hd
  refine q_plain (v := .pointer (some ⟨b, p + j * te.size, none⟩)) hf (by simp [execOp, hop, hv, hi, run_indexArr hE ht hte b p hj k]) ?_ rfl
  simp only [rdD]
  exact ⟨b, _, rfl, rdC_drop hc⟩
theorem q_indexRef {o : Oper} {t n e size j r p : Nat} {agg : Bool} {gl : Option Ts} {zero : List D} {te : TI} {x i : Operand} {k : IntKind} (hE : EnvOK E) (hop : o.op = .indexAddr t x i) (hf : ∀ b, w.heap.size ≤ b → γ.rd b = none)
    (ht : E.ti t = some ⟨.array n e, size, agg, gl, zero⟩) (hte : E.ti e = some te) (hd : rdD w γ (.ref r p) (a.eval x)) (hi : a.eval i = .int k (j : Int)) (hj : j < n) : Quiet E.P o a γ dead C w (.one (.ref r (p + j * te.size))) := by
  simp only [rdD] at hd
  obtain ⟨b, hb, hv⟩ := hd
  refine q_plain (v := .pointer (some ⟨b, p + j * te.size, none⟩)) hf (by simp [execOp, hop, hv, hi, run_indexArr hE ht hte b p hj k]) ?_ rfl
  simp only [rdD]
  exact ⟨b, hb, rfl⟩
theorem leaves_rdC : ∀ {ts : Ts} {x : ts.den} {b o : Nat}, rdTs w γ ts x b o → rdC w γ (ts.leaves x) b o
  | .one t, x, b, o, h => by
    simp only [rdTs] at h
    simp only [Ts.leaves, rdC, rdD]
    exact ⟨h, trivial⟩
  | .cons t ts, x, b, o, h => by
    simp only [rdTs] at h
    simp only [Ts.leaves, rdC, rdD]
    exact ⟨h.1, leaves_rdC h.2⟩
theorem q_indexSl {o : Oper} {t : Nat} {x i : Operand} {d : D} {e : Ts} {xs : List e.den} {k : IntKind} {j : Int} (hE : EnvOK E) (hop : o.op = .indexAddr t x i) (hf : ∀ b, w.heap.size ≤ b → γ.rd b = none)
    (hs : slOK E t e = true) (hd : rdD w γ d (a.eval x)) (has : asSl d = some ⟨e, xs⟩) (hi : a.eval i = .int k j) (h0 : 0 ≤ j) (h1 : j < xs.length) :
    Quiet E.P o a γ dead C w (.one (.cell (e.leaves (xs.getD j.toNat e.dflt)))) := by
  obtain ⟨et, info, hu, hinfo, hsz, _⟩ := slOK_spec hE hs
  have h2 := asSl_sound has hd
  simp only [rdT] at h2
  obtain ⟨A, cp, hv, hle, hr⟩ := h2
  have hlt : j.toNat < xs.length := by omega
  obtain ⟨b, p, hA, hrow⟩ := hr j.toNat hlt
  have e1 : (sizeOf et).run E.P w = .ok e.size w := by simp [sizeOf, typeInfo, hinfo, hsz]
  have e2 : xs.getD j.toNat e.dflt = xs[j.toNat] := by simp [List.getD_eq_getElem?_getD, hlt]
  refine q_plain (v := .pointer (some ⟨b, p + j.toNat * e.size, none⟩)) hf ?_ ?_ rfl
  · simp [execOp, hop, hv, hi, Instr.indexAt, asIntOf, run_underlying hu, hA, h0, h1, e1, add_none]
  · simp only [rdD]
    rw [e2]
    exact ⟨b, _, rfl, leaves_rdC hrow⟩
theorem takeD_some : ∀ {n : Nat} {c ds : List D}, takeD n c = some ds → n ≤ c.length ∧ ds = c.take n
  | 0, c, ds, h => by simp [takeD] at h; subst h; simp
  | n + 1, [], ds, h => by simp [takeD] at h
  | n + 1, d :: c, ds, h => by
    simp only [takeD] at h
    split at h
    · rename_i l hl
      cases h
      obtain ⟨h1, h2⟩ := takeD_some hl
      exact ⟨by simp; omega, by simp [h2]⟩
    · cases h
theorem rdC_get : ∀ {c : List D} {b o i : Nat} {d : D}, rdC w γ c b o → c[i]? = some d → ∃ u, w.cell? ⟨b, o + i, none⟩ = some u ∧ γ.may b (o + i) ∧ rdD w γ d u
  | d :: c, b, o, 0, q, h, hi => by
    simp only [rdC] at h
    simp at hi
    subst hi
    simpa using h.1
  | d :: c, b, o, i + 1, q, h, hi => by
    simp only [rdC] at h
    have := rdC_get h.2 (by simpa using hi)
    simpa [Nat.add_assoc, Nat.add_comm 1 i] using this
  | [], _, _, _, _, _, hi => by simp at hi
theorem rdC_list : ∀ {c : List D} {b o : Nat}, rdC w γ c b o → ∃ vs : List Value, vs.length = c.length ∧ rdL w γ c vs ∧ ∀ (j : Nat) v, vs[j]? = some v → w.cell? ⟨b, o + j, none⟩ = some v ∧ γ.may b (o + j)
  | [], b, o, _ => ⟨[], rfl, by simp [rdL], fun j v h => by simp at h⟩
  | d :: c, b, o, h => by
    simp only [rdC] at h
    obtain ⟨⟨u, h1, h2, h3⟩, h4⟩ := h
    obtain ⟨vs, e1, e2, e3⟩ := rdC_list h4
    refine ⟨u :: vs, by simp [e1], by simp only [rdL]; exact ⟨h3, e2⟩, fun j v hj => ?_⟩
    cases j with
    | zero => simp at hj; subst hj; exact ⟨by simpa using h1, by simpa using h2⟩
    | succ j => have := e3 j v (by simpa using hj); simpa [Nat.add_assoc, Nat.add_comm 1 j] using this
theorem rdC_take : ∀ {c : List D} {b o n : Nat}, rdC w γ c b o → rdC w γ (c.take n) b o
  | c, b, o, 0, _ => by simp [rdC]
  | [], b, o, n + 1, _ => by simp [rdC]
  | d :: c, b, o, n + 1, h => by
    simp only [rdC] at h
    simp only [List.take_succ_cons, rdC]
    exact ⟨h.1, rdC_take h.2⟩
theorem isAgg_run (hE : EnvOK E) {t : Nat} {ti : TI} (ht : E.ti t = some ti) (hn : ∀ ts, ti.d ≠ .tup ts) : (isAgg t).run E.P w = .ok ti.agg w := by
  have h := hE.ti _ _ ht
  have h1 := h.desc
  have h2 := h.agg
  cases hd : ti.d <;> rw [hd] at h1 h2 <;> simp only [isAggD] at h1 h2 <;> rw [h2]
  case int k => simp [isAgg, run_underlying h1]
  case bool => simp [isAgg, run_underlying h1]
  case slice e => simp [isAgg, run_underlying h1.1]
  case array n e => simp [isAgg, run_underlying h1.1]
  case struct fs => obtain ⟨f, h1, _, _⟩ := h1; simp [isAgg, run_underlying h1]
  case ptr e => simp [isAgg, run_underlying h1]
  case func => obtain ⟨p, q, r, h1⟩ := h1; simp [isAgg, run_underlying h1]
  case tup ts => exact absurd hd (hn ts)
theorem tkD_strip (d : D) (v : Value) : tkD γ dead C d.strip v := by cases d <;> (unfold D.strip tkD; trivial)
mutual
theorem tkR_strip : (r : R) → (v : Value) → tkR γ dead C (r.map D.strip) v
  | .one d, v => by simp only [R.map, tkR]; exact tkD_strip d v
  | .agg ds, v => by simp only [R.map, tkR]
  | .tup rs, v => by
    simp only [R.map]
    cases v <;> simp only [tkR]
    exact tkRs_strip rs _
  | .undef, v => by simp only [R.map, tkR]
  | .skip, v => by simp only [R.map, tkR]
theorem tkRs_strip : (rs : List R) → (vs : List Value) → tkRs γ dead C (R.mapL D.strip rs) vs
  | r :: rs, v :: vs => by simp only [R.mapL, tkRs]; exact ⟨tkR_strip r v, tkRs_strip rs vs⟩
  | [], _ => by simp only [R.mapL, tkRs]
  | _ :: _, [] => by simp only [R.mapL, tkRs]
end
theorem run_load (hE : EnvOK E) {t : Nat} {ti : TI} (ht : E.ti t = some ti) (hn : ∀ ts, ti.d ≠ .tup ts) {b o : Nat} {vs : List Value} {ds : List D} {r : R} (hlen : vs.length = ti.size)
    (hc : ∀ (j : Nat) v, vs[j]? = some v → w.cell? ⟨b, o + j, none⟩ = some v) (hr : rdL w γ ds vs) (ha : asR ti.agg ds = some r) :
    ∃ v, (loadVar t ⟨b, o, none⟩).run E.P w = .ok v w ∧ rdR w γ r v ∧ (∀ d, r = .one d → ds = [d] ∧ vs = [v]) := by
  obtain ⟨info, hinfo, hsz, _⟩ := (hE.ti _ _ ht).info hn
  have e1 : (sizeOf t).run E.P w = .ok vs.length w := by simp [sizeOf, typeInfo, hinfo, hsz, hlen]
  have e2 := isAgg_run (w := w) hE ht hn
  unfold asR at ha
  cases hag : ti.agg with
  | true =>
    rw [hag] at ha e2
    simp only [Option.some.injEq] at ha
    subst ha
    have e3 := run_loadCells_list (P := E.P) w ⟨b, o, none⟩ vs (fun j v hj => by rw [add_none]; exact hc j v hj)
    refine ⟨.agg vs.toArray, by simp [loadVar, e2, e1, e3], ?_, fun d hd => by cases hd⟩
    simp only [rdR]
    exact ⟨_, rfl, by simpa using (rdL_map nameOnly_strip).2 hr⟩
  | false =>
    rw [hag] at ha e2
    simp only at ha
    split at ha
    · rename_i d
      cases ha
      cases vs with
      | nil => simp [rdL] at hr
      | cons v vs =>
        cases vs with
        | cons _ _ => simp [rdL] at hr
        | nil =>
          simp only [rdL, and_true] at hr
          have h0 : w.cell? ⟨b, o, none⟩ = some v := by simpa using hc 0 v rfl
          refine ⟨v, by simp [loadVar, e2, Go.run_load, h0], by simpa only [rdR] using hr, fun d' hd => by cases hd; exact ⟨rfl, rfl⟩⟩
    · cases ha
theorem q_loadCell {o : Oper} {t : Nat} {ti : TI} {x : Operand} {c ds : List D} {r : R} (hE : EnvOK E) (hop : o.op = .load t x) (hf : ∀ b, w.heap.size ≤ b → γ.rd b = none) (ht : E.ti t = some ti) (hn : ∀ ts, ti.d ≠ .tup ts)
    (hd : rdD w γ (.cell c) (a.eval x)) (htk : takeD ti.size c = some ds) (ha : asR ti.agg ds = some r) : Quiet E.P o a γ dead C w (r.map D.strip) := by
  simp only [rdD] at hd
  obtain ⟨b, p, hv, hc⟩ := hd
  obtain ⟨h1, h2⟩ := takeD_some htk
  subst h2
  obtain ⟨vs, e1, e2, e3⟩ := rdC_list (rdC_take (n := ti.size) hc)
  obtain ⟨v, hrun, hr, _⟩ := run_load (w := w) hE ht hn (vs := vs) (by rw [e1]; simp; omega) (fun j v hj => (e3 j v hj).1) e2 ha
  refine .here hf (v := v) (by simp [execOp, hop, hv, Instr.loadAt, Instr.sureAddr, hrun]) ((rdR_map nameOnly_strip r v).2 hr) ?_
  exact tkR_strip r v
end
end Go.V
namespace Go.V
open Go.RowKit
section
variable {E : Env} {P : Program} {γ : Gh} {dead : List Tok} {C : List Nat} {a : Act} {w : World} {dst : Nat}
theorem sees_refl : Sees γ w (γ.drop dst) w := ⟨fun _ _ _ h1 h2 => ⟨h2, h1⟩⟩
theorem get_take {α : Type} {l : List α} {n j : Nat} {v : α} (h : (l.take n)[j]? = some v) : l[j]? = some v := by
  rw [List.getElem?_take] at h
  split at h
  · exact h
  · cases h
theorem asR_form {b : Bool} {ds : List D} {r : R} (h : asR b ds = some r) : (∃ d, r = .one d) ∨ ∃ l, r = .agg l := by
  unfold asR at h
  split at h
  · cases h; exact .inr ⟨_, rfl⟩
  · split at h
    · cases h; exact .inl ⟨_, rfl⟩
    · cases h
theorem rdL_take : ∀ {ds : List D} {vs : List Value} {n : Nat}, rdL w γ ds vs → rdL w γ (ds.take n) (vs.take n)
  | [], [], n, _ => by simp [rdL]
  | _ :: _, _ :: _, 0, _ => by simp [rdL]
  | d :: ds, v :: vs, n + 1, h => by
    simp only [rdL] at h
    simp only [List.take_succ_cons, rdL]
    exact ⟨h.1, rdL_take h.2⟩
  | [], _ :: _, _, h => by simp only [rdL] at h
  | _ :: _, [], _, h => by simp only [rdL] at h
theorem rdL_drop' : ∀ {ds : List D} {vs : List Value} {n : Nat}, rdL w γ ds vs → rdL w γ (ds.drop n) (vs.drop n)
  | [], [], n, _ => by simp [rdL]
  | d :: ds, v :: vs, 0, h => by simpa using h
  | d :: ds, v :: vs, n + 1, h => by
    simp only [rdL] at h
    simpa using rdL_drop' h.2
  | [], _ :: _, _, h => by simp only [rdL] at h
  | _ :: _, [], _, h => by simp only [rdL] at h
theorem tkL_drop : ∀ {ds : List D} {vs : List Value} {n : Nat}, tkL γ dead C ds vs → tkL γ dead C (ds.drop n) (vs.drop n)
  | d :: ds, v :: vs, n + 1, h => by
    simp only [tkL] at h
    simpa using tkL_drop h.2
  | ds, vs, 0, h => by simpa using h
  | [], vs, n + 1, h => by simp [tkL]
  | d :: ds, [], n + 1, h => by
    simp only [List.drop_nil, List.drop_succ_cons]
    cases ds.drop n <;> simp [tkL]
theorem q_loadRef {o : Oper} {t i off : Nat} {ti : TI} {x : Operand} {c ds : List D} {r : R} {hp : Heap} (hE : EnvOK E) (hop : o.op = .load t x) (hf : ∀ b, w.heap.size ≤ b → γ.rd b = none) (hC : dstOf o ∉ C) (ht : E.ti t = some ti) (hn : ∀ ts, ti.d ≠ .tup ts)
    (hh : HeapOK γ hp dead C w) (hpl : plainB c = true) (hd : rdD w γ (.ref i off) (a.eval x)) (hi : hp[i]? = some c) (htk : takeD ti.size (c.drop off) = some ds) (ha : asR ti.agg ds = some r) (hpos : 0 < ti.size) : Quiet E.P o a γ dead C w r := by
  simp only [rdD] at hd
  obtain ⟨b, hb, hv⟩ := hd
  obtain ⟨h1, h2⟩ := takeD_some htk
  rcases hh.box i c b hi hb with ⟨⟨arr, ty, e1, e2, e3⟩, _, _⟩ | g
  case inr => have g1 := g.plain hpl; subst g1; simp at h1; omega
  rw [plain_expand hpl, cutV_plain hpl] at e2 e3
  subst h2
  have hlen := rdL_length e2
  have hr := rdL_take (n := ti.size) (rdL_drop' (n := off) e2)
  obtain ⟨v, hrun, hrr, hone⟩ := run_load (w := w) hE ht hn (b := b) (o := off) (vs := (arr.toList.drop off).take ti.size) (by
      have h1' : ti.size ≤ (arr.toList.drop off).length := by
        have : (c.drop off).length = (arr.toList.drop off).length := by simp only [List.length_drop]; omega
        omega
      simp only [List.length_take]; omega) (fun j v hj => by
      have hj' := get_take hj
      simp only [List.getElem?_drop] at hj'
      simp only [World.cell?, e1]
      simpa using hj') hr ha
  refine .here hf (v := v) (by simp [execOp, hop, hv, Instr.loadAt, Instr.sureAddr, hrun]) hrr ?_
  apply tkR_drop hC
  rcases asR_form ha with ⟨d, rfl⟩ | ⟨l, rfl⟩
  · obtain ⟨q1, q2⟩ := hone d rfl
    simp only [tkR]
    have e4 := tkL_drop (n := off) e3
    cases hds : c.drop off with
    | nil => rw [hds] at q1; simp at q1
    | cons x xs =>
      cases hvs : arr.toList.drop off with
      | nil => rw [hvs] at q2; simp at q2
      | cons y ys =>
        rw [hds, hvs] at e4
        rw [hds] at q1
        rw [hvs] at q2
        simp only [tkL] at e4
        cases hn' : ti.size with
        | zero => rw [hn'] at q1; simp at q1
        | succ m =>
          rw [hn'] at q1 q2
          simp at q1 q2
          exact q1.1 ▸ q2.1 ▸ e4.1
  · simp only [tkR]
theorem ref_load {t i off : Nat} {ti : TI} {u : Value} {c ds : List D} {r : R} {hp : Heap} (hE : EnvOK E) (ht : E.ti t = some ti) (hn : ∀ ts, ti.d ≠ .tup ts)
    (hh : HeapOK γ hp dead C w) (hpl : plainB c = true) (hd : rdD w γ (.ref i off) u) (hi : hp[i]? = some c) (htk : takeD ti.size (c.drop off) = some ds) (ha : asR ti.agg ds = some r) (hpos : 0 < ti.size) : ∃ ad v, u = .pointer (some ad) ∧ (loadVar t ad).run E.P w = .ok v w ∧ rdR w γ r v ∧ tkR γ dead C r v := by
  simp only [rdD] at hd
  obtain ⟨b, hb, hv⟩ := hd
  obtain ⟨h1, h2⟩ := takeD_some htk
  rcases hh.box i c b hi hb with ⟨⟨arr, ty, e1, e2, e3⟩, _, _⟩ | g
  case inr => have g1 := g.plain hpl; subst g1; simp at h1; omega
  rw [plain_expand hpl, cutV_plain hpl] at e2 e3
  subst h2
  have hlen := rdL_length e2
  have hr := rdL_take (n := ti.size) (rdL_drop' (n := off) e2)
  obtain ⟨v, hrun, hrr, hone⟩ := run_load (w := w) hE ht hn (b := b) (o := off) (vs := (arr.toList.drop off).take ti.size) (by
      have h1' : ti.size ≤ (arr.toList.drop off).length := by
        have : (c.drop off).length = (arr.toList.drop off).length := by simp only [List.length_drop]; omega
        omega
      simp only [List.length_take]; omega) (fun j v hj => by
      have hj' := get_take hj
      simp only [List.getElem?_drop] at hj'
      simp only [World.cell?, e1]
      simpa using hj') hr ha
  refine ⟨_, v, hv, hrun, hrr, ?_⟩
  rcases asR_form ha with ⟨d, rfl⟩ | ⟨l, rfl⟩
  · obtain ⟨q1, q2⟩ := hone d rfl
    simp only [tkR]
    have e4 := tkL_drop (n := off) e3
    cases hds : c.drop off with
    | nil => rw [hds] at q1; simp at q1
    | cons x xs =>
      cases hvs : arr.toList.drop off with
      | nil => rw [hvs] at q2; simp at q2
      | cons y ys =>
        rw [hds, hvs] at e4
        rw [hds] at q1
        rw [hvs] at q2
        simp only [tkL] at e4
        cases hn' : ti.size with
        | zero => rw [hn'] at q1; simp at q1
        | succ m =>
          rw [hn'] at q1 q2
          simp at q1 q2
          exact q1.1 ▸ q2.1 ▸ e4.1
  · simp only [tkR]
theorem q_index {o : Oper} {t n e size j : Nat} {agg : Bool} {gl : Option Ts} {zero : List D} {te : TI} {x i : Operand} {c ds : List D} {r : R} {k : IntKind} (hE : EnvOK E) (hop : o.op = .index t x i) (hf : ∀ b, w.heap.size ≤ b → γ.rd b = none)
    (ht : E.ti t = some ⟨.array n e, size, agg, gl, zero⟩) (hte : E.ti e = some te) {vs : Array Value} (hx : a.eval x = .agg vs) (hd : rdL w γ c vs.toList) (hi : a.eval i = .int k (j : Int)) (hj : j < n)
    (htk : takeD te.size (c.drop (j * te.size)) = some ds) (ha : asR te.agg ds = some r) : Quiet E.P o a γ dead C w (r.map D.strip) := by
  have h1 := (hE.ti _ _ ht).desc
  simp only at h1
  obtain ⟨hu, hnt⟩ := h1
  have hn := hnt te hte
  obtain ⟨info, hinfo, hsz, _⟩ := (hE.ti _ _ hte).info hn
  have e1 : (sizeOf e).run E.P w = .ok te.size w := by simp [sizeOf, typeInfo, hinfo, hsz]
  have e2 := isAgg_run (w := w) hE hte hn
  obtain ⟨h2, h3⟩ := takeD_some htk
  subst h3
  have hlen := rdL_length hd
  have hr := rdL_take (n := te.size) (rdL_drop' (n := j * te.size) hd)
  have hv : ∃ v, (part e vs (j * te.size)).run E.P w = .ok v w ∧ rdR w γ r v := by
    unfold asR at ha
    cases hag : te.agg with
    | true =>
      rw [hag] at ha e2
      simp only [Option.some.injEq] at ha
      subst ha
      refine ⟨.agg (vs.extract (j * te.size) (j * te.size + te.size)), by simp [part, e2, e1], ?_⟩
      simp only [rdR]
      refine ⟨_, rfl, (rdL_map nameOnly_strip).2 ?_⟩
      simpa [Array.toList_extract, List.extract_eq_take_drop] using hr
    | false =>
      rw [hag] at ha e2
      simp only at ha
      split at ha
      · rename_i d hd'
        cases ha
        rw [hd'] at hr
        obtain ⟨v, hv0, hrd⟩ := rdL_get (i := 0) hr rfl
        have hv1 : vs[j * te.size]? = some v := by
          simpa using get_take hv0
        exact ⟨v, by simp [part, e2, hv1], by simpa only [rdR] using hrd⟩
      · cases ha
  obtain ⟨v, hrun, hrr⟩ := hv
  refine .here hf (v := v) (by simp [execOp, hop, hx, hi, Instr.index, asIntOf, run_underlying hu, hj, e1, hrun]) ((rdR_map nameOnly_strip r v).2 hrr) (tkR_strip r v)
theorem Grow.alloc (hf : ∀ b, w.heap.size ≤ b → γ.rd b = none) (o : Obj) : Grow γ w (γ.drop dst) (w.alloc o) dst where
  below := (Below.refl _ _).alloc (Nat.le_refl _) o
  bx := rfl
  nb := rfl
  base := rfl
  rd := fun _ _ => rfl
  fresh := fun b hb => hf b (by simp at hb; omega)
  ow := fun k hk => by simp [Gh.drop, hk]
  new := fun h hh => by simp [Gh.drop] at hh
theorem sees_alloc (o : Obj) : Sees γ w (γ.drop dst) (w.alloc o) :=
  ⟨fun b i u h1 h2 => ⟨by rw [World.cell?_alloc_lt _ _ _ (cell_lt h2)]; exact h2, h1⟩⟩
theorem leaves_sound {r : R} {v : Value} (hl : r.lays = true) (h : rdR w γ r v) : rdL w γ r.leaves v.cells.toList := by
  cases r <;> simp only [R.lays, reduceCtorEq] at hl
  case one d =>
    simp only [rdR] at h
    have hs := rdD_scalar h
    have : v.cells = #[v] := by cases v <;> first | rfl | exact hs.elim
    rw [this]
    simp only [R.leaves, rdL]
    exact ⟨rdD_strip.2 h, trivial⟩
  case agg ds =>
    simp only [rdR] at h
    obtain ⟨vs, rfl, h⟩ := h
    simp only [R.leaves, Value.cells]
    exact (rdL_map nameOnly_strip).2 h
theorem rdC_new {ds : List D} {vs : Array Value} {ty : Nat} (hf : ∀ b, w.heap.size ≤ b → γ.rd b = none) (h : rdL w γ ds vs.toList) : rdC (w.alloc (.cells vs ty)) (γ.drop dst) ds w.heap.size 0 := by
  have key : ∀ (ds : List D) (l : List Value) (o : Nat), rdL w γ ds l → (∀ (j : Nat) v, l[j]? = some v → vs[o + j]? = some v) → rdC (w.alloc (.cells vs ty)) (γ.drop dst) ds w.heap.size o := by
    intro ds
    induction ds with
    | nil => intro l o _ _; simp [rdC]
    | cons d ds ih =>
      intro l o hl hj
      cases l with
      | nil => simp [rdL] at hl
      | cons v l =>
        simp only [rdL] at hl
        simp only [rdC]
        refine ⟨⟨v, ?_, ?_, rdD_mono (sees_alloc _) (fun _ _ h => h) d v hl.1⟩, ih l (o + 1) hl.2 fun j u hu => by have := hj (j + 1) u (by simpa using hu); rwa [show o + (j + 1) = o + 1 + j by omega] at this⟩
        · rw [World.cell?_alloc_new]
          simpa using hj 0 v (by simp)
        · simp [Gh.may, Gh.drop, hf w.heap.size (Nat.le_refl _)]
  exact key ds vs.toList 0 h fun j v hv => by simpa using hv
theorem q_boxConst {o : Oper} {ty ty' : Nat} {x : Operand} {r : R} {lk : Nat → Option R} (hop : o.op = .box ty x) (hf : ∀ b, w.heap.size ≤ b → γ.rd b = none) (hl : LkOK lk γ dead C a w) (h : evalO E ty' lk x = some r) (hr : r.lays = true) :
    Quiet P o a γ dead C w (.one (.cell r.leaves)) := by
  have h1 := leaves_sound hr (evalO_sound hl h).1
  refine .mk (v := .pointer (some ⟨w.heap.size, 0, none⟩)) (w' := w.alloc (.cells (a.eval x).cells ty)) (γ' := γ.drop (dstOf o)) (by simp [execOp, hop, Instr.box, newVar, newRow]) (Grow.alloc hf _) ?_ (by simp [tkR, tkD])
  simp only [rdR, rdD]
  exact ⟨_, _, rfl, rdC_new hf h1⟩
theorem q_allocConst {o : Oper} {ty : Nat} {ti : TI} (hE : EnvOK E) (hop : o.op = .alloc ty) (hf : ∀ b, w.heap.size ≤ b → γ.rd b = none) (ht : E.ti ty = some ti) (hn : ∀ ts, ti.d ≠ .tup ts) :
    Quiet E.P o a γ dead C w (.one (.cell ti.zero)) := by
  obtain ⟨info, hinfo, _, _, z, hz, _, hzero, _⟩ := (hE.ti _ _ ht).info hn
  refine .mk (v := .pointer (some ⟨w.heap.size, 0, none⟩)) (w' := w.alloc (.cells z.cells ty)) (γ' := γ.drop (dstOf o)) (by simp [execOp, hop, Instr.alloc, zeroValue, typeInfo, hinfo, hz, newVar, newRow]) (Grow.alloc hf _) ?_ (by simp [tkR, tkD])
  simp only [rdR, rdD]
  exact ⟨_, _, rfl, rdC_new hf (hzero w γ)⟩
end
end Go.V
namespace Go.V
open Go.RowKit
section
variable {E : Env} {P : Program} {γ : Gh} {dead : List Tok} {C : List Nat} {a : Act} {w : World} {dst : Nat}
theorem putAt_spec : ∀ {ds : List D} {off : Nat} {l ds' : List D}, putAt ds off l = some ds' →
    ds'.length = ds.length ∧ (l ≠ [] → off + l.length ≤ ds.length) ∧ ∀ p : Nat, ds'[p]? = if off ≤ p ∧ p < off + l.length then l[p - off]? else ds[p]?
  | ds, off, [], ds', h => by
    have : ds = ds' := by cases ds <;> simpa [putAt] using h
    subst this
    refine ⟨rfl, by simp, fun p => ?_⟩
    rw [if_neg (by simp only [List.length_nil]; omega)]
  | [], off, v :: l, ds', h => by simp [putAt] at h
  | d :: ds, 0, v :: l, ds', h => by
    simp only [putAt] at h
    split at h
    · rename_i q hq
      cases h
      obtain ⟨h1, h2, h3⟩ := putAt_spec hq
      refine ⟨by simp [h1], fun _ => ?_, fun p => ?_⟩
      · cases l with
        | nil => simp
        | cons _ _ => have := h2 (by simp); simp at this ⊢; omega
      · cases p with
        | zero => simp
        | succ p =>
          have := h3 p
          simp only [List.getElem?_cons_succ, this, List.length_cons]
          by_cases hp : p < l.length
          · rw [if_pos (by omega), if_pos (by omega)]; simp
          · rw [if_neg (by omega), if_neg (by omega)]
    · cases h
  | d :: ds, n + 1, v :: l, ds', h => by
    simp only [putAt] at h
    split at h
    · rename_i q hq
      cases h
      obtain ⟨h1, h2, h3⟩ := putAt_spec hq
      refine ⟨by simp [h1], fun _ => ?_, fun p => ?_⟩
      · have := h2 (by simp); simp at this ⊢; omega
      · cases p with
        | zero => rw [if_neg (by omega)]; simp
        | succ p =>
          have := h3 p
          simp only [List.getElem?_cons_succ, this]
          by_cases hp : n ≤ p ∧ p < n + (v :: l).length
          · rw [if_pos hp, if_pos (by omega), show p + 1 - (n + 1) = p - n by omega]
          · rw [if_neg hp, if_neg (by omega)]
    · cases h
def putV (off : Nat) (l : Array Value) (cells : Array Value) : Array Value := l.zipIdx.foldl (fun cs (c, j) => cs.setIfInBounds (off + j) c) cells
theorem putV_spec (off : Nat) (l cells : Array Value) (h : off + l.size ≤ cells.size) : (putV off l cells).size = cells.size ∧
    ∀ p : Nat, (putV off l cells)[p]? = if off ≤ p ∧ p < off + l.size then l[p - off]? else cells[p]? := by
  have key : ∀ (l : List Value) (k : Nat) (cells : Array Value), off + k + l.length ≤ cells.size →
      ((l.zipIdx k).foldl (fun (cs : Array Value) (x : Value × Nat) => cs.setIfInBounds (off + x.2) x.1) cells).size = cells.size ∧
      ∀ p : Nat, ((l.zipIdx k).foldl (fun (cs : Array Value) (x : Value × Nat) => cs.setIfInBounds (off + x.2) x.1) cells)[p]? = if off + k ≤ p ∧ p < off + k + l.length then l[p - (off + k)]? else cells[p]? := by
    intro l
    induction l with
    | nil =>
      intro k cells _
      refine ⟨rfl, fun p => ?_⟩
      rw [if_neg (by simp only [List.length_nil]; omega)]
      rfl
    | cons v l ih =>
      intro k cells hk
      simp only [List.length_cons] at hk
      obtain ⟨h1, h2⟩ := ih (k + 1) (cells.setIfInBounds (off + k) v) (by simp; omega)
      simp only [List.zipIdx_cons, List.foldl_cons]
      refine ⟨by rw [h1]; simp, fun p => ?_⟩
      rw [h2 p, Array.getElem?_setIfInBounds]
      simp only [List.length_cons]
      by_cases e1 : off + k = p
      · rw [if_neg (by omega), if_pos e1, if_pos (by omega), if_pos (by omega), ← e1]
        simp
      · by_cases e2 : off + (k + 1) ≤ p ∧ p < off + (k + 1) + l.length
        · rw [if_pos e2, if_pos (by omega), show p - (off + k) = p - (off + (k + 1)) + 1 by omega]
          simp
        · rw [if_neg e2, if_neg e1, if_neg (by omega)]
  have e : putV off l cells = (l.toList.zipIdx 0).foldl (fun (cs : Array Value) (x : Value × Nat) => cs.setIfInBounds (off + x.2) x.1) cells := by
    unfold putV
    rw [← Array.foldl_toList, Array.toList_zipIdx]
  rw [e]
  obtain ⟨h1, h2⟩ := key l.toList 0 cells (by simpa using h)
  exact ⟨h1, fun p => by simpa using h2 p⟩
def PartsOK (w : World) (γ : Gh) : List (Nat × R) → List (Nat × Value) → Prop
  | [], [] => True
  | (i, r) :: ps, (j, v) :: vs => i = j ∧ rdR w γ r v ∧ PartsOK w γ ps vs
  | _, _ => False
theorem fill_sound {pl : Nat → Option (Nat × Nat)} {place : Nat → Option (Nat × Nat)} (hpl : ∀ i x, pl i = some x → place i = some x) : ∀ {ps : List (Nat × R)} {vs : List (Nat × Value)} {ds ds' : List D} {cells : Array Value},
    PartsOK w γ ps vs → rdL w γ ds cells.toList → fillD pl ds ps = some ds' → ∃ cells', Instr.fill place cells vs = some cells' ∧ rdL w γ ds' cells'.toList
  | [], [], ds, ds', cells, _, hr, h => by
    simp only [fillD, Option.some.injEq] at h
    subst h
    exact ⟨cells, rfl, hr⟩
  | (i, r) :: ps, (j, v) :: vs, ds, ds', cells, hp, hr, h => by
    simp only [PartsOK] at hp
    obtain ⟨rfl, hrv, hp⟩ := hp
    simp only [fillD] at h
    cases hi : pl i with
    | none => rw [hi] at h; cases h
    | some x =>
      obtain ⟨off, n⟩ := x
      rw [hi] at h
      simp only at h
      cases hc : (r.lays && r.leaves.length.beq n && Nat.blt 0 n) with
      | false => rw [hc] at h; cases h
      | true =>
        rw [hc] at h
        simp only [cond_true] at h
        simp only [Bool.and_eq_true] at hc
        obtain ⟨⟨hl, hn⟩, h0⟩ := hc
        have hn := nbeq.1 hn
        have h0 := nblt.1 h0
        split at h
        · rename_i ds1 hput
          have hlv := leaves_sound hl hrv
          have hlen1 := rdL_length hlv
          have hlen2 := rdL_length hr
          obtain ⟨p1, p2, p3⟩ := putAt_spec hput
          have hvs : v.cells.size = n := by rw [← hn, hlen1]; simp
          have hfit : off + v.cells.size ≤ cells.size := by
            have h1 : r.leaves ≠ [] := fun e => by rw [e] at hn; simp at hn; omega
            have := p2 h1
            simp at hlen2
            omega
          obtain ⟨q1, q2⟩ := putV_spec off v.cells cells hfit
          have hr1 : rdL w γ ds1 (putV off v.cells cells).toList := by
            refine rdL_of_get (by rw [p1, hlen2]; simp [q1]) fun p d u hd hu => ?_
            rw [p3 p] at hd
            have hu' : (putV off v.cells cells)[p]? = some u := by simpa using hu
            rw [q2 p] at hu'
            have hcs : r.leaves.length = v.cells.size := by rw [hlen1]; simp
            by_cases hp : off ≤ p ∧ p < off + v.cells.size
            · rw [if_pos hp] at hu'
              rw [if_pos (by omega)] at hd
              obtain ⟨u', e1, e2⟩ := rdL_get hlv hd
              have : u' = u := by
                have e1' : v.cells[p - off]? = some u' := by simpa using e1
                rw [e1'] at hu'; cases hu'; rfl
              exact this ▸ e2
            · rw [if_neg hp] at hu'
              rw [if_neg (by omega)] at hd
              obtain ⟨u', e1, e2⟩ := rdL_get hr hd
              have : u' = u := by
                have e1' : cells[p]? = some u' := by simpa using e1
                rw [e1'] at hu'; cases hu'; rfl
              exact this ▸ e2
          obtain ⟨cells', e1, e2⟩ := fill_sound hpl hp hr1 h
          refine ⟨cells', ?_, e2⟩
          simp only [Instr.fill, hpl i _ hi]
          rw [if_neg (by simp only [hvs, ne_eq, not_true_eq_false, decide_false, Bool.false_or, decide_eq_true_eq]; omega)]
          exact e1
        · cases h
  | [], _ :: _, _, _, _, hp, _, _ => by simp only [PartsOK] at hp
  | _ :: _, [], _, _, _, hp, _, _ => by simp only [PartsOK] at hp
theorem parts_sound {lk : Nat → Option R} {ty : Nat} (hl : LkOK lk γ dead C a w) : ∀ {xs : List (Nat × Operand)} {ps : List (Nat × R)},
    mapO (fun p => match evalO E ty lk p.2 with | some r => some (p.1, r) | none => none) xs = some ps → PartsOK w γ ps (xs.map fun x => (x.1, a.eval x.2))
  | [], ps, h => by simp only [mapO, Option.some.injEq] at h; subst h; simp [PartsOK]
  | x :: xs, ps, h => by
    simp only [mapO] at h
    split at h
    · rename_i y hy
      split at h
      · rename_i ys hys
        cases h
        split at hy
        · rename_i r hr
          cases hy
          simp only [List.map_cons, PartsOK]
          exact ⟨trivial, (evalO_sound hl hr).1, parts_sound hl hys⟩
        · cases hy
      · cases h
    · cases h
theorem run_mapM {α β : Type} (f : α → Sem β) (g : α → β) : ∀ (xs : List α), (∀ x ∈ xs, (f x).run P w = .ok (g x) w) → (xs.mapM f).run P w = .ok (xs.map g) w
  | [], _ => by simp
  | x :: xs, h => by
    have ih := run_mapM f g xs fun y hy => h y (List.mem_cons_of_mem _ hy)
    simp [List.mapM_cons, h x (by simp), ih]
theorem q_build {o : Oper} {t fi di : Nat} {ti : TI} {parts : Array (Nat × Operand)} {ps : List (Nat × R)} {ds : List D} {lk : Nat → Option R} {ty : Nat} {pl : Nat → Option (Nat × Nat)} (hE : EnvOK E) (hop : o.op = .build t parts)
    (hf : ∀ b, w.heap.size ≤ b → γ.rd b = none) (hl : LkOK lk γ dead C a w) (ht : E.ti t = some ti) (hn : ∀ ts, ti.d ≠ .tup ts)
    (hps : mapO (fun p => match evalO E ty lk p.2 with | some r => some (p.1, r) | none => none) parts.toList = some ps) (hfl : fillD pl (zeroOf E fi di ti) ps = some ds)
    (hpl : (∃ fs, ti.d = .struct fs ∧ pl = fun i => match fs[i]? with
          | some (off, ft) => (match E.ti ft with
            | some tf => some (off, tf.size)
            | none => none)
          | none => none) ∨ (∃ n e te, ti.d = .array n e ∧ E.ti e = some te ∧ pl = fun i => some (i * te.size, te.size))) :
    Quiet E.P o a γ dead C w (.agg ds) := by
  obtain ⟨info, hinfo, _, _, z, hz, _, _, _, hzo⟩ := (hE.ti _ _ ht).info hn
  have hzero := (hzo fi di).1
  have hp := parts_sound hl hps
  have hdesc := (hE.ti _ _ ht).desc
  have e0 : (zeroValue t).run E.P w = .ok z w := by simp [zeroValue, typeInfo, hinfo, hz]
  have fin : ∀ place : Nat → Option (Nat × Nat), (∀ i x, pl i = some x → place i = some x) →
      (∀ cells, Instr.fill place z.cells (parts.toList.map fun x => (x.1, a.eval x.2)) = some cells → (Instr.build t (parts.map fun x => (x.1, a.eval x.2))).run E.P w = .ok (.agg cells) w) → Quiet E.P o a γ dead C w (.agg ds) := by
    intro place hpl hrun
    obtain ⟨cells, h1, h2⟩ := fill_sound hpl hp (hzero w γ) hfl
    refine .here hf (v := .agg cells) ?_ (by simp only [rdR]; exact ⟨_, rfl, h2⟩) (by simp [tkR])
    have := hrun cells h1
    simp [execOp, hop, this]
  rcases hpl with ⟨fs, hd, rfl⟩ | ⟨n, e, te, hd, hte, rfl⟩
  · rw [hd] at hdesc
    simp only at hdesc
    obtain ⟨fields, hu, hlen, hfs⟩ := hdesc
    have hall : ∀ f ∈ fields.toList, (do pure (f.offset, ← sizeOf f.type) : Sem (Nat × Nat)).run E.P w = .ok (f.offset, ((E.P.info? f.type).map (·.size)).getD 0) w := by
      intro f hf
      obtain ⟨i, hi, he⟩ := List.mem_iff_getElem.1 hf
      have hfi : fields[i]? = some f := by simp at hi; simp [← he, hi]
      have hlt : i < fs.length := by rw [hlen]; simpa using hi
      obtain ⟨f', h1, h2, h3, _, inf, h4, _⟩ := hfs i (fs[i]).1 (fs[i]).2 (by simp [hlt])
      rw [hfi] at h1
      cases h1
      rw [h3]
      simp [sizeOf, typeInfo, h4]
    have hrunM := run_mapM (P := E.P) (w := w) (fun f : Field => (do pure (f.offset, ← sizeOf f.type) : Sem (Nat × Nat))) (fun f => (f.offset, ((E.P.info? f.type).map (·.size)).getD 0)) fields.toList hall
    refine fin (fun i => (fields.map fun f => (f.offset, ((E.P.info? f.type).map (·.size)).getD 0))[i]?) (fun i x hx => ?_) (fun cells hc => ?_)
    · simp only at hx
      split at hx
      · rename_i off ft hi
        split at hx
        · rename_i tf htf
          cases hx
          obtain ⟨f, h1, h2, h3, h6, inf, h4, h5⟩ := hfs i off ft hi
          obtain ⟨inf', h7, h8, _⟩ := (hE.ti _ _ htf).info (h6 tf htf)
          simp [h1, h2, h3, h7, h8]
        · cases hx
      · cases hx
    · simp only [Instr.build, Sem.run_bind, e0, Result.andThen_ok, run_underlying hu, Array.mapM_eq_mapM_toList, Sem.run_map, hrunM, Array.toList_map]
      have e9 : (List.map (fun f : Field => (f.offset, ((E.P.info? f.type).map (·.size)).getD 0)) fields.toList).toArray = fields.map fun f => (f.offset, ((E.P.info? f.type).map (·.size)).getD 0) := by
        apply Array.ext'; simp
      rw [e9, hc]
      simp
  · rw [hd] at hdesc
    simp only at hdesc
    obtain ⟨hu, hnt⟩ := hdesc
    obtain ⟨inf, hinf, hsz, _⟩ := (hE.ti _ _ hte).info (hnt te hte)
    have e1 : (sizeOf e).run E.P w = .ok te.size w := by simp [sizeOf, typeInfo, hinf, hsz]
    refine fin (fun i => some (i * te.size, te.size)) (fun i x hx => hx) (fun cells hc => ?_)
    simp [Instr.build, e0, run_underlying hu, e1, hc]
end
end Go.V
