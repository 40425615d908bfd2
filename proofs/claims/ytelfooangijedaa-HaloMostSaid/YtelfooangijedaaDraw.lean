/- Operations that may run in any order. -/
import Derived.Test.YtelfooangijedaaReg
import Derived.Orders
namespace Go.V
open Go.RowKit
set_option linter.unusedVariables false
set_option linter.unusedSimpArgs false

/-! ### States that look alike -/
structure Eqv (st st' : St) : Prop where
  regs : ∀ s, look st.regs s = look st'.regs s
  heap : st.heap = st'.heap
  dead : st.dead = st'.dead
  nt : st.nt = st'.nt
theorem Eqv.refl (st : St) : Eqv st st := ⟨fun _ => rfl, rfl, rfl, rfl⟩
theorem Eqv.symm {a b : St} (h : Eqv a b) : Eqv b a := ⟨fun s => (h.regs s).symm, h.heap.symm, h.dead.symm, h.nt.symm⟩
theorem Eqv.trans {a b c : St} (h : Eqv a b) (k : Eqv b c) : Eqv a c := ⟨fun s => (h.regs s).trans (k.regs s), h.heap.trans k.heap, h.dead.trans k.dead, h.nt.trans k.nt⟩
theorem Eqv.look {a b : St} (h : Eqv a b) : look a.regs = look b.regs := funext h.regs
theorem Sim.eqv {γ : Gh} {st st' : St} {C : List Nat} {a : Act} {w : World} (h : Sim γ st C a w) (e : Eqv st st') : Sim γ st' C a w := by
  obtain ⟨h1, h2, h3, h4, h5, h6, h7⟩ := h
  refine ⟨h1, h2.trans e.nt, fun s r hr => ?_, e.dead ▸ e.heap ▸ h4, h5, h6, h7⟩
  have := h3 s r ((e.regs s).trans hr)
  rw [e.dead] at this
  exact this

section
variable {E : Env} {f : Nat} {cp : CallP}

/-! ### What an operation looks at -/
theorem evalO_congr {lk lk' : Nat → Option R} {x : Operand} {ty : Nat} (h : ∀ t, x = .tmp t → lk t = lk' t) : evalO E ty lk x = evalO E ty lk' x := by
  cases x <;> try rfl
  exact h _ rfl
theorem mapO_congr {α β : Type} {g g' : α → Option β} : ∀ {l : List α}, (∀ x ∈ l, g x = g' x) → mapO g l = mapO g' l
  | [], _ => rfl
  | x :: l, h => by
    simp only [mapO]
    rw [h x (by simp), mapO_congr fun y hy => h y (by simp [hy])]
theorem effK_lk {o : Oper} {lk lk' : Nat → Option R} {hp : Heap} (h : ∀ x ∈ o.op.operands.toList, ∀ t, x = .tmp t → lk t = lk' t) :
    effK E f cp o lk hp some = effK E f cp o lk' hp some := by
  have hx : ∀ x ∈ o.op.operands.toList, ∀ ty, evalO E ty lk x = evalO E ty lk' x := fun x hx ty => evalO_congr (h x hx)
  unfold effK
  cases ho : o.op <;> simp only [ho, Op.operands] at hx
  case move x => have h1 := hx x (by simp); cases x <;> first | (simp only [h1]; done) | (split <;> first | rfl | (split <;> first | rfl | simp_all))
  case assign x => have h1 := hx x (by simp); cases x <;> first | (simp only [h1]; done) | (split <;> first | rfl | (split <;> first | rfl | simp_all))
  case pick c a b => simp only [hx c (by simp), hx a (by simp), hx b (by simp)]
  case binOp op xt x y yt => simp only [hx x (by simp), hx y (by simp)]
  case unOp op t x => simp only [hx x (by simp)]
  case convert s d x => simp only [hx x (by simp)]
  case box t x => simp only [hx x (by simp)]
  case nilCheck x => simp only [hx x (by simp)]
  case fieldAddr s x i => simp only [hx x (by simp)]
  case indexAddr t x i => simp only [hx x (by simp), hx i (by simp)]
  case index t x i => simp only [hx x (by simp), hx i (by simp)]
  case load t x => simp only [hx x (by simp)]
  case store t x v => simp only [hx x (by simp), hx v (by simp)]
  case extract x i => simp only [hx x (by simp)]
  case build t ps =>
    dsimp only
    rw [mapO_congr (l := ps.toList) fun p hp => by rw [hx p.2 (by simp; exact ⟨p.1, by simpa using hp⟩)]]
  case buildSlice t n ps =>
    dsimp only
    split
    · rw [mapO_congr (l := ps.toList) fun p hp => by rw [hx p.2 (by simp; exact ⟨p.1, by simpa using hp⟩)]]
    · rfl
  case makeFunc fn first caps =>
    dsimp only
    split
    · rw [mapO_congr (l := caps.toList) fun p hp => by rw [hx p (by simp; exact .inr (by simpa using hp))]]
    · rfl
  case slice t x lo hi mx =>
    have hlo : effK.sliceLo lo lk E = effK.sliceLo lo lk' E := by
      unfold effK.sliceLo
      cases lo with
      | none => rfl
      | some l => simp only [hx l (by simp)]
    have hhi : ∀ n, effK.sliceHi n hi lk E = effK.sliceHi n hi lk' E := fun n => by
      unfold effK.sliceHi
      cases hi with
      | none => rfl
      | some l => simp only [hx l (by simp)]
    cases mx with
    | none => simp only [hx x (by simp), hlo, hhi]
    | some m => simp only [hx x (by simp), hlo, hhi, hx m (by simp)]
  case call c =>
    have ha : mapO (evalO E 0 lk) c.args.toList = mapO (evalO E 0 lk') c.args.toList := mapO_congr fun p hp => hx p (by simp [Call.operands]; exact .inr (by simpa using hp)) 0
    dsimp only
    rw [ha]
    cases hc : c.callee with
    | value g =>
      dsimp only
      rw [hx g (by simp [Call.operands, hc])]
    | invoke r m => rfl
    | builtin b => rfl
  all_goals rfl
theorem effK_heap {o : Oper} {lk : Nat → Option R} {h h' : Heap} {e : Eff} (he : effK E f cp o lk h some = some e) (hr : ∀ b ∈ e.rd, h'[b]? = h[b]?) (hp : e.push.isSome = true → h'.length = h.length) :
    effK E f cp o lk h' some = some e := by
  unfold effK at he ⊢
  cases ho : o.op <;> simp only [ho] at he ⊢ <;> try exact he
  case box ty v =>
    split at he
    · rename_i r hv
      cases hl : r.lays with
      | true =>
        simp only [hl, cond_true] at he ⊢
        cases hm : mem (dstOf o) ((look E.cbox f).getD []) with
        | true => simp only [hm, cond_true] at he ⊢; exact he
        | false =>
          simp only [hm, cond_false, Option.some.injEq] at he ⊢
          subst he
          rw [hp rfl]
      | false => simp only [hl, cond_false, reduceCtorEq] at he
    · cases he
  case alloc ty =>
    split at he
    · rename_i ti hv
      cases hl : ti.d.nt with
      | true =>
        simp only [hl, cond_true] at he ⊢
        cases hm : mem (dstOf o) ((look E.cbox f).getD []) with
        | true => simp only [hm, cond_true] at he ⊢; exact he
        | false =>
          simp only [hm, cond_false, Option.some.injEq] at he ⊢
          subst he
          rw [hp rfl]
      | false => simp only [hl, cond_false, reduceCtorEq] at he
    · cases he
  case load t x =>
    split at he
    · exact he
    · rename_i b off ti h1 h2
      cases hl : (ti.d.nt && Nat.blt 0 ti.size) with
      | true =>
        simp only [hl, cond_true] at he ⊢
        split at he
        · rename_i c hc
          split at he
          · rename_i ds hds
            split at he
            · rename_i r hr'
              cases he
              rw [hr b (by simp), hc]
              simp only [hds, hr']
            · cases he
          · cases he
        · cases he
      | false => simp only [hl, cond_false, reduceCtorEq] at he
    · cases he
  case store t x v =>
    split at he
    · rename_i b off r ti h1 h2 h3
      split at he
      · rename_i c hc
        cases hl : (r.lays && r.cellsD.length.beq ti.size && Nat.blt 0 ti.size && ti.d.nt) with
        | true =>
          simp only [hl, cond_true] at he
          split at he
          · rename_i c' hc'
            cases he
            rw [hr b (by simp), hc]
            simp only [hl, cond_true, hc']
          · cases he
        | false => simp only [hl, cond_false, reduceCtorEq] at he
      · cases he
    · cases he
  case slice t x lo hi mx =>
    cases hx : evalO E 0 lk x with
    | none => simp only [hx, reduceCtorEq] at he
    | some r =>
      simp only [hx] at he ⊢
      cases r with
      | one d =>
        cases d with
        | ref bi off =>
          cases off with
          | zero =>
            split at he
            · rename_i b0 heq
              cases heq
              split at he
              · rename_i n et _ _ _ _ c ht hc
                split at he
                · rename_i sz _ ts _ hte
                  split at he
                  · rename_i xs l u hch h1 h2
                    obtain ⟨q, he⟩ := bif_some he
                    obtain ⟨q1, he⟩ := bif_some he
                    obtain ⟨q2, he⟩ := bif_some he
                    obtain ⟨q3, he⟩ := bif_some he
                    cases he
                    rw [hr bi (by simp), hc]
                    simp only [ht, hte, hch, h1, h2, q, q1, q2, q3, cond_true]
                  · cases he
                · cases he
              · cases he
            · rename_i hne heq
              cases heq
              exact absurd rfl (hne bi)
            · rename_i hne
              exact absurd rfl (hne (.ref bi 0))
          | succ n => exact he
        | _ => exact he
      | _ => exact he

/-! ### Guards -/
def guardV (all : List Oper) (o : Oper) (lk : Nat → Option R) : Option Bool := match o.guard with
  | none => some true
  | some (i, v) => match (all[i]?).bind (·.dst) with
    | none => none
    | some t => match lk t with
      | some (.one (.g .bool b)) => some (b == v)
      | some .skip => some false
      | _ => none
theorem setR_same {st : St} {t : Nat} {r : R} (h : look st.regs t = some r) : Eqv { st with regs := setR st.regs t r } st := by
  refine ⟨fun s => ?_, rfl, rfl, rfl⟩
  simp only [look_setR]
  by_cases e : s = t
  · subst e; simp [h]
  · simp [e]
theorem guardK_some {α : Type} {all : List Oper} {o : Oper} {st : St} {yes no : St → Option α} {res : α} (h : guardK all o st yes no = some res) :
    ∃ st0, Eqv st0 st ∧ ((guardV all o (look st.regs) = some true ∧ yes st0 = some res) ∨ (guardV all o (look st.regs) = some false ∧ no st0 = some res)) := by
  unfold guardK at h
  unfold guardV
  split at h
  · rename_i hg; exact ⟨st, Eqv.refl st, .inl ⟨by simp [hg], h⟩⟩
  · rename_i i v hg
    simp only [hg]
    split at h
    · cases h
    · rename_i t ht
      simp only [ht]
      split at h
      · rename_i b hb
        simp only [hb]
        cases b <;> cases v <;> simp only [cond_true, cond_false] at h
        · exact ⟨_, setR_same hb, .inl ⟨rfl, h⟩⟩
        · exact ⟨_, setR_same hb, .inr ⟨rfl, h⟩⟩
        · exact ⟨_, setR_same hb, .inr ⟨rfl, h⟩⟩
        · exact ⟨_, setR_same hb, .inl ⟨rfl, h⟩⟩
      · rename_i hb
        simp only [hb]
        exact ⟨st, Eqv.refl st, .inr ⟨by simp, h⟩⟩
      · cases h

/-! ### One operation, as a step from state to state -/
def evalS (E : Env) (f : Nat) (cp : CallP) (all : List Oper) (o : Oper) (lk : Nat → Option R) (h : Heap) : Option Eff := match guardV all o lk with
  | some true => effK E f cp o lk h some
  | some false => some { r := .skip }
  | none => none
def updH (e : Eff) (h : Heap) : Heap := match e.die with
  | some _ => h
  | none => match e.wr, e.push with
    | some (b, c), none => setAt h b c
    | none, some ds => h ++ [ds]
    | _, _ => h
def updD (e : Eff) (d : List Tok) : List Tok := match e.die with
  | some k => k :: d
  | none => d
def doit (dst : Option Nat) (e : Eff) (st : St) : St := ⟨match dst with
  | some t => setR st.regs t e.r
  | none => st.regs, updH e st.heap, updD e st.dead, st.nt⟩
structure Can (dst : Option Nat) (e : Eff) (st : St) : Prop where
  slot : ∀ t, dst = some t → t < st.nt
  die : ∀ k, e.die = some k → tokIn k st.dead = false
  one : e.die = none → e.wr = none ∨ e.push = none
theorem put_iff {st st' : St} {dst : Option Nat} {r : R} : st.put dst r = some st' ↔ (∀ t, dst = some t → t < st.nt) ∧ st' = ⟨match dst with | some t => setR st.regs t r | none => st.regs, st.heap, st.dead, st.nt⟩ := by
  cases dst with
  | none => simp only [St.put, Option.some.injEq, reduceCtorEq, false_implies, implies_true, true_and]; exact eq_comm
  | some t =>
    simp only [St.put]
    cases hb : Nat.blt t st.nt with
    | true => have := nblt.1 hb; simp [this, eq_comm]
    | false =>
      have : ¬ t < st.nt := fun h => by rw [nblt.2 h] at hb; cases hb
      simp [this]
theorem app_iff {st st' : St} {dst : Option Nat} {e : Eff} : st.app dst e = some st' ↔ Can dst e st ∧ st' = doit dst e st := by
  obtain ⟨r, wr, push, die, rd⟩ := e
  cases die with
  | some k =>
    simp only [St.app]
    cases hk : tokIn k st.dead with
    | true => 
      simp only [cond_true, reduceCtorEq, false_iff]
      rintro ⟨h, _⟩
      have := h.die k rfl
      rw [hk] at this; cases this
    | false =>
      simp only [cond_false, put_iff]
      constructor
      · rintro ⟨h1, h2⟩
        exact ⟨⟨h1, fun k' hk' => by cases hk'; exact hk, fun h => by cases h⟩, h2⟩
      · rintro ⟨h1, h2⟩
        exact ⟨h1.slot, h2⟩
  | none =>
    cases wr with
    | some p =>
      obtain ⟨b, c⟩ := p
      cases push with
      | some ds =>
        simp only [St.app, reduceCtorEq, false_iff]
        rintro ⟨h, _⟩
        rcases h.one rfl with h | h <;> cases h
      | none =>
        simp only [St.app, put_iff]
        constructor
        · rintro ⟨h1, h2⟩
          exact ⟨⟨h1, fun k' hk' => (by cases hk'), fun _ => .inr rfl⟩, h2⟩
        · rintro ⟨h1, h2⟩
          exact ⟨h1.slot, h2⟩
    | none =>
      cases push with
      | some ds =>
        simp only [St.app, put_iff]
        constructor
        · rintro ⟨h1, h2⟩
          exact ⟨⟨h1, fun k' hk' => (by cases hk'), fun _ => .inl rfl⟩, h2⟩
        · rintro ⟨h1, h2⟩
          exact ⟨h1.slot, h2⟩
      | none =>
        simp only [St.app, put_iff]
        constructor
        · rintro ⟨h1, h2⟩
          exact ⟨⟨h1, fun k' hk' => (by cases hk'), fun _ => .inl rfl⟩, h2⟩
        · rintro ⟨h1, h2⟩
          exact ⟨h1.slot, h2⟩
theorem mem_iff {t : Nat} : ∀ {l : List Nat}, mem t l = true ↔ t ∈ l
  | [] => by simp [mem]
  | s :: l => by simp only [mem, Bool.or_eq_true, nbeq, mem_iff (l := l), List.mem_cons]; constructor <;> (rintro (h | h); exact .inl h.symm; exact .inr h)
theorem mem_no {t : Nat} {l : List Nat} : mem t l = false ↔ t ∉ l := by rw [← mem_iff]; simp
theorem meets_no {b : List Nat} : ∀ {a : List Nat}, meets a b = false ↔ ∀ x ∈ a, x ∉ b
  | [] => by simp [meets]
  | s :: l => by simp only [meets, Bool.or_eq_false_iff, mem_no, meets_no (a := l), List.mem_cons, forall_eq_or_imp]

theorem setAt_append {ds c : List D} : ∀ {h : Heap} {b : Nat}, b ≠ h.length → setAt (h ++ [ds]) b c = setAt h b c ++ [ds]
  | [], 0, hb => absurd rfl hb
  | [], b + 1, _ => rfl
  | x :: h, 0, _ => rfl
  | x :: h, b + 1, hb => by simp only [List.cons_append, setAt, setAt_append (h := h) (b := b) (by simpa using hb)]
theorem setAt_comm {c c' : List D} : ∀ {h : Heap} {b b' : Nat}, b ≠ b' → setAt (setAt h b c) b' c' = setAt (setAt h b' c') b c
  | [], _, _, _ => rfl
  | x :: h, 0, 0, hb => absurd rfl hb
  | x :: h, 0, b' + 1, _ => rfl
  | x :: h, b + 1, 0, _ => rfl
  | x :: h, b + 1, b' + 1, hb => by simp only [setAt, setAt_comm (h := h) (b := b) (b' := b') (by simpa using hb)]
theorem updH_get {e : Eff} {h : Heap} {b : Nat} (hb : b ∉ (e.fp h.length).wr) : (updH e h)[b]? = h[b]? := by
  unfold updH
  cases hd : e.die with
  | some _ => rfl
  | none =>
    cases hw : e.wr with
    | some p =>
      obtain ⟨b', c⟩ := p
      cases hp : e.push with
      | some ds => rfl
      | none =>
        simp only [Eff.fp, hw, hp, List.mem_singleton] at hb
        simp only [setAt_spec.2, hb, false_and, if_false]
    | none =>
      cases hp : e.push with
      | some ds =>
        simp only [Eff.fp, hw, hp, List.mem_singleton] at hb
        simp only
        rcases Nat.lt_or_ge b h.length with h1 | h1
        · rw [List.getElem?_append_left h1]
        · rw [List.getElem?_eq_none h1, List.getElem?_eq_none (by simp; omega)]
      | none => rfl
theorem updH_len {e : Eff} {h : Heap} (hp : e.push.isSome = false) : (updH e h).length = h.length := by
  unfold updH
  cases hd : e.die with
  | some _ => rfl
  | none =>
    cases hw : e.wr with
    | some p =>
      cases hp' : e.push with
      | some ds => rfl
      | none => exact setAt_spec.1
    | none =>
      cases hp' : e.push with
      | some ds => rw [hp'] at hp; cases hp
      | none => rfl
theorem updH_comm {a b : Eff} {h : Heap} (hw : ∀ x ∈ (a.fp h.length).wr, x ∉ (b.fp h.length).wr) (hp : a.push.isSome = false ∨ b.push.isSome = false) : updH b (updH a h) = updH a (updH b h) := by
  obtain ⟨_, wa, pa, da, _⟩ := a
  obtain ⟨_, wb, pb, db, _⟩ := b
  cases da <;> cases db <;> try rfl
  rcases wa with _ | ⟨ba, ca⟩ <;> rcases wb with _ | ⟨bb, cb⟩ <;> rcases pa with _ | qa <;> rcases pb with _ | qb <;> try rfl
  · simp at hp
  · simp only [Eff.fp, List.mem_singleton, forall_eq] at hw
    simp only [updH]
    exact setAt_append (Ne.symm hw)
  · simp only [Eff.fp, List.mem_singleton, forall_eq] at hw
    simp only [updH]
    exact (setAt_append hw).symm
  · simp only [Eff.fp, List.mem_singleton, forall_eq] at hw
    simp only [updH]
    exact setAt_comm hw
end
end Go.V
