/- A region in the order of its text; calls that are handed boxes. -/
import Derived.Test.YtelfooangijedaaDraw3
import Derived.Laws.Cover3
namespace Go.V
open Go.RowKit
set_option linter.unusedVariables false

/-- how a call ends: it returns, and what was to be done with what it hands back is done -/
def EndsOK {α : Type} (k : R → Heap → Option α) (res : α) (γ : Gh) (w : World) (e : Ending) (w' : World) : Prop :=
  ∃ v r h' γ', e = .returned v ∧ k r h' = some res ∧ Ext γ w γ' w' ∧ HeapOK γ' h' [] [] w' ∧ OwOK γ' w' ∧ (∀ b, w'.heap.size ≤ b → γ'.rd b = none) ∧ γ'.base ≤ w'.heap.size ∧ rdR w' γ' r v ∧ tkR γ' [] [] r v
def EffOK (E : Env) (ce : CallE) : Prop := ∀ (α : Type) g args h k (res : α), ce α g args h k = some res → (∃ fn, E.P.funcs[g]? = some fn ∧ fn.body.isSome = true) ∧
  ∀ γ w vs, rdRs w γ args vs → tkRs γ [] [] args vs → HeapOK γ h [] [] w → OwOK γ w → (∀ b, w.heap.size ≤ b → γ.rd b = none) → γ.base ≤ w.heap.size → Calls E.P g vs.toArray w (EndsOK k res γ w)

section
variable {E : Env} {f : Nat} {cp : CallP} {ce : CallE} {γ : Gh} {C : List Nat} {a : Act} {w : World} {st st' : St} {ops : Array Oper}

theorem asCall_some {o : Oper} {g : Nat} {as : List R} (h : asCall E st o = some (g, as)) : ∃ c x caps args, o.op = .call c ∧ c.callee = .value x ∧ evalO E 0 (look st.regs) x = some (.one (.fn g caps)) ∧
    mapO (evalO E 0 (look st.regs)) c.args.toList = some args ∧ as = (args ++ caps.map R.one).map (R.map D.strip) := by
  unfold asCall at h
  split at h
  · rename_i c hop
    split at h
    · rename_i x hc
      split at h
      · rename_i g' caps args h1 h2
        cases hb : anyRef ((args ++ caps.map R.one).map (R.map D.strip)) with
        | true =>
          simp only [hb, cond_true, Option.some.injEq, Prod.mk.injEq] at h
          obtain ⟨rfl, rfl⟩ := h
          exact ⟨c, x, caps, args, hop, hc, h1, h2, rfl⟩
        | false => simp only [hb, cond_false, reduceCtorEq] at h
      · cases h
    · cases h
  · cases h
theorem tkL_noC {g : D → D} {γ' : Gh} {dead : List Tok} {C : List Nat} (hg : ∀ d v, tkD γ dead C d v → tkD γ' [] [] (g d) v) {ds : List D} {vs : List Value} (h : tkL γ dead C ds vs) : tkL γ' [] [] (ds.map g) vs := tkL_map hg h
theorem HeapOK.map {g : D → D} {h : Heap} {dead : List Tok} (hh : HeapOK γ h dead C w) (hn : NameOnly g) (hg : ∀ d v, tkD γ dead C d v → tkD γ [] [] (g d) v) : HeapOK γ (mapHeap g h) [] [] w := by
  refine ⟨mapHeap_length.trans hh.len, fun i ds b hi hb => ?_, hh.nodup⟩
  obtain ⟨es, hes, rfl⟩ := mapHeap_get hi
  rcases hh.box i es b hes hb with ⟨⟨arr, ty, e1, e2, e3⟩, e4, e5⟩ | ⟨g1, g2⟩
  case inr => exact .inr ⟨by rw [g1]; rfl, g2⟩
  exact .inl ⟨⟨arr, ty, e1, (rdL_map hn).2 e2, tkL_map hg e3⟩, e4, e5⟩
theorem tk_onlyH {dead : List Tok} {d : D} {v : Value} (h : tkD γ dead C d v) : tkD γ [] [] ((d.kill dead).onlyH) v := by
  cases d <;> try (simp only [D.kill, D.onlyH, D.strip, tkD]; done)
  case ow e xs k =>
    simp only [tkD] at h
    simp only [D.kill]
    cases hk : tokIn k dead with
    | true => simp only [cond_true, D.onlyH, D.strip, tkD]
    | false =>
      rw [hk] at h
      cases k <;> simp only [cond_false, D.onlyH, D.strip, tkD]
      exact ⟨h.1.imp (fun x => by cases x) id, fun t ht => by cases ht⟩
theorem nameOnly_killH (dead : List Tok) : NameOnly (fun d => (d.kill dead).onlyH) := fun d => (nameOnly_onlyH _).trans (nameOnly_kill dead d)

theorem call_sound {o : Oper} {g : Nat} {as : List R} {α : Type} {k : St → Option α} {res : α} {next : Act → World → Prop} {Q : Exit → Act → World → Prop} (hE : EnvOK E) (hce : EffOK E ce) (h : Sim γ st C a w) (ha : asCall E st o = some (g, as))
    (hr : ce α g as (mapHeap (fun d => (d.kill st.dead).onlyH) st.heap) (fun r h => match St.put { st with regs := mapRegs D.strip st.regs, heap := mapHeap D.onlyH h, dead := [] } o.dst (r.map D.strip) with
          | some st => k st
          | none => none) = some res)
    (hK : ∀ v γ' st' w', Ext γ w γ' w' → Sim γ' st' C (a.put o.dst v) w' → k st' = some res → next (a.put o.dst v) w') : o.wp E.P a w next Q := by
  obtain ⟨c, x, caps, args, hop, hc, hx, hargs, rfl⟩ := asCall_some ha
  have hl : LkOK (look st.regs) γ st.dead C a w := h.regs
  have h1 := evalO_one hl hx
  simp only [rdD] at h1
  obtain ⟨vs, hv, hcaps⟩ := h1
  obtain ⟨⟨fn, hfn, hb⟩, hcall⟩ := hce α g _ _ _ res hr
  unfold Oper.wp
  rw [run_call hE hop hc hv hfn hb]
  simp only [Oper.upon]
  have hrd : rdRs w γ ((args ++ caps.map R.one).map (R.map D.strip)) (c.args.toList.map a.eval ++ vs.toList) := rdRs_strip (rdRs_append (rdRs_of_args hl hargs) (rdRs_of_caps hcaps))
  have := hcall γ w _ hrd (by
    have e : (args ++ caps.map R.one).map (R.map D.strip) = R.mapL D.strip (args ++ caps.map R.one) := by
      generalize args ++ caps.map R.one = l
      induction l with
      | nil => simp only [List.map_nil, R.mapL]
      | cons x l ih => simp only [List.map_cons, R.mapL, ih]
    rw [e]
    exact tkRs_strip _ _) (h.heap.map (nameOnly_killH _) fun d v hd => tk_onlyH hd) h.own h.fresh h.base
  have e : (c.args.toList.map a.eval ++ vs.toList).toArray = c.args.map a.eval ++ vs := by apply Array.ext'; simp
  rw [e] at this
  refine this.mono fun e w' ⟨v, r, h', γ', he, hk, hext, hh, ho, hf, hbase, hrr, htr⟩ => ?_
  subst he
  dsimp only at hk ⊢
  split at hk
  · rename_i st2 hp
    refine hK v γ' st2 w' hext ?_ hk
    have hs : Sim γ' { st with regs := mapRegs D.strip st.regs, heap := mapHeap D.onlyH h', dead := [] } C a w' := by
      refine ⟨h.dfr, h.sz, fun s q hq => ?_, ?_, ho, hf, hbase⟩
      · obtain ⟨q', hq', rfl⟩ := look_mapRegs hq
        exact ⟨(rdR_map nameOnly_strip q' _).2 (rdR_mono hext.sees hext.bx q' _ (h.regs s q' hq').1), tkR_strip q' _⟩
      · refine (hh.map (C := []) nameOnly_onlyH fun d v hd => ?_).more fun t ht => by cases ht
        have := tk_onlyH (dead := []) hd
        cases d <;> first | exact this | (simp only [D.kill, tokIn, cond_false] at this; exact this)
    exact Sim.put hs hp fun t ht => ⟨(rdR_map nameOnly_strip r v).2 hrr, tkR_strip r v⟩
  · cases hk

theorem nil_sound {o : Oper} {em b : Bool} (hE : EnvOK E) (h : Sim γ st C a w) (hn : asNil E st o = some (em, b)) : ∃ c : Bool, Quiet E.P o a γ st.dead C w (.one (.g .bool c)) ∧ (em = false → c = !b) := by
  have hlk : LkOK (look st.regs) γ st.dead C a w := h.regs
  have hf := h.fresh
  unfold asNil at hn
  split at hn
  · rename_i op t x yt hop
    split at hn
    · rename_i d hx
      split at hn
      · rename_i e xs has
        obtain ⟨hs, hn⟩ := bif_some hn
        obtain ⟨et, info, hun, hinfo, hsz, _⟩ := slOK_spec hE hs
        have h3 := asSl_sound has (evalO_one hlk hx)
        simp only [rdT] at h3
        obtain ⟨A, cp, hv, hle, hr⟩ := h3
        have hnil : a.eval (.const (.slice none 0 0)) = .slice none 0 0 := rfl
        have hne : xs.isEmpty = false → A.isNone = false := fun hem => by
          cases xs with
          | nil => simp at hem
          | cons y ys =>
            obtain ⟨b', o', hA, _⟩ := hr 0 (by simp)
            rw [hA]
            rfl
        split at hn
        · cases hn
          exact ⟨A.isNone, q_plain (v := .bool A.isNone) hf (by simp [execOp, hop, hv, hnil, eqGuard, binOp, run_equal_slice_nil w t et A xs.length cp hun]) (by simp [rdD, rdT]) rfl, fun hem => by rw [hne hem]; rfl⟩
        · cases hn
          exact ⟨!A.isNone, q_plain (v := .bool (!A.isNone)) hf (by simp [execOp, hop, hv, hnil, eqGuard, binOp, run_equal_slice_nil w t et A xs.length cp hun]) (by simp [rdD, rdT]) rfl, fun hem => by rw [hne hem]⟩
        · cases hn
      · cases hn
    · cases hn
  · cases hn
theorem both_some {α : Type} {x y : Option α} {r : α} (h : both x y = some r) : x = some r ∧ y = some r := by
  unfold both at h
  split at h
  · rename_i e
    exact ⟨h, e ▸ h⟩
  · cases h
theorem opsE_sound {α : Type} {k : St → Option α} {res : α} {Q : Exit → Act → World → Prop} (hE : EnvOK E) (hcp : PureOK E cp) (hce : EffOK E ce) (hd : distinctDst ops.toList = true) :
    ∀ (os : List Oper) (j : Nat) {γ : Gh} {st : St} {C : List Nat} {a : Act} {w : World}, (∀ m, os[m]? = ops[j + m]?) → (∀ (m : Nat) o, os[m]? = some o → dstOf o ∉ C) → Sim γ st C a w → opsE E f cp ce ops.toList os st k = some res →
    (∀ γ' st' C' a' w', Ext γ w γ' w' → Sim γ' st' C' a' w' → k st' = some res → Q .normal a' w') → wpOps E.P ops Q (List.range' j os.length) a w
  | [], j, γ, st, C, a, w, _, _, hs, h, hQ => hQ γ st C a w (Ext.refl γ w) hs h
  | o :: os, j, γ, st, C, a, w, hm, hfree, hs, h, hQ => by
    have ho : ops[j]? = some o := by simpa using (hm 0).symm
    have ho' : ops.toList[j]? = some o := by simpa using ho
    have hm' : ∀ m, os[m]? = ops[j + 1 + m]? := fun m => by have := hm (m + 1); rw [show j + 1 + m = j + (m + 1) by omega, ← this]; simp
    have hC := hfree 0 o rfl
    have hnew : ∀ (m : Nat) o', os[m]? = some o' → dstOf o' ∉ addC o.dst C := fun m o' hm1 => by
      have h1 := hfree (m + 1) o' (by simpa using hm1)
      cases hdo : o.dst with
      | none => exact h1
      | some t =>
        simp only [addC, List.mem_cons, not_or]
        refine ⟨distinct_ne hd ho' (j := j + 1 + m) (y := o') ?_ (by omega) hdo, h1⟩
        have := hm' m
        rw [hm1] at this
        simpa using this.symm
    rw [List.length_cons, List.range'_succ, wpOps_cons]
    simp only [opsE] at h
    obtain ⟨st0, q, h | h⟩ := guardK_some h
    · obtain ⟨hg, h⟩ := h
      have hs0 := hs.eqv q.symm
      cases hca : asCall E st0 o with
      | some p =>
        obtain ⟨g, as⟩ := p
        rw [hca] at h
        simp only at h
        unfold wpOp
        rw [ho]
        simp only
        rw [wanted_of hs hg, if_pos rfl]
        left
        refine call_sound (k := fun st => opsE E f cp ce ops.toList os st k) hE hce hs0 hca h fun v γ' st1 w' hext hsim hk => ?_
        have hsim' : Sim γ' st1 (addC o.dst C) (a.put o.dst v) w' := hsim.more fun t ht => by
          cases hd : o.dst with
          | none => exact ht
          | some u => exact List.mem_cons_of_mem _ ht
        exact opsE_sound hE hcp hce hd os (j + 1) hm' hnew hsim' hk fun γ2 st2 C2 a2 w2 he2 hs2 hk2 => hQ γ2 st2 C2 a2 w2 (hext.trans he2) hs2 hk2
      | none =>
        rw [hca] at h
        simp only at h
        cases hni : asNil E st0 o with
        | some p =>
        obtain ⟨em, b⟩ := p
        rw [hni] at h
        simp only at h
        obtain ⟨c, hq, hc⟩ := nil_sound hE hs0 hni
        have hK : (match St.put st0 o.dst (.one (.g .bool c)) with
            | some st => opsE E f cp ce ops.toList os st k
            | none => none) = some res := by
          cases em with
          | false =>
            simp only [cond_false] at h
            rw [hc rfl]
            exact h
          | true =>
            simp only [cond_true] at h
            obtain ⟨b1, b2⟩ := both_some h
            cases c
            · exact b2
            · exact b1
        split at hK
        · rename_i s1 hs1
          unfold wpOp
          rw [ho]
          simp only
          rw [wanted_of hs hg, if_pos rfl]
          left
          exact Goes.quiet hs0 hC hq hs1 _ _ fun v γ' w' hext hsim => opsE_sound hE hcp hce hd os (j + 1) hm' hnew hsim hK fun γ2 st2 C2 a2 w2 he2 hs2 hk2 => hQ γ2 st2 C2 a2 w2 (hext.trans he2) hs2 hk2
        · cases hK
        | none =>
        rw [hni] at h
        simp only at h
        rw [effK_bind] at h
        obtain ⟨e, he, h⟩ := Option.bind_eq_some_iff.1 h
        split at h
        · rename_i s1 hs1
          obtain ⟨hc, rfl⟩ := app_iff.1 hs1
          refine step_sound (E := E) (f := f) hE hcp ho hs0 hC (st' := doit o.dst e st0) (fp := e.fp st0.heap.length) ⟨e, ?_, rfl, hc, Eqv.refl _⟩ fun v γ' w' hext hsim => ?_
          · unfold evalS; rw [q.look, hg, ← q.look]; exact he
          · exact opsE_sound hE hcp hce hd os (j + 1) hm' hnew hsim h fun γ2 st2 C2 a2 w2 he2 hs2 hk2 => hQ γ2 st2 C2 a2 w2 (hext.trans he2) hs2 hk2
        · cases h
    · obtain ⟨hg, h⟩ := h
      have hs0 := hs.eqv q.symm
      split at h
      · rename_i s1 hs1
        have hs1' : st0.app o.dst { r := .skip } = some s1 := hs1
        obtain ⟨hc, rfl⟩ := app_iff.1 hs1'
        refine step_sound (E := E) (f := f) hE hcp ho hs0 hC (st' := doit o.dst { r := .skip } st0) (fp := Eff.fp st0.heap.length { r := .skip }) ⟨{ r := .skip }, ?_, rfl, hc, Eqv.refl _⟩ fun v γ' w' hext hsim => ?_
        · unfold evalS; rw [q.look, hg]
        · exact opsE_sound hE hcp hce hd os (j + 1) hm' hnew hsim h fun γ2 st2 C2 a2 w2 he2 hs2 hk2 => hQ γ2 st2 C2 a2 w2 (hext.trans he2) hs2 hk2
      · cases h
theorem region_sound {α : Type} {id : Nat} {draw : Bool} {k : St → Option α} {res : α} {Q : Exit → Act → World → Prop} (hE : EnvOK E) (hcp : PureOK E cp) (hce : EffOK E ce)
    (h : regionK E f cp ce id ops.toList draw st k = some res) (hs : Sim γ st [] a w)
    (hQ : ∀ γ' st1 a' w', Ext γ w γ' w' → Sim γ' st1 [] a' w' → st1.dead = [] → k st1 = some res → Q .normal a' w') : (Code.region id ops draw).wp E.P Q a w := by
  unfold regionK at h
  cases hd : distinctDst ops.toList with
  | false => rw [hd] at h; cases h
  | true =>
    rw [hd] at h
    simp only [cond_true] at h
    cases draw with
    | true => exact draw_sound hE hcp hE.mixed hd h hs hQ
    | false =>
      simp only [cond_false] at h
      refine wp_region ?_
      have hlen : ops.size = ops.toList.length := by simp
      rw [List.range_eq_range', hlen]
      refine opsE_sound hE hcp hce hd ops.toList 0 (fun m => by simp) (fun _ _ _ => by simp) hs h fun γ' st' C' a' w' hext hsim hk => ?_
      obtain ⟨γ2, hn, hsim2, hdd⟩ := hsim.norm (E := E) (f := f) id
      exact hQ γ2 _ a' w' (hext.trans (hn.ext w')) hsim2 hdd hk
end
end Go.V
