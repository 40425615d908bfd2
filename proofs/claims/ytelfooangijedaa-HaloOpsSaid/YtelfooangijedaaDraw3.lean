/- A region whose order is drawn: every order comes to the state that the order of the text comes to. -/
import Derived.Test.YtelfooangijedaaDraw2
namespace Go.V
open Go.RowKit
set_option linter.unusedVariables false
section
variable {E : Env} {f : Nat} {cp : CallP} {γ : Gh} {C : List Nat} {a : Act} {w : World} {st st' : St} {ops : Array Oper}

/-! ### One operation in the machine -/
theorem wanted_of {o : Oper} {b : Bool} (h : Sim γ st C a w) (hg : guardV ops.toList o (look st.regs) = some b) : Region.wanted o (yielded ops a.tmps) = b := by
  unfold guardV at hg
  unfold Region.wanted
  split at hg
  · rename_i e
    simp only [e]
    cases hg; rfl
  · rename_i i v e
    simp only [e]
    split at hg
    · cases hg
    · rename_i t ht
      have ht' : (ops[i]?).bind (·.dst) = some t := by simpa using ht
      unfold yielded
      rw [ht']
      simp only [Option.bind_some]
      split at hg
      · rename_i c hc
        have := (h.regs t _ hc).1
        simp only [rdR, rdD, rdT] at this
        have hx : a.tmps[t]? = some (.bool c) := by
          rw [Array.getD_eq_getD_getElem?] at this
          cases hx : a.tmps[t]? with
          | none => rw [hx] at this; cases this
          | some u => rw [hx] at this; simp at this; rw [this]
        rw [hx]
        cases hg
        rfl
      · rename_i hc
        have := (h.regs t _ hc).1
        simp only [rdR] at this
        cases hg
        rw [Array.getD_eq_getD_getElem?] at this
        cases hx : a.tmps[t]? with
        | none => rfl
        | some u => rw [hx] at this; simp at this; rw [this]; rfl
      · cases hg
theorem step_sound {o : Oper} {i : Nat} {fp : Fp} {K : Act → World → Prop} {Q : Exit → Act → World → Prop} (hE : EnvOK E) (hcp : PureOK E cp) (hi : ops[i]? = some o) (h : Sim γ st C a w) (hC : dstOf o ∉ C)
    (hs : Step E f cp ops.toList o st st' fp) (hK : ∀ v γ' w', Ext γ w γ' w' → Sim γ' st' (addC o.dst C) (a.put o.dst v) w' → K (a.put o.dst v) w') : wpOp E.P ops Q i K a w := by
  obtain ⟨e, h1, h2, h3, h4⟩ := hs
  unfold wpOp
  rw [hi]
  simp only
  unfold evalS at h1
  split at h1
  · rename_i hg
    rw [wanted_of h hg, if_pos rfl]
    left
    exact eff_sound hE hcp h hC h1 (app_iff.2 ⟨h3, rfl⟩) K Q fun v γ' w' he hs => hK v γ' w' he (hs.eqv h4)
  · rename_i hg
    rw [wanted_of h hg]
    simp only [Bool.false_eq_true, if_false]
    cases h1
    refine hK Go.undef γ w (Ext.refl γ w) ?_
    have hp : st.put o.dst .skip = some (doit o.dst { r := .skip } st) := app_iff.2 ⟨h3, rfl⟩
    refine Sim.eqv (Sim.put (h.more fun t ht => ?_) hp fun t ht => ⟨by simp only [rdR], by simp only [tkR]⟩) h4
    cases hd : o.dst with
    | none => exact ht
    | some u => exact List.mem_cons_of_mem _ ht
  · cases h1

/-! ### What the check says -/
theorem edgesBack_spec : ∀ {os : List Oper} {i : Nat}, edgesBack i os = true → ∀ (m : Nat) o, os[m]? = some o → ∀ e ∈ o.after, Region.binds .any e = true → e.on < i + m
  | [], i, _, m, o, ho => by simp at ho
  | x :: os, i, h, m, o, ho => by
    simp only [edgesBack, Bool.and_eq_true, List.all_eq_true] at h
    cases m with
    | zero =>
      simp at ho
      subst ho
      intro e he hb
      have := h.1 e (by simpa using he)
      simp only [hb, Bool.not_true, Bool.false_or, nblt] at this
      exact this
    | succ m =>
      intro e he hb
      have := edgesBack_spec h.2 m o (by simpa using ho) e he hb
      omega
theorem closure_keep : ∀ {os : List Oper} {d : List Nat} {j : Nat} {p : Nat}, d[j]? = some p → (closure os d)[j]? = some p
  | [], d, j, p, h => h
  | o :: os, d, j, p, h => by
    simp only [closure]
    refine closure_keep ?_
    rw [List.getElem?_append_left (List.getElem?_eq_some_iff.1 h).1]
    exact h
theorem closure_at : ∀ {os : List Oper} {d : List Nat} {m : Nat} {o : Oper}, os[m]? = some o → ∃ d', (closure os d)[d.length + m]? = some (predsOf o d') ∧ ∀ (j : Nat) q, d'[j]? = some q → (closure os d)[j]? = some q
  | [], d, m, o, h => by simp at h
  | x :: os, d, 0, o, h => by
    simp at h
    subst h
    simp only [closure]
    refine ⟨d, closure_keep ?_, fun j q hq => closure_keep ?_⟩
    · rw [List.getElem?_append_right (by omega)]; simp
    · rw [List.getElem?_append_left (List.getElem?_eq_some_iff.1 hq).1]; exact hq
  | x :: os, d, m + 1, o, h => by
    simp only [closure]
    obtain ⟨d', h1, h2⟩ := closure_at (d := d ++ [predsOf x d]) (m := m) (o := o) (os := os) (by simpa using h)
    refine ⟨d', ?_, h2⟩
    rw [show d.length + (m + 1) = (d ++ [predsOf x d]).length + m by simp; omega]
    exact h1
theorem preds_bit {o : Oper} {d : List Nat} {x : Nat} (h : (predsOf o d).testBit x = true) : ∃ e ∈ o.after, Region.binds .any e = true ∧ (x = e.on ∨ ∃ q, d[e.on]? = some q ∧ q.testBit x = true) := by
  unfold predsOf at h
  have key : ∀ (l : List Edge), (l.foldr (fun e acc => bif Region.binds .any e then acc ||| (2 ^ e.on) ||| (d[e.on]?).getD 0 else acc) 0).testBit x = true → ∃ e ∈ l, Region.binds .any e = true ∧ (x = e.on ∨ ∃ q, d[e.on]? = some q ∧ q.testBit x = true) := by
    intro l
    induction l with
    | nil => intro h; simp at h
    | cons e l ih =>
      intro h
      simp only [List.foldr_cons] at h
      cases hb : Region.binds .any e with
      | false =>
        rw [hb] at h
        obtain ⟨e', h1, h2⟩ := ih h
        exact ⟨e', List.mem_cons_of_mem _ h1, h2⟩
      | true =>
        rw [hb] at h
        simp only [cond_true, Nat.testBit_or, Bool.or_eq_true] at h
        rcases h with (h | h) | h
        · obtain ⟨e', h1, h2⟩ := ih h
          exact ⟨e', List.mem_cons_of_mem _ h1, h2⟩
        · refine ⟨e, by simp, hb, .inl ?_⟩
          rw [Nat.testBit_two_pow] at h
          simpa using (of_decide_eq_true h).symm
        · refine ⟨e, by simp, hb, .inr ?_⟩
          cases hd : d[e.on]? with
          | none => rw [hd] at h; simp at h
          | some q => rw [hd] at h; exact ⟨q, rfl, h⟩
  obtain ⟨e, h1, h2⟩ := key _ h
  exact ⟨e, by simpa using h1, h2⟩
theorem apartFrom_spec {all : List Oper} {i : Nat} {A : Oper} {fa : Fp} : ∀ {os : List Oper} {fs : List Fp} {ps : List Nat}, apartFrom all i A fa os fs ps = true → ∀ (m : Nat) fm, fs[m]? = some fm →
    ∃ o p, os[m]? = some o ∧ ps[m]? = some p ∧ (p.testBit i = true ∨ (slotApart all A o = true ∧ fa.apart fm = true))
  | [], [], [], _, m, fm, h => by simp at h
  | b :: os, fb :: fs, p :: ps, h, m, fm, hm => by
    simp only [apartFrom, Bool.and_eq_true, Bool.or_eq_true] at h
    cases m with
    | zero =>
      simp at hm
      subst hm
      exact ⟨b, p, rfl, rfl, h.1⟩
    | succ m =>
      obtain ⟨o, q, h1, h2, h3⟩ := apartFrom_spec h.2 m fm (by simpa using hm)
      exact ⟨o, q, by simpa using h1, by simpa using h2, h3⟩
  | [], [], _ :: _, h, _, _, _ => by simp [apartFrom] at h
  | [], _ :: _, _, h, _, _, _ => by simp [apartFrom] at h
  | _ :: _, [], _, h, _, _, _ => by simp [apartFrom] at h
  | _ :: _, _ :: _, [], h, _, _, _ => by simp [apartFrom] at h
theorem apartAll_spec {all : List Oper} : ∀ {os : List Oper} {fs : List Fp} {ps : List Nat} {j : Nat}, apartAll all j os fs ps = true → ∀ (m n : Nat) fm fn, m < n → fs[m]? = some fm → fs[n]? = some fn →
    ∃ om on pn, os[m]? = some om ∧ os[n]? = some on ∧ ps[n]? = some pn ∧ (pn.testBit (j + m) = true ∨ (slotApart all om on = true ∧ fm.apart fn = true))
  | a :: os, fa :: fs, p :: ps, j, h, m, n, fm, fn, hmn, hm, hn => by
    simp only [apartAll, Bool.and_eq_true] at h
    cases n with
    | zero => omega
    | succ n =>
      cases m with
      | zero =>
        simp at hm
        subst hm
        obtain ⟨o, q, h1, h2, h3⟩ := apartFrom_spec h.1 n fn (by simpa using hn)
        exact ⟨a, o, q, rfl, by simpa using h1, by simpa using h2, by simpa using h3⟩
      | succ m =>
        obtain ⟨om, on, pn, h1, h2, h3, h4⟩ := apartAll_spec h.2 m n fm fn (by omega) (by simpa using hm) (by simpa using hn)
        exact ⟨om, on, pn, by simpa using h1, by simpa using h2, by simpa using h3, by rwa [show j + (m + 1) = j + 1 + m by omega]⟩
  | [], [], [], _, _, m, n, fm, fn, _, hm, _ => by simp at hm
  | [], [], _ :: _, _, h, _, _, _, _, _, _, _ => by simp [apartAll] at h
  | [], _ :: _, _, _, h, _, _, _, _, _, _, _ => by simp [apartAll] at h
  | _ :: _, [], _, _, h, _, _, _, _, _, _, _ => by simp [apartAll] at h
  | _ :: _, _ :: _, [], _, h, _, _, _, _, _, _, _ => by simp [apartAll] at h
theorem noDst_spec {t : Nat} : ∀ {os : List Oper}, noDst t os = true → ∀ o ∈ os, o.dst ≠ some t
  | [], _, o, ho => by cases ho
  | x :: os, h, o, ho => by
    simp only [noDst, Bool.and_eq_true] at h
    rcases List.mem_cons.1 ho with rfl | ho
    · intro e
      rw [e] at h
      simp at h
    · exact noDst_spec h.2 o ho
theorem distinct_spec : ∀ {os : List Oper}, distinctDst os = true → (∀ o ∈ os, ∀ t, o.dst = some t → t < 1000000) ∧ os.Pairwise fun x y => ∀ t, x.dst = some t → y.dst ≠ some t
  | [], _ => ⟨fun o ho => (by cases ho), List.Pairwise.nil⟩
  | x :: os, h => by
    simp only [distinctDst, Bool.and_eq_true] at h
    obtain ⟨h1, h2⟩ := distinct_spec h.2
    refine ⟨fun o ho t ht => ?_, List.Pairwise.cons (fun y hy t ht => ?_) h2⟩
    · rcases List.mem_cons.1 ho with rfl | ho
      · rw [ht] at h
        simp only [Bool.and_eq_true, nblt] at h
        exact h.1.1
      · exact h1 o ho t ht
    · rw [ht] at h
      simp only [Bool.and_eq_true] at h
      exact noDst_spec h.1.2 y hy
theorem distinct_ne {os : List Oper} (h : distinctDst os = true) {i j : Nat} {x y : Oper} (hi : os[i]? = some x) (hj : os[j]? = some y) (hij : i ≠ j) {t : Nat} (ht : x.dst = some t) : dstOf y ≠ t := by
  obtain ⟨h1, h2⟩ := distinct_spec h
  have hlt := h1 x (List.mem_of_getElem? hi) t ht
  cases hd : y.dst with
  | none => simp only [dstOf, hd, Option.getD_none]; exact (Nat.ne_of_lt hlt).symm
  | some u =>
    rw [dstOf_some hd]
    rintro rfl
    have key : ∀ {i j : Nat} {x y : Oper}, os[i]? = some x → os[j]? = some y → i < j → ∀ t, x.dst = some t → y.dst ≠ some t := fun {i j x y} hi hj hlt => by
      obtain ⟨a1, a2⟩ := List.getElem?_eq_some_iff.1 hi
      obtain ⟨b1, b2⟩ := List.getElem?_eq_some_iff.1 hj
      have := List.pairwise_iff_getElem.1 h2 i j a1 b1 hlt
      rw [a2, b2] at this
      exact this
    rcases Nat.lt_or_gt_of_ne hij with hlt | hlt
    · exact key hi hj hlt u ht hd
    · exact key hj hi hlt u hd ht

/-! ### Every order -/
structure Rest (ops : Array Oper) (fs : List Fp) (R : List (Nat × Fp)) (listed : Array Bool) (C : List Nat) : Prop where
  size : listed.size = ops.size
  sorted : R.Pairwise fun x y => x.1 < y.1
  fps : ∀ x ∈ R, fs[x.1]? = some x.2
  un : ∀ x ∈ R, listed.getD x.1 true = false
  all : ∀ (j : Nat) o, ops[j]? = some o → listed.getD j true = false → ∃ x ∈ R, x.1 = j
  down : ∀ j, listed.getD j false = true → ∀ q, (closure ops.toList [])[j]? = some q → ∀ x, q.testBit x = true → listed.getD x false = true
  free : ∀ x ∈ R, ∀ o, ops[x.1]? = some o → dstOf o ∉ C
theorem getD_set {l : Array Bool} {i j : Nat} {d : Bool} (hi : i < l.size) : (l.setIfInBounds i true).getD j d = if j = i then true else l.getD j d := by
  simp only [Array.getD_eq_getD_getElem?, Array.getElem?_setIfInBounds]
  by_cases h : i = j
  · subst h; simp [hi]
  · simp [h, Ne.symm h]
theorem any_sound {fs : List Fp} {Q : Exit → Act → World → Prop} (hE : EnvOK E) (hcp : PureOK E cp) (hd : distinctDst ops.toList = true) (hok : drawOk ops.toList fs = true) :
    ∀ (fuel : Nat) (R : List (Nat × Fp)) (listed : Array Bool) {γ : Gh} {st : St} {C : List Nat} {a : Act} {w : World}, R.length = fuel → Rest ops fs R listed C → RunL E f cp ops.toList R st st' → Sim γ st C a w →
    (∀ γ' C' a' w', Ext γ w γ' w' → Sim γ' st' C' a' w' → Q .normal a' w') → wpAny E.P .any ops Q fuel listed a w := by
  simp only [drawOk, Bool.and_eq_true] at hok
  intro fuel
  induction fuel with
  | zero =>
    intro R listed γ st C a w hl hR hrun hs hQ
    obtain rfl := List.length_eq_zero_iff.1 hl
    refine ⟨?_, hQ γ C a w (Ext.refl γ w) (hs.eqv hrun)⟩
    apply List.eq_nil_iff_forall_not_mem.2
    intro j hj
    obtain ⟨h1, o, ho, _⟩ := mem_ready.1 hj
    obtain ⟨x, hx, _⟩ := hR.all j o ho h1
    cases hx
  | succ fuel ih =>
    intro R listed γ st C a w hl hR hrun hs hQ
    refine ⟨fun hno => ?_, fun i hi => ?_⟩
    · exfalso
      match R, hl with
      | (i, fi) :: R, _ =>
        obtain ⟨o, s, h1, h2, h3⟩ := hrun
        have ho : ops[i]? = some o := by simpa using h1
        have : i ∈ Region.ready .any ops listed := by
          refine mem_ready.2 ⟨hR.un (i, fi) (by simp), o, ho, fun e he hb => ?_⟩
          have hlt := edgesBack_spec hok.1 i o h1 e he hb
          rw [Nat.zero_add] at hlt
          have hin : i < ops.size := (Array.getElem?_eq_some_iff.1 ho).1
          cases hx : listed.getD e.on false with
          | true => rfl
          | false =>
            exfalso
            have hx' : listed.getD e.on true = false := by
              rw [Array.getD_eq_getD_getElem?] at hx ⊢
              have : e.on < listed.size := by rw [hR.size]; omega
              simp [this] at hx ⊢
              exact hx
            obtain ⟨y, hy, hye⟩ := hR.all e.on ops[e.on] (by simp) hx'
            rcases List.mem_cons.1 hy with rfl | hy
            · simp only at hye; omega
            · have := (List.pairwise_cons.1 hR.sorted).1 y hy
              simp only at this
              omega
        rw [hno] at this
        cases this
    · obtain ⟨hu, o, ho, hedges⟩ := mem_ready.1 hi
      obtain ⟨⟨i', fi⟩, hxR, rfl⟩ := hR.all i o ho hu
      simp only at hu ho hedges hi ⊢
      have ho' : ops.toList[i']? = some o := by simpa using ho
      have hin : i' < listed.size := by rw [hR.size]; exact (Array.getElem?_eq_some_iff.1 ho).1
      obtain ⟨l1, l2, rfl⟩ := List.append_of_mem hxR
      have hpre : ∀ q, (closure ops.toList [])[i']? = some q → ∀ x, q.testBit x = true → listed.getD x false = true := by
        intro q hq x hx
        obtain ⟨d', c1, c2⟩ := closure_at (d := []) ho'
        simp only [List.length_nil, Nat.zero_add] at c1
        rw [hq] at c1
        cases c1
        obtain ⟨e, he, hb, hxe⟩ := preds_bit hx
        have hl := hedges e he hb
        rcases hxe with rfl | ⟨q', hd', hx'⟩
        · exact hl
        · exact hR.down e.on hl q' (c2 _ _ hd') x hx'
      obtain ⟨s, hst, hrest⟩ := RunL.front ho' hrun fun x hx ox hox => by
        have hlt : x.1 < i' := (List.pairwise_append.1 hR.sorted).2.2 x hx (i', fi) (by simp)
        obtain ⟨om, on, pn, e1, e2, e3, e4⟩ := apartAll_spec hok.2 x.1 i' x.2 fi hlt (hR.fps x (by simp [hx])) (hR.fps (i', fi) (by simp))
        rw [hox] at e1
        rw [ho'] at e2
        cases e1
        cases e2
        rcases e4 with e4 | e4
        · exfalso
          rw [Nat.zero_add] at e4
          have h1 := hpre pn e3 x.1 e4
          have h2 := hR.un x (by simp [hx])
          rw [Array.getD_eq_getD_getElem?] at h1 h2
          cases hx' : listed[x.1]? with
          | none => rw [hx'] at h2; cases h2
          | some b => rw [hx'] at h1 h2; simp at h1 h2; rw [h1] at h2; cases h2
        · exact e4
      refine step_sound hE hcp ho hs (hR.free (i', fi) (by simp) o ho) hst fun v γ' w' hext hsim => ?_
      have hsub : (l1 ++ l2).Sublist (l1 ++ (i', fi) :: l2) := List.Sublist.append_left (List.sublist_cons_self _ _) _
      have hne : ∀ x ∈ l1 ++ l2, x.1 ≠ i' := fun x hx e => by
        have hp := List.pairwise_append.1 hR.sorted
        rcases List.mem_append.1 hx with hx | hx
        · have := hp.2.2 x hx (i', fi) (by simp); simp only at this; omega
        · have := (List.pairwise_cons.1 hp.2.1).1 x hx; simp only at this; omega
      refine ih (l1 ++ l2) _ (by simp at hl ⊢; omega) ⟨by simp [hR.size], hR.sorted.sublist hsub, fun x hx => hR.fps x (hsub.subset hx), fun x hx => ?_, fun j oj hj hun => ?_, fun j hj q hq x hx => ?_, fun x hx ox hox => ?_⟩ hrest hsim
        fun γ2 C2 a2 w2 hext2 hsim2 => hQ γ2 C2 a2 w2 (hext.trans hext2) hsim2
      · rw [getD_set hin, if_neg (hne x hx)]; exact hR.un x (hsub.subset hx)
      · rw [getD_set hin] at hun
        by_cases hji : j = i'
        · rw [if_pos hji] at hun; cases hun
        · rw [if_neg hji] at hun
          obtain ⟨x, hx, hxj⟩ := hR.all j oj hj hun
          refine ⟨x, ?_, hxj⟩
          rcases List.mem_append.1 hx with hx | hx
          · simp [hx]
          · rcases List.mem_cons.1 hx with rfl | hx
            · exact absurd hxj.symm hji
            · simp [hx]
      · rw [getD_set hin] at hj ⊢
        by_cases hji : j = i'
        · subst hji
          rw [hpre q hq x hx]
          simp
        · rw [if_neg hji] at hj
          rw [hR.down j hj q hq x hx]
          simp
      · have h1 := hR.free x (hsub.subset hx) ox hox
        cases hdo : o.dst with
        | none => exact h1
        | some t =>
          simp only [addC, List.mem_cons, not_or]
          exact ⟨distinct_ne hd ho' (by simpa using hox) (Ne.symm (hne x hx)) hdo, h1⟩
theorem Sim.drew (h : Sim γ st C a w) : Sim γ st C a { w with drawn := w.drawn + 1 } := by
  have hs : Sees γ w γ { w with drawn := w.drawn + 1 } := ⟨fun _ _ _ h1 h2 => ⟨h2, h1⟩⟩
  refine ⟨h.dfr, h.sz, fun s r hr => ⟨rdR_mono hs (fun _ _ h => h) r _ (h.regs s r hr).1, (h.regs s r hr).2⟩, ⟨h.heap.len, fun i ds b hi hb => ?_, h.heap.nodup⟩, ⟨fun k hd hk => h.own.own k hd hk, h.own.inj⟩, h.fresh, h.base⟩
  rcases h.heap.box i ds b hi hb with ⟨⟨arr, ty, e1, e2, e3⟩, e4, e5⟩ | g
  case inr => exact .inr g
  exact .inl ⟨⟨arr, ty, e1, rdL_mono hs (fun _ _ h => h) _ _ e2, e3⟩, e4, e5⟩
theorem Ext.drew (γ : Gh) (w : World) : Ext γ w γ { w with drawn := w.drawn + 1 } :=
  ⟨fun _ _ h => h, rfl, Nat.le_refl _, fun _ _ _ h1 h2 => ⟨h2, h1⟩, ⟨rfl, rfl, rfl, Nat.le_refl _, fun _ _ => rfl⟩, fun _ _ => rfl⟩
theorem draw_sound {α : Type} {id : Nat} {k : St → Option α} {res : α} {Q : Exit → Act → World → Prop} (hE : EnvOK E) (hcp : PureOK E cp) (hm : E.P.follows .mixedOrders = true) (hd : distinctDst ops.toList = true)
    (h : opsK E f cp ops.toList ops.toList st [] (fun st fs => bif drawOk ops.toList fs.reverse then k (st.norm E f id) else none) = some res) (hs : Sim γ st [] a w)
    (hQ : ∀ γ' st1 a' w', Ext γ w γ' w' → Sim γ' st1 [] a' w' → st1.dead = [] → k st1 = some res → Q .normal a' w') : (Code.region id ops true).wp E.P Q a w := by
  obtain ⟨fl, st', h1, h2, h3⟩ := opsK_run (all := ops.toList) (j := 0) (fun m => by rw [Nat.zero_add]) h
  simp only [List.append_nil, List.reverse_reverse] at h3
  cases hok : drawOk ops.toList fl with
  | false => rw [hok] at h3; cases h3
  | true =>
    rw [hok] at h3
    simp only [cond_true] at h3
    refine wp_region_any hm ?_
    refine any_sound hE hcp hd hok ops.size (ixs 0 fl) _ (by rw [ixs_length, h1]; simp) ⟨by simp, ixs_sorted, fun x hx => ?_, fun x hx => ?_, fun j o hj _ => ?_, fun j hj => ?_, fun x _ o _ => by simp⟩ h2 hs.drew fun γ' C' a' w' hext hsim => ?_
    · simpa using (mem_ixs (j := x.1) (x := x.2) hx).2
    · have := (mem_ixs (j := x.1) (x := x.2) hx).2
      have := (List.getElem?_eq_some_iff.1 this).1
      have hlt : x.1 < ops.size := by simp at h1; omega
      rw [Array.getD_eq_getD_getElem?]
      simp [hlt]
    · have hlt := (Array.getElem?_eq_some_iff.1 hj).1
      have hlt' : j < fl.length := by simp at h1; omega
      exact ⟨(j, fl[j]), by simpa using ixs_mem (i := 0) (j := j) (l := fl) (x := fl[j]) (by simp), rfl⟩
    · rw [Array.getD_eq_getD_getElem?] at hj
      rcases Nat.lt_or_ge j ops.size with hlt | hlt
      · simp [hlt] at hj
      · simp [Nat.not_lt.2 hlt] at hj
    · obtain ⟨γ2, hn, hsim2, hdd⟩ := hsim.norm (E := E) (f := f) id
      exact hQ γ2 _ a' w' (((Ext.drew γ w).trans hext).trans (hn.ext w')) hsim2 hdd h3
end
end Go.V
