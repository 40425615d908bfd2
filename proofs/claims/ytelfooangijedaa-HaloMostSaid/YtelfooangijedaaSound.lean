/- Calls; what a call that only computes hands back; the evaluator is sound. -/
import Derived.Test.YtelfooangijedaaRun
import Derived.Laws.Sem
namespace Go.V
open Go.RowKit
set_option linter.unusedVariables false

section
variable {E : Env} {f : Nat} {cp : CallP} {ce : CallE} {γ : Gh} {C : List Nat} {a : Act} {w : World} {st st' : St} {ops : Array Oper}

/-! ### What is handed back -/
def resRun (tmps : Array Value) : ResultVar → Sem Value
  | .tmp t => pure (tmps.getD t Go.undef)
  | .cell a t => do loadVar t (← asAddr (tmps.getD a Go.undef))
inductive ResAll (tmps : Array Value) (P : Program) (w : World) : List ResultVar → List Value → Prop where
  | nil : ResAll tmps P w [] []
  | cons {x : ResultVar} {v : Value} {l : List ResultVar} {vs : List Value} : (resRun tmps x).run P w = .ok v w → ResAll tmps P w l vs → ResAll tmps P w (x :: l) (v :: vs)
theorem mapM_run {tmps : Array Value} {P : Program} {w : World} : ∀ {l : List ResultVar} {vs : List Value}, ResAll tmps P w l vs → (l.mapM (resRun tmps)).run P w = .ok vs w
  | [], [], .nil => by simp
  | x :: l, v :: vs, .cons h1 h2 => by
    rw [List.mapM_cons]
    simp only [Sem.run_bind, h1, Result.andThen_ok, mapM_run h2, Sem.run_pure]
theorem results_run {fn : Func} {vs : List Value} {tmps : Array Value} {P : Program} {w : World} (h : ResAll tmps P w fn.results.toList vs) :
    (results fn tmps).run P w = .ok (if h : vs.length = 1 then vs[0]'(by omega) else .tuple vs.toArray) w := by
  unfold results
  rw [Array.mapM_eq_mapM_toList]
  have e : (fun x : ResultVar => (match x with
      | .tmp t => pure (tmps.getD t Go.undef)
      | .cell a t => do loadVar t (← asAddr (tmps.getD a Go.undef)) : Sem Value)) = resRun tmps := by
    funext x
    cases x <;> rfl
  have h2 := mapM_run h
  change Sem.run P (do
    let vs ← List.toArray <$> List.mapM (resRun tmps) fn.results.toList
    pure (if h : vs.size = 1 then vs[0] else Value.tuple vs)) w = _
  simp only [map_eq_pure_bind, bind_assoc, pure_bind, Sem.run_bind, h2, Result.andThen_ok, Sem.run_pure]
  by_cases hl : vs.length = 1
  · simp [hl]
  · simp [hl]
theorem init_look : ∀ {l : List R} {i s : Nat} {r : R}, look (initRegs i l) s = some r → i ≤ s ∧ l[s - i]? = some r
  | [], i, s, r, h => by simp [initRegs, look] at h
  | q :: l, i, s, r, h => by
    simp only [initRegs, look] at h
    cases hb : Nat.beq i s with
    | true =>
      obtain rfl := nbeq.1 hb
      rw [hb] at h
      cases h
      simp
    | false =>
      rw [hb] at h
      obtain ⟨h1, h2⟩ := init_look (i := i + 1) h
      refine ⟨by omega, ?_⟩
      rw [show s - i = (s - (i + 1)) + 1 by omega]
      simpa using h2
theorem rdRs_get' : ∀ {rs : List R} {vs : List Value} {i : Nat} {r : R}, rdRs w γ rs vs → rs[i]? = some r → ∃ v, vs[i]? = some v ∧ rdR w γ r v
  | r :: rs, v :: vs, 0, q, h, hi => by
    simp only [rdRs] at h
    simp at hi
    exact ⟨v, rfl, hi ▸ h.1⟩
  | r :: rs, v :: vs, i + 1, q, h, hi => by
    simp only [rdRs] at h
    obtain ⟨u, h1, h2⟩ := rdRs_get' h.2 (i := i) (by simpa using hi)
    exact ⟨u, by simpa using h1, h2⟩
  | [], _, i, q, _, hi => by simp at hi
  | _ :: _, [], i, q, h, _ => by simp only [rdRs] at h
theorem rdRs_len : ∀ {rs : List R} {vs : List Value}, rdRs w γ rs vs → rs.length = vs.length
  | [], [], _ => rfl
  | r :: rs, v :: vs, h => by simp only [rdRs] at h; simp [rdRs_len h.2]
  | [], _ :: _, h => by simp only [rdRs] at h
  | _ :: _, [], h => by simp only [rdRs] at h
theorem resOne_sound {x : ResultVar} {r : R} (hE : EnvOK E) (h : Sim γ st C a w) (hr : resOne E st x = some r) : ∃ v, (resRun a.tmps x).run E.P w = .ok v w ∧ rdR w γ r v ∧ tkR γ st.dead C r v := by
  cases x with
  | tmp t =>
    obtain ⟨h1, h2⟩ := h.regs t r hr
    exact ⟨_, by simp [resRun], h1, h2⟩
  | cell t ty =>
    simp only [resOne] at hr
    split at hr
    · rename_i b off ti hx ht
      obtain ⟨hn, hr⟩ := bif_some hr
      simp only [Bool.and_eq_true] at hn
      split at hr
      · rename_i c hc
        split at hr
        · rename_i ds hds
          obtain ⟨h1, _⟩ := h.regs t _ hx
          simp only [rdR] at h1
          obtain ⟨ad, v, q1, q2, q3, q4⟩ := ref_load (C := C) hE ht (nt_spec hn.1) h.heap h1 hc hds hr (nblt.1 hn.2)
          exact ⟨v, by simp [resRun, q1, asAddr, q2], q3, q4⟩
        · cases hr
      · cases hr
    · cases hr
theorem resAll (hE : EnvOK E) : ∀ {rs : List ResultVar} {l : List R}, (Sim γ st C a w) → mapO (resOne E st) rs = some l →
    ∃ vs : List Value, ResAll a.tmps E.P w rs vs ∧ rdRs w γ l vs ∧ tkRs γ st.dead C l vs
  | [], l, h, hm => by
    simp only [mapO, Option.some.injEq] at hm
    subst hm
    exact ⟨[], .nil, by simp [rdRs], by simp [tkRs]⟩
  | x :: rs, l, h, hm => by
    simp only [mapO] at hm
    split at hm
    · rename_i y hy
      split at hm
      · rename_i ys hys
        cases hm
        obtain ⟨vs, e1, e2, e3⟩ := resAll hE h hys
        obtain ⟨v, r1, r2, r3⟩ := resOne_sound hE h hy
        exact ⟨v :: vs, .cons r1 e1, by simp only [rdRs]; exact ⟨r2, e2⟩, by simp only [tkRs]; exact ⟨r3, e3⟩⟩
      · cases hm
    · cases hm
theorem ResAll.length {tmps : Array Value} {P : Program} {w : World} : ∀ {l : List ResultVar} {vs : List Value}, ResAll tmps P w l vs → l.length = vs.length
  | _, _, .nil => rfl
  | _, _, .cons _ h => by simp [h.length]
theorem resR_sound {fn : Func} {r : R} (hE : EnvOK E) (h : Sim γ st C a w) (hr : resR E fn.results.toList st = some r) : ∃ v, (results fn a.tmps).run E.P w = .ok v w ∧ rdR w γ r v ∧ tkR γ st.dead C r v := by
  unfold resR at hr
  split at hr
  · rename_i x hx
    obtain ⟨v, r1, r2, r3⟩ := resOne_sound hE h hr
    have e : ResAll a.tmps E.P w fn.results.toList [v] := by rw [hx]; exact .cons r1 .nil
    exact ⟨v, by simpa using results_run e, r2, r3⟩
  · rename_i hne
    split at hr
    · rename_i l hl
      cases hr
      obtain ⟨vs, e1, e2, e3⟩ := resAll hE h hl
      have hlen := e1.length
      have hn1 : ¬ vs.length = 1 := fun hl1 => by
        rw [hl1] at hlen
        match hrs : fn.results.toList, hlen with
        | [x], _ => exact hne x hrs
      refine ⟨_, results_run e1, ?_, ?_⟩
      · rw [dif_neg hn1]
        simp only [rdR]
        exact ⟨_, rfl, by simpa using e2⟩
      · rw [dif_neg hn1]
        simp only [tkR]
        simpa using e3
    · cases hr
theorem callBody_sound (hE : EnvOK E) (hcp : PureOK E cp) (hce : EffOK E ce) : EffOK E (callBody E cp ce) := by
  intro α g args h k res hr
  unfold callBody at hr
  split at hr
  · rename_i fn hfn
    split at hr
    · rename_i c hc
      refine ⟨⟨fn, hfn, by simp [hc]⟩, fun γ w vs hrd htk hh ho hf hbase => ?_⟩
      cases hn : args.length.ble fn.ntmps with
      | false => rw [hn] at hr; cases hr
      | true =>
        rw [hn] at hr
        simp only [cond_true] at hr
        have hn' := Nat.le_of_ble_eq_true hn
        have hlen := rdRs_len hrd
        refine calls_of_wp hfn hc ?_
        have hs : Sim γ ⟨initRegs 0 args, h, [], fn.ntmps⟩ [] { tmps := vs.toArray ++ Array.replicate (fn.ntmps - vs.toArray.size) Go.undef, defers := [] } w := by
          refine ⟨rfl, by simp; omega, fun s r hs => ?_, hh, ho, hf, hbase⟩
          obtain ⟨_, h2⟩ := init_look hs
          rw [Nat.sub_zero] at h2
          obtain ⟨v, h3, h4⟩ := rdRs_get' hrd h2
          have hlt := (List.getElem?_eq_some_iff.1 h3).1
          have e : (vs.toArray ++ Array.replicate (fn.ntmps - vs.toArray.size) Go.undef).getD s Go.undef = v := by
            rw [Array.getD_eq_getD_getElem?, Array.getElem?_append_left (by simpa using hlt)]
            simp [h3]
          simp only [e]
          exact ⟨h4, tkRs_get htk h2 h3⟩
        refine runCode_sound (f := g) hE hcp hce c hr hs rfl fun e st' γ' a' w' he hs' hd' hk => ?_
        have key : ∀ r, resR E fn.results.toList st' = some r → k r st'.heap = some res → ∃ v, (results fn a'.tmps).run E.P w' = .ok v w' ∧ EndsOK k res γ w (.returned v) w' := fun r h1 h2 => by
          obtain ⟨v, r1, r2, r3⟩ := resR_sound hE hs' h1
          rw [hd'] at r3
          have hh' := hs'.heap
          rw [hd'] at hh'
          exact ⟨v, r1, v, r, st'.heap, γ', rfl, h2, he, hh', hs'.own, hs'.fresh, hs'.base, r2, r3⟩
        cases e with
        | normal =>
          simp only at hk
          split at hk
          · rename_i r hr'
            exact ⟨hs'.dfr, key r hr' hk⟩
          · cases hk
        | exit j => cases hk
        | ret =>
          simp only at hk
          split at hk
          · rename_i r hr'
            exact ⟨hs'.dfr, key r hr' hk⟩
          · cases hk
    · cases hr
  · cases hr

/-! ### What is only read -/
/-- the boxes lie open: they are written no more -/
def Gh.open (γ : Gh) : Gh := { γ with rd := fun b => if b ∈ γ.bx then none else γ.rd b }
theorem open_sees : Sees γ w γ.open w := ⟨fun b i u h1 h2 => by
  refine ⟨h2, ?_⟩
  unfold Gh.may Gh.open at *
  simp only
  by_cases hb : b ∈ γ.bx
  · simp [hb]
  · simp only [hb, if_false]; exact h1⟩
theorem rdC_cells2 {g : Gh} : ∀ {ds : List D} {vs : List Value} {b o : Nat}, rdL w g ds vs → (∀ (i : Nat) v, vs[i]? = some v → w.cell? ⟨b, o + i, none⟩ = some v ∧ g.may b (o + i)) → rdC w g ds b o
  | [], [], b, o, _, _ => by simp only [rdC]
  | d :: ds, v :: vs, b, o, h, hc => by
    simp only [rdL] at h
    simp only [rdC]
    obtain ⟨c1, c2⟩ := hc 0 v rfl
    refine ⟨⟨v, by simpa using c1, by simpa using c2, h.1⟩, rdC_cells2 h.2 fun i u hu => ?_⟩
    have := hc (i + 1) u (by simpa using hu)
    rwa [show o + (i + 1) = o + 1 + i by omega] at this
  | [], _ :: _, _, _, h, _ => by simp only [rdL] at h
  | _ :: _, [], _, _, h, _ => by simp only [rdL] at h
theorem rdL_mapF {g g' : Gh} {F : D → D} (hF : ∀ d v, rdD w g d v → rdD w g' (F d) v) : ∀ {ds : List D} {vs : List Value}, rdL w g ds vs → rdL w g' (ds.map F) vs
  | [], [], _ => by simp [rdL]
  | d :: ds, v :: vs, h => by
    simp only [rdL] at h
    simp only [List.map_cons, rdL]
    exact ⟨hF d v h.1, rdL_mapF hF h.2⟩
  | [], _ :: _, h => by simp only [rdL] at h
  | _ :: _, [], h => by simp only [rdL] at h
theorem rdC_mapF {g g' : Gh} {F : D → D} (hs : Sees g w g' w) (hF : ∀ d v, rdD w g d v → rdD w g' (F d) v) : ∀ {ds : List D} {b o : Nat}, rdC w g ds b o → rdC w g' (ds.map F) b o
  | [], b, o, _ => by simp [rdC]
  | d :: ds, b, o, h => by
    simp only [rdC] at h
    simp only [List.map_cons, rdC]
    obtain ⟨⟨u, h1, h2, h3⟩, h4⟩ := h
    exact ⟨⟨u, h1, (hs.cells b o u h2 h1).2, hF d u h3⟩, rdC_mapF hs hF h4⟩
theorem rdL_drop2 {g : Gh} : ∀ {ds : List D} {vs : List Value} {n : Nat}, rdL w g ds vs → rdL w g (ds.drop n) (vs.drop n)
  | [], [], n, _ => by simp [rdL]
  | d :: ds, v :: vs, 0, h => by simpa using h
  | d :: ds, v :: vs, n + 1, h => by
    simp only [rdL] at h
    simpa using rdL_drop2 (n := n) h.2
  | [], _ :: _, _, h => by simp only [rdL] at h
  | _ :: _, [], _, h => by simp only [rdL] at h
theorem freeze_sound {h : Heap} (hh : HeapOK γ h [] [] w) : ∀ (n : Nat) (d : D) (v : Value), rdD w γ d v → rdD w γ.open (d.freeze h n) v
  | 0, d, v, hv => by simp only [D.freeze, rdD]; exact rdD_scalar hv
  | n + 1, .ref i off, v, hv => by
    simp only [D.freeze]
    split
    · rename_i ds hds
      simp only [rdD] at hv ⊢
      obtain ⟨b, hb, rfl⟩ := hv
      rcases hh.box i ds b hds hb with ⟨⟨arr, ty, e1, e2, _⟩, _, _⟩ | ⟨g1, _, _⟩
      case inr => subst g1; exact ⟨b, off, rfl, by simp [rdC]⟩
      refine ⟨b, off, rfl, rdC_cells2 (vs := arr.toList.drop off) (rdL_mapF (freeze_sound hh n) (rdL_drop2 e2)) fun j u hu => ?_⟩
      rw [List.getElem?_drop] at hu
      refine ⟨?_, ?_⟩
      · have hu' : arr[off + j]? = some u := by simpa using hu
        simp [World.cell?, e1, hu']
      · have : b ∈ γ.bx := List.mem_iff_getElem?.2 ⟨i, hb⟩
        simp [Gh.may, Gh.open, this]
    · simp only [rdD] at hv ⊢
      obtain ⟨b, _, rfl⟩ := hv
      trivial
  | n + 1, .fn f caps, v, hv => by
    simp only [D.freeze, rdD] at hv ⊢
    obtain ⟨vs, rfl, hl⟩ := hv
    exact ⟨vs, rfl, rdL_mapF (freeze_sound hh n) hl⟩
  | n + 1, .cell c, v, hv => by
    simp only [D.freeze, rdD] at hv ⊢
    obtain ⟨b, o, rfl, hc⟩ := hv
    exact ⟨b, o, rfl, rdC_mapF open_sees (freeze_sound hh n) hc⟩
  | n + 1, .g t x, v, hv => by simp only [D.freeze, D.strip, rdD] at hv ⊢; exact rdT_mono open_sees t x v hv
  | n + 1, .ow e xs k, v, hv => by simp only [D.freeze, D.strip, rdD] at hv ⊢; exact rdT_mono open_sees (.sl e) xs v hv
  | n + 1, .nilFn, v, hv => by simpa only [D.freeze, D.strip, rdD] using hv
  | n + 1, .nilPtr, v, hv => by simpa only [D.freeze, D.strip, rdD] using hv
  | n + 1, .undef, v, hv => by simpa only [D.freeze, D.strip, rdD] using hv

/-! ### What a call that only computes hands back -/
def Gh.back (γ0 γ : Gh) (dst : Nat) (x : Option Hdr) : Gh := ⟨γ0.bx, fun b => if b ∈ γ.bx then none else γ.rd b, fun k => if k = .s dst then x else γ0.ow k, γ0.base⟩
/-- the name at the head of what is handed back -/
def headTok : R → Option Tok
  | .one (.ow _ _ k) => some k
  | .tup (.one (.ow _ _ k) :: _) => some k
  | _ => none
mutual
/-- no reading of a box but by its content -/
def D.noRef : D → Bool
  | .ref _ _ => false
  | .fn _ caps => noRefs caps
  | .cell c => noRefs c
  | _ => true
def noRefs : List D → Bool
  | [] => true
  | d :: ds => d.noRef && noRefs ds
end
theorem noRefs_map {F : D → D} (hF : ∀ d, (F d).noRef = true) : ∀ (l : List D), noRefs (l.map F) = true
  | [] => by simp only [List.map_nil, noRefs]
  | d :: l => by simp only [List.map_cons, noRefs, hF d, noRefs_map hF l, Bool.and_true]
theorem freeze_noRef {h : Heap} : ∀ (n : Nat) (d : D), (d.freeze h n).noRef = true
  | 0, d => by simp only [D.freeze, D.noRef]
  | n + 1, .ref i off => by
    simp only [D.freeze]
    split
    · simp only [D.noRef]; exact noRefs_map (freeze_noRef n) _
    · simp only [D.noRef]
  | n + 1, .fn f caps => by simp only [D.freeze, D.noRef]; exact noRefs_map (freeze_noRef n) _
  | n + 1, .cell c => by simp only [D.freeze, D.noRef]; exact noRefs_map (freeze_noRef n) _
  | n + 1, .g t x => by simp only [D.freeze, D.strip, D.noRef]
  | n + 1, .ow e xs k => by simp only [D.freeze, D.strip, D.noRef]
  | n + 1, .nilFn => by simp only [D.freeze, D.strip, D.noRef]
  | n + 1, .nilPtr => by simp only [D.freeze, D.strip, D.noRef]
  | n + 1, .undef => by simp only [D.freeze, D.strip, D.noRef]
mutual
theorem rdD_noRef {g g' : Gh} (hrd : g'.rd = g.rd) : (d : D) → (v : Value) → d.noRef = true → rdD w g d v → rdD w g' d v
  | .g t x, v, _, h => by simp only [rdD] at h ⊢; exact rdT_mono (γ := g) (w := w) (w' := w) (γ' := g') ⟨fun b _ _ h1 h2 => ⟨h2, (may_congr (congrFun hrd b)).2 h1⟩⟩ t x v h
  | .ow e xs _, v, _, h => by simp only [rdD] at h ⊢; exact rdT_mono (γ := g) (w := w) (w' := w) (γ' := g') ⟨fun b _ _ h1 h2 => ⟨h2, (may_congr (congrFun hrd b)).2 h1⟩⟩ (.sl e) xs v h
  | .fn f caps, v, hb, h => by
    simp only [rdD] at h ⊢
    simp only [D.noRef] at hb
    obtain ⟨vs, rfl, hl⟩ := h
    exact ⟨vs, rfl, rdL_noRef hrd caps _ hb hl⟩
  | .nilFn, v, _, h => by simpa only [rdD] using h
  | .nilPtr, v, _, h => by simpa only [rdD] using h
  | .cell c, v, hb, h => by
    simp only [rdD] at h ⊢
    simp only [D.noRef] at hb
    obtain ⟨b, o, rfl, hc⟩ := h
    exact ⟨b, o, rfl, rdC_noRef hrd c b o hb hc⟩
  | .ref i off, v, hb, h => by simp only [D.noRef, Bool.false_eq_true] at hb
  | .undef, v, _, h => by simpa only [rdD] using h
theorem rdL_noRef {g g' : Gh} (hrd : g'.rd = g.rd) : (ds : List D) → (vs : List Value) → noRefs ds = true → rdL w g ds vs → rdL w g' ds vs
  | [], [], _, _ => by simp only [rdL]
  | d :: ds, v :: vs, hb, h => by
    simp only [noRefs, Bool.and_eq_true] at hb
    simp only [rdL] at h ⊢
    exact ⟨rdD_noRef hrd d v hb.1 h.1, rdL_noRef hrd ds vs hb.2 h.2⟩
  | [], _ :: _, _, h => by simp only [rdL] at h
  | _ :: _, [], _, h => by simp only [rdL] at h
theorem rdC_noRef {g g' : Gh} (hrd : g'.rd = g.rd) : (ds : List D) → (b o : Nat) → noRefs ds = true → rdC w g ds b o → rdC w g' ds b o
  | [], _, _, _, _ => by simp only [rdC]
  | d :: ds, b, o, hb, h => by
    simp only [noRefs, Bool.and_eq_true] at hb
    simp only [rdC] at h ⊢
    obtain ⟨⟨u, h1, h2, h3⟩, h4⟩ := h
    exact ⟨⟨u, h1, (may_congr (congrFun hrd b)).2 h2, rdD_noRef hrd d u hb.1 h3⟩, rdC_noRef hrd ds b (o + 1) hb.2 h4⟩
end
theorem froze {h : Heap} {g : Gh} (hh : HeapOK γ h [] [] w) (hrd : g.rd = γ.open.rd) {d : D} {v : Value} (hv : rdD w γ d v) : rdD w g (d.freeze h 9) v := rdD_noRef hrd _ v (freeze_noRef 9 d) (freeze_sound hh 9 d v hv)
theorem frozeL {h : Heap} {g : Gh} (hh : HeapOK γ h [] [] w) (hrd : g.rd = γ.open.rd) {ds : List D} {vs : List Value} (hv : rdL w γ ds vs) : rdL w g (ds.map fun d => d.freeze h 9) vs := rdL_mapF (fun d v hv => froze hh hrd hv) hv
theorem finTail {h : Heap} {g : Gh} (hh : HeapOK γ h [] [] w) (hrd : g.rd = γ.open.rd) {F : R → R} (hF : F = fun r => match r with
    | .one d => .one (d.freeze h 9)
    | .agg ds => .agg (ds.map fun d => d.freeze h 9)
    | _ => .undef) : ∀ {rs : List R} {vs : List Value}, rdRs w γ rs vs → rdRs w g (rs.map F) vs
  | [], [], _ => by simp [rdRs]
  | r :: rs, v :: vs, hr => by
    simp only [rdRs] at hr
    simp only [List.map_cons, rdRs]
    refine ⟨?_, finTail hh hrd hF hr.2⟩
    subst hF
    cases r with
    | one d => simp only [rdR] at hr ⊢; exact froze hh hrd hr.1
    | agg ds =>
      simp only [rdR] at hr ⊢
      obtain ⟨⟨us, rfl, h1⟩, _⟩ := hr
      exact ⟨us, rfl, frozeL hh hrd h1⟩
    | _ => simp only [rdR]
  | [], _ :: _, h => by simp only [rdRs] at h
  | _ :: _, [], h => by simp only [rdRs] at h
theorem finTop_sound {h : Heap} {g : Gh} {r : R} {v : Value} (hh : HeapOK γ h [] [] w) (hrd : g.rd = γ.open.rd) (hr : rdR w γ r v) : rdR w g (finTop h r) v := by
  cases r with
  | one d =>
    cases d with
    | ow e xs k =>
      simp only [finTop, rdR, rdD] at hr ⊢
      have := froze (g := g) (d := .ow e xs k) hh hrd (by simpa only [rdD] using hr)
      simpa only [D.freeze, D.strip, rdD] using this
    | _ => simp only [rdR] at hr; exact by simp only [finTop, rdR]; exact froze hh hrd hr
  | agg ds =>
    simp only [rdR] at hr
    obtain ⟨us, rfl, h1⟩ := hr
    simp only [finTop, rdR]
    exact ⟨us, rfl, frozeL hh hrd h1⟩
  | tup rs =>
    simp only [rdR] at hr
    obtain ⟨us, rfl, h1⟩ := hr
    simp only [finTop, rdR]
    exact ⟨us, rfl, finTail hh hrd rfl h1⟩
  | undef => simp only [finTop, rdR]
  | skip => simpa only [finTop, rdR] using hr
theorem fin_sound {h : Heap} {g : Gh} {r : R} {v : Value} (hh : HeapOK γ h [] [] w) (hrd : g.rd = γ.open.rd) (hr : rdR w γ r v) : rdR w g (fin h r) v := by
  unfold fin
  split
  · rename_i r rs
    simp only [finTop]
    simp only [rdR] at hr ⊢
    obtain ⟨us, rfl, h1⟩ := hr
    refine ⟨us, rfl, ?_⟩
    cases hus : us.toList with
    | nil => rw [hus] at h1; simp only [rdRs] at h1
    | cons u us' =>
      rw [hus] at h1
      simp only [rdRs] at h1 ⊢
      exact ⟨finTop_sound hh hrd h1.1, finTail hh hrd rfl h1.2⟩
  · exact finTop_sound hh hrd hr
theorem ownD_freeze {h : Heap} {g : Gh} {dst n : Nat} {d : D} {v : Value} : ownD' g dst (D.freeze h n d) v := by
  cases n with
  | zero => simp only [D.freeze, ownD']
  | succ n =>
    cases d <;> simp only [D.freeze, D.strip, ownD']
    case ref i off => cases h[i]? <;> trivial
theorem ownTop_tup {g : Gh} {dst : Nat} {q : R} {l : List R} {v : Value} (h : ∀ d, q = .one d → ∀ vs, v = .tuple vs → ∀ u, vs[0]? = some u → ownD' g dst d u) : ownTop g dst (.tup (q :: l)) v := by
  cases q with
  | one d =>
    cases v with
    | tuple vs => simp only [ownTop]; exact h d rfl vs rfl
    | _ => simp only [ownTop]
  | _ => simp only [ownTop]
theorem fin_own {h : Heap} {g : Gh} {r : R} {v : Value} {dst : Nat} (ht : tkR γ [] [] r v) (hg : ∀ k, headTok r = some k → g.ow (.s dst) = γ.ow k) : ownTop g dst (fin h r) v := by
  unfold fin
  split
  · rename_i r rs
    simp only [finTop]
    refine ownTop_tup fun d hd vs hv u hu => ?_
    subst hv
    cases r with
    | one d' =>
      cases d' with
      | ow e xs k =>
        simp only [R.one.injEq] at hd
        subst hd
        simp only [tkR] at ht
        cases hvs : vs.toList with
        | nil => simp at hvs; subst hvs; simp at hu
        | cons u' us =>
          rw [hvs] at ht
          simp only [tkRs, tkR, tkD, tokIn, Bool.false_eq_true, false_or] at ht
          have e : u' = u := by
            have : vs[0]? = vs.toList[0]? := by simp
            rw [this, hvs] at hu
            simpa using hu
          subst e
          simp only [ownD']
          rw [hg k rfl]
          exact ht.1.1
      | _ => simp only [R.one.injEq] at hd; subst hd; exact ownD_freeze
    | _ => cases hd
  · rename_i hne
    cases r with
    | one d =>
      cases d with
      | ow e xs k =>
        simp only [tkR, tkD, tokIn, Bool.false_eq_true, false_or] at ht
        simp only [finTop, ownTop, ownD']
        rw [hg k rfl]
        exact ht.1
      | _ => simp only [finTop, ownTop]; exact ownD_freeze
    | tup rs =>
      cases rs with
      | nil => simp only [finTop, List.map_nil, ownTop]
      | cons r rs => exact absurd rfl (hne r rs)
    | _ => simp only [finTop, ownTop]
mutual
theorem noRef_of : (d : D) → d.hasRef = false → d.noRef = true
  | .ref _ _, h => by simp only [D.hasRef, Bool.true_eq_false] at h
  | .fn f caps, h => by simp only [D.hasRef] at h; simp only [D.noRef]; exact noRefs_of caps h
  | .cell c, h => by simp only [D.hasRef] at h; simp only [D.noRef]; exact noRefs_of c h
  | .g _ _, _ => by simp only [D.noRef]
  | .ow _ _ _, _ => by simp only [D.noRef]
  | .nilFn, _ => by simp only [D.noRef]
  | .nilPtr, _ => by simp only [D.noRef]
  | .undef, _ => by simp only [D.noRef]
theorem noRefs_of : (ds : List D) → hasRefs ds = false → noRefs ds = true
  | [], _ => by simp only [noRefs]
  | d :: ds, h => by
    simp only [hasRefs, Bool.or_eq_false_iff] at h
    simp only [noRefs, noRef_of d h.1, noRefs_of ds h.2, Bool.and_true]
end
theorem rdR_noRef {g g' : Gh} (hrd : g'.rd = g.rd) : (r : R) → (v : Value) → r.hasRef = false → rdR w g r v → rdR w g' r v
  | .one d, v, hb, h => by simp only [R.hasRef] at hb; simp only [rdR] at h ⊢; exact rdD_noRef hrd d v (noRef_of d hb) h
  | .agg ds, v, hb, h => by
    simp only [R.hasRef] at hb
    simp only [rdR] at h ⊢
    obtain ⟨vs, rfl, hl⟩ := h
    exact ⟨vs, rfl, rdL_noRef hrd ds _ (noRefs_of ds hb) hl⟩
  | .tup rs, v, hb, h => by simp only [R.hasRef, Bool.true_eq_false] at hb
  | .undef, v, _, h => by simp only [rdR]
  | .skip, v, _, h => by simpa only [rdR] using h
theorem rdRs_noRef {g g' : Gh} (hrd : g'.rd = g.rd) : (rs : List R) → (vs : List Value) → anyRef rs = false → rdRs w g rs vs → rdRs w g' rs vs
  | [], [], _, _ => by simp only [rdRs]
  | r :: rs, v :: vs, hb, h => by
    simp only [anyRef, Bool.or_eq_false_iff] at hb
    simp only [rdRs] at h ⊢
    exact ⟨rdR_noRef hrd r v hb.1 h.1, rdRs_noRef hrd rs vs hb.2 h.2⟩
  | [], _ :: _, _, h => by simp only [rdRs] at h
  | _ :: _, [], _, h => by simp only [rdRs] at h
theorem pureG_sound {g : R → R} (hg : ∀ (w : World) (γ : Gh) r v, rdR w γ r v → rdR w γ (g r) v) (hgo : ∀ (γ : Gh) dst r v, ownTop γ dst r v → ownTop γ dst (g r) v) (hce : EffOK E ce) : PureOK E (pureOfG g ce) := by
  intro f args r hr
  change (bif anyRef args || R.hasOwL args then none else ce R f args [] fun r h => some (g (fin h r))) = some r at hr
  cases hb : (anyRef args || R.hasOwL args) with
  | true => rw [hb] at hr; cases hr
  | false =>
    rw [hb] at hr
    simp only [cond_false] at hr
    simp only [Bool.or_eq_false_iff] at hb
    obtain ⟨h1, h2⟩ := hce R f args [] _ r hr
    refine ⟨h1, fun γ w vs dst hrd hf hbase hbx => ?_⟩
    let γ0 : Gh := ⟨[], γ.rd, fun _ => none, w.heap.size⟩
    have hrd0 : rdRs w γ0 args vs := rdRs_noRef (g := γ) (g' := γ0) rfl args vs hb.1 hrd
    refine (h2 γ0 w vs hrd0 (tkRs_noOw args vs hb.2) ⟨rfl, fun i ds b hi => by simp at hi, List.nodup_nil⟩ ⟨fun k h hk => (by cases hk), fun k k' h h' hk => (by cases hk)⟩ hf (Nat.le_refl _)).mono fun e w' ⟨v, q, h', γ', he, hk, hext, hh, ho, hf', hb', hq, hqt⟩ => ?_
    simp only [Option.some.injEq] at hk
    subst hk
    have hb0 : γ'.base = w.heap.size := hext.base
    refine ⟨v, γ.back γ' dst ((headTok q).bind γ'.ow), he, ⟨hext.low, rfl, rfl, fun b hlt => ?_, fun b hge => ?_, fun k hk => ?_, fun hd hhd => ?_⟩, hg _ _ _ _ (fin_sound hh rfl hq), hgo _ _ _ _ (fin_own hqt fun k hk => ?_)⟩
    · have hnb : b ∉ γ'.bx := fun hm => by
        obtain ⟨i, hi⟩ := List.mem_iff_getElem?.1 hm
        have hlen : i < h'.length := by rw [hh.len]; exact (List.getElem?_eq_some_iff.1 hi).1
        have : γ'.base ≤ b := by
          rcases hh.box i h'[i] b (by simp) hi with g | ⟨_, g, _⟩
          · exact g.base
          · exact g
        omega
      simp only [Gh.back, if_neg hnb]
      exact hext.rdlow b hlt
    · simp only [Gh.back]
      split
      · rfl
      · exact hf' b hge
    · simp only [Gh.back, if_neg hk]
    · simp only [Gh.back, if_true] at hhd
      obtain ⟨k, hk1, hk2⟩ := Option.bind_eq_some_iff.1 hhd
      obtain ⟨o1, o2⟩ := ho.own k hd hk2
      refine ⟨⟨o1, fun hc => ?_⟩, fun hc b o s hA => ?_⟩
      · obtain ⟨b, arr, ty, e1, e2, e3, e4, e5, e6⟩ := o2 hc
        refine ⟨b, arr, ty, e1, e2, e3, ?_, ?_, fun hm => ?_⟩
        · simp only [Gh.back, if_neg e6]; exact e4
        · simp only [Gh.back]; omega
        · have := hbx b hm; omega
      · obtain ⟨b', arr, ty, e1, e2, e3, e4, e5, e6⟩ := o2 hc
        rw [e1] at hA
        cases hA
        omega
    · simp only [Gh.back, if_true, hk, Option.bind_some]

theorem pure_sound (hce : EffOK E ce) : PureOK E (pureOf ce) := pureG_sound (g := fun r => r) (fun _ _ _ _ h => h) (fun _ _ _ _ h => h) hce
theorem calls_sound (hE : EnvOK E) : ∀ n, EffOK E (callE E n)
  | 0 => fun α g args h k res hr => by simp [callE] at hr
  | n + 1 => callBody_sound hE (pure_sound (calls_sound hE n)) (calls_sound hE n)
/-- what the evaluator says of a call, the machine does -/
theorem callP_sound (hE : EnvOK E) (n : Nat) : PureOK E (callP E n) := pure_sound (calls_sound hE n)
end
end Go.V
