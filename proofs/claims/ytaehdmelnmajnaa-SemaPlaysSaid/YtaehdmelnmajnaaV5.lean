/- V5: Sound, EnvB, Use, Con, Eqs, Args, LBase, one behind the other. -/
import Derived.Test.YtaehdmelnmajnaaV4
import Derived.Laws.Sem
import Derived.KernelRfl
import Derived.ChangeSame
import Derived.WalkKit
import Derived.ProofKit
import Derived.OpenShut
import Derived.ChangeKeysEq
import Derived.Laws.StructEq
import Derived.Carry
import Derived.IntWalk
/- Calls; what a call that only computes hands back; the evaluator is sound. -/
namespace Go.V
open Go.RowKit
set_option linter.unusedVariables false

section
variable {E : Env} {f : Nat} {cp : CallP} {ce : CallE} {γ : Gh} {C : List Nat} {a : Act} {w : World} {st st' : St} {ops : Array Oper}

/-! ### What is handed back -/
def resRun (tmps : Array Value) : ResultVar → Sem Value
  | .tmp t => pure (tmps.getD t Go.undef)
  | .cell a t => do loadVar t (← asAddr (tmps.getD a Go.undef))
inductive ResAll (tmps : Array Value) (P : Program) (w : World) : List ResultVar → List Value → Prop where
  | nil : ResAll tmps P w [] []
  | cons {x : ResultVar} {v : Value} {l : List ResultVar} {vs : List Value} : (resRun tmps x).run P w = .ok v w → ResAll tmps P w l vs → ResAll tmps P w (x :: l) (v :: vs)
theorem mapM_run {tmps : Array Value} {P : Program} {w : World} : ∀ {l : List ResultVar} {vs : List Value}, ResAll tmps P w l vs → (l.mapM (resRun tmps)).run P w = .ok vs w
  | [], [], .nil => by simp
  | x :: l, v :: vs, .cons h1 h2 => by
    rw [List.mapM_cons]
    simp only [Sem.run_bind, h1, Result.andThen_ok, mapM_run h2, Sem.run_pure]
theorem results_run {fn : Func} {vs : List Value} {tmps : Array Value} {P : Program} {w : World} (h : ResAll tmps P w fn.results.toList vs) :
    (results fn tmps).run P w = .ok (if h : vs.length = 1 then vs[0]'(by omega) else .tuple vs.toArray) w := by
  unfold results
  rw [Array.mapM_eq_mapM_toList]
  have e : (fun x : ResultVar => (match x with
      | .tmp t => pure (tmps.getD t Go.undef)
      | .cell a t => do loadVar t (← asAddr (tmps.getD a Go.undef)) : Sem Value)) = resRun tmps := by
    funext x
    cases x <;> rfl
  have h2 := mapM_run h
  change Sem.run P (do
    let vs ← List.toArray <$> List.mapM (resRun tmps) fn.results.toList
    pure (if h : vs.size = 1 then vs[0] else Value.tuple vs)) w = _
  simp only [map_eq_pure_bind, bind_assoc, pure_bind, Sem.run_bind, h2, Result.andThen_ok, Sem.run_pure]
  by_cases hl : vs.length = 1
  · simp [hl]
  · simp [hl]
theorem init_look : ∀ {l : List R} {i s : Nat} {r : R}, look (initRegs i l) s = some r → i ≤ s ∧ l[s - i]? = some r
  | [], i, s, r, h => by simp [initRegs, look] at h
  | q :: l, i, s, r, h => by
    simp only [initRegs, look] at h
    cases hb : Nat.beq i s with
    | true =>
      obtain rfl := nbeq.1 hb
      rw [hb] at h
      cases h
      simp
    | false =>
      rw [hb] at h
      obtain ⟨h1, h2⟩ := init_look (i := i + 1) h
      refine ⟨by omega, ?_⟩
      rw [show s - i = (s - (i + 1)) + 1 by omega]
      simpa using h2
theorem rdRs_get' : ∀ {rs : List R} {vs : List Value} {i : Nat} {r : R}, rdRs w γ rs vs → rs[i]? = some r → ∃ v, vs[i]? = some v ∧ rdR w γ r v
  | r :: rs, v :: vs, 0, q, h, hi => by
    simp only [rdRs] at h
    simp at hi
    exact ⟨v, rfl, hi ▸ h.1⟩
  | r :: rs, v :: vs, i + 1, q, h, hi => by
    simp only [rdRs] at h
    obtain ⟨u, h1, h2⟩ := rdRs_get' h.2 (i := i) (by simpa using hi)
    exact ⟨u, by simpa using h1, h2⟩
  | [], _, i, q, _, hi => by simp at hi
  | _ :: _, [], i, q, h, _ => by simp only [rdRs] at h
theorem rdRs_len : ∀ {rs : List R} {vs : List Value}, rdRs w γ rs vs → rs.length = vs.length
  | [], [], _ => rfl
  | r :: rs, v :: vs, h => by simp only [rdRs] at h; simp [rdRs_len h.2]
  | [], _ :: _, h => by simp only [rdRs] at h
  | _ :: _, [], h => by simp only [rdRs] at h
theorem resOne_sound {x : ResultVar} {r : R} (hE : EnvOK E) (h : Sim γ st C a w) (hr : resOne E st x = some r) : ∃ v, (resRun a.tmps x).run E.P w = .ok v w ∧ rdR w γ r v ∧ tkR γ st.dead C r v := by
  cases x with
  | tmp t =>
    obtain ⟨h1, h2⟩ := h.regs t r hr
    exact ⟨_, by simp [resRun], h1, h2⟩
  | cell t ty =>
    simp only [resOne] at hr
    split at hr
    · rename_i b off ti hx ht
      obtain ⟨hn, hr⟩ := bif_some hr
      simp only [Bool.and_eq_true] at hn
      split at hr
      · rename_i c hc
        obtain ⟨hpl, hr⟩ := bif_some hr
        split at hr
        · rename_i ds hds
          obtain ⟨h1, _⟩ := h.regs t _ hx
          simp only [rdR] at h1
          obtain ⟨ad, v, q1, q2, q3, q4⟩ := ref_load (C := C) hE ht (nt_spec hn.1) h.heap hpl h1 hc hds hr (nblt.1 hn.2)
          exact ⟨v, by simp [resRun, q1, asAddr, q2], q3, q4⟩
        · cases hr
      · cases hr
    · cases hr
theorem resAll (hE : EnvOK E) : ∀ {rs : List ResultVar} {l : List R}, (Sim γ st C a w) → mapO (resOne E st) rs = some l →
    ∃ vs : List Value, ResAll a.tmps E.P w rs vs ∧ rdRs w γ l vs ∧ tkRs γ st.dead C l vs
  | [], l, h, hm => by
    simp only [mapO, Option.some.injEq] at hm
    subst hm
    exact ⟨[], .nil, by simp [rdRs], by simp [tkRs]⟩
  | x :: rs, l, h, hm => by
    simp only [mapO] at hm
    split at hm
    · rename_i y hy
      split at hm
      · rename_i ys hys
        cases hm
        obtain ⟨vs, e1, e2, e3⟩ := resAll hE h hys
        obtain ⟨v, r1, r2, r3⟩ := resOne_sound hE h hy
        exact ⟨v :: vs, .cons r1 e1, by simp only [rdRs]; exact ⟨r2, e2⟩, by simp only [tkRs]; exact ⟨r3, e3⟩⟩
      · cases hm
    · cases hm
theorem ResAll.length {tmps : Array Value} {P : Program} {w : World} : ∀ {l : List ResultVar} {vs : List Value}, ResAll tmps P w l vs → l.length = vs.length
  | _, _, .nil => rfl
  | _, _, .cons _ h => by simp [h.length]
theorem resR_sound {fn : Func} {r : R} (hE : EnvOK E) (h : Sim γ st C a w) (hr : resR E fn.results.toList st = some r) : ∃ v, (results fn a.tmps).run E.P w = .ok v w ∧ rdR w γ r v ∧ tkR γ st.dead C r v := by
  unfold resR at hr
  split at hr
  · rename_i x hx
    obtain ⟨v, r1, r2, r3⟩ := resOne_sound hE h hr
    have e : ResAll a.tmps E.P w fn.results.toList [v] := by rw [hx]; exact .cons r1 .nil
    exact ⟨v, by simpa using results_run e, r2, r3⟩
  · rename_i hne
    split at hr
    · rename_i l hl
      cases hr
      obtain ⟨vs, e1, e2, e3⟩ := resAll hE h hl
      have hlen := e1.length
      have hn1 : ¬ vs.length = 1 := fun hl1 => by
        rw [hl1] at hlen
        match hrs : fn.results.toList, hlen with
        | [x], _ => exact hne x hrs
      refine ⟨_, results_run e1, ?_, ?_⟩
      · rw [dif_neg hn1]
        simp only [rdR]
        exact ⟨_, rfl, by simpa using e2⟩
      · rw [dif_neg hn1]
        simp only [tkR]
        simpa using e3
    · cases hr
/-! ### Boxes of cells that are handed back -/
theorem Sim.thaw {bi b : Nat} (h : Sim γ st C a w) (hb : γ.bx[bi]? = some b) : Ext γ w (γ.thaw b) w ∧ Sim (γ.thaw b) { st with heap := setAt st.heap bi [] } C a w := by
  obtain ⟨s1, s2⟩ := setAt_spec (h := st.heap) (i := bi) (ds := [])
  have hbi : bi < st.heap.length := by rw [h.heap.len]; exact (List.getElem?_eq_some_iff.1 hb).1
  have hblt := h.heap.lt bi b hb
  have e5 : γ.base ≤ b := by
    rcases h.heap.box bi _ b (List.getElem?_eq_getElem hbi) hb with q | q
    · exact q.base
    · exact q.1
  refine ⟨⟨fun _ _ _ q => q, rfl, Nat.le_refl _, thaw_sees.cells, Below.refl _ _, fun b' hb' => by simp only [Gh.thaw]; rw [if_neg (by omega)], rfl⟩, ?_⟩
  refine ⟨h.dfr, h.sz, fun s q hq => ?_, ⟨by rw [s1]; exact h.heap.len, fun i es b' hi hb' => ?_, h.heap.nodup⟩, ⟨fun k hd hk => ?_, h.own.inj⟩, fun b' hb' => ?_, h.base, h.nb⟩
  · obtain ⟨q1, q2⟩ := h.regs s q hq
    exact ⟨rdR_mono thaw_sees (fun _ _ x => x) q _ q1, tkR_mono (γ := γ) (γ' := γ.thaw b) (dead := st.dead) (dead' := st.dead) (fun _ x => x) (fun _ x => x) (fun k _ _ => .inr rfl) q _ q2⟩
  · rw [s2 i] at hi
    by_cases hib : i = bi
    · subst hib
      rw [if_pos ⟨rfl, hbi⟩] at hi
      cases hi
      rw [show (γ.thaw b).bx = γ.bx from rfl, hb] at hb'
      cases hb'
      exact .inr ⟨e5, hblt, .inl rfl⟩
    · rw [if_neg (by omega)] at hi
      have hne : b' ≠ b := fun e => by
        subst e
        exact hib (nodup_inj h.heap.nodup hb' hb)
      rcases h.heap.box i es b' hi hb' with ⟨⟨arr', ty', g1, g2, g3⟩, g4, g5⟩ | g
      · exact .inl ⟨⟨arr', ty', g1, rdL_mono thaw_sees (fun _ _ x => x) _ _ g2, tkL_mono (γ := γ) (γ' := γ.thaw b) (dead := st.dead) (dead' := st.dead) (fun _ x => x) (fun _ x => x) (fun k _ _ => .inr rfl) g3⟩, by simp only [Gh.thaw]; rw [if_neg hne]; exact g4, g5⟩
      · exact .inr (g.keep (Nat.le_refl _) (Nat.le_refl _) fun _ _ ho _ => ho)
  · refine (h.own.own k hd hk).keep rfl rfl fun b' hc' hA _ => ?_
    obtain ⟨b2, arr2, ty2, g1, g2, _, _, _, g6⟩ := (h.own.own k hd hk).2 hc'
    have hb2 : b2 = b' := by rw [g1] at hA; simpa using hA
    have hne : b' ≠ b := fun e => by
      subst e
      subst hb2
      exact g6 (List.mem_of_getElem? hb)
    exact ⟨rfl, by simp only [Gh.thaw]; rw [if_neg hne]⟩
  · simp only [Gh.thaw]
    rw [if_neg (by omega)]
    exact h.fresh b' hb'
theorem melt_sound {α : Type} {res : α} : ∀ (l : List ResultVar) {γ : Gh} {st : St} {k : St → Option α}, Sim γ st C a w → meltK l st k = some res → ∃ γ' st', Ext γ w γ' w ∧ Sim γ' st' C a w ∧ k st' = some res ∧ st'.dead = st.dead
  | [], γ, st, k, h, hk => ⟨γ, st, Ext.refl γ w, h, hk, rfl⟩
  | .cell _ _ :: l, γ, st, k, h, hk => melt_sound l h hk
  | .tmp t :: l, γ, st, k, h, hk => by
    simp only [meltK] at hk
    split at hk
    · rename_i i n hl
      split at hk
      · rename_i vt xs hi
        obtain ⟨hn, hk⟩ := bif_some hk
        obtain ⟨h1, _⟩ := h.regs t _ hl
        simp only [rdR, rdD] at h1
        obtain ⟨b, c, hb, hv, hc⟩ := h1
        obtain ⟨e1, h2⟩ := h.thaw hb
        have h3 : Sim (γ.thaw b) { st with regs := setR st.regs t (.one (.g (.sl (.one vt)) xs)), heap := setAt st.heap i [] } C a w := by
          refine ⟨h2.dfr, h2.sz, fun s r hs => ?_, h2.heap, h2.own, h2.fresh, h2.base, h2.nb⟩
          rw [look_setR] at hs
          by_cases hst : s = t
          · rw [if_pos hst] at hs
            cases hs
            subst hst
            refine ⟨?_, by simp [tkR, tkD]⟩
            simp only [rdR, rdD, rdT]
            obtain ⟨arr, ty, q1, q2, q4, q5⟩ := vec_box h.heap hi hb
            have hnl := nbeq.1 hn
            refine ⟨_, c, by rw [← hnl]; exact hv, by omega, fun m hm => ⟨b, 0, rfl, ?_⟩⟩
            simp only [rdTs]
            obtain ⟨_, u, hu, hut⟩ := vec_get q2 hm
            refine ⟨u, ?_, ?_, ?_⟩
            · simp only [World.cell?, q1, Ts.size, Nat.mul_one, Nat.zero_add]
              simpa using hu
            · simp [Gh.may, Gh.thaw]
            · have : xs.getD m vt.dflt = xs[m] := by rw [List.getD_eq_getElem?_getD, List.getElem?_eq_getElem hm]; rfl
              rw [this] at hut
              exact rdT_mono thaw_sees _ _ _ hut
          · rw [if_neg hst] at hs
            exact h2.regs s r hs
        obtain ⟨γ2, st2, e2, h4, h5, h6⟩ := melt_sound l h3 hk
        exact ⟨γ2, st2, e1.trans e2, h4, h5, h6⟩
      · cases hk
    · exact melt_sound l h hk
/-- another number of boxes that keep their names -/
def Gh.setNb (γ : Gh) (n : Nat) : Gh := { γ with nb := n }
theorem nb_sees {n : Nat} : Sees γ w (γ.setNb n) w := ⟨fun _ _ _ h1 h2 => ⟨h2, h1⟩⟩
theorem HeapOK.setNb {h : Heap} (hh : HeapOK γ h [] [] w) (n : Nat) : HeapOK (γ.setNb n) h [] [] w := by
  refine ⟨hh.len, fun i ds b hi hb => ?_, hh.nodup⟩
  rcases hh.box i ds b hi hb with ⟨⟨arr, ty, e1, e2, e3⟩, e4, e5⟩ | g
  · exact .inl ⟨⟨arr, ty, e1, rdL_mono nb_sees (fun _ _ x => x) _ _ e2, tkL_mono (γ := γ) (γ' := γ.setNb n) (dead := []) (dead' := []) (fun _ x => x) (fun _ x => x) (fun k _ _ => .inr rfl) e3⟩, e4, e5⟩
  · exact .inr (g.keep (Nat.le_refl _) (Nat.le_refl _) fun _ _ ho _ => ho)
theorem Ext.setNb {γ' : Gh} {w' : World} {n : Nat} (h : Ext (γ.setNb n) w γ' w') (hn : γ.bx.length ≤ n) : Ext γ w (γ'.setNb γ.nb) w' ∧ ∀ (i b : Nat), γ.bx[i]? = some b → (γ'.setNb γ.nb).bx[i]? = some b :=
  have hb : ∀ (i b : Nat), γ.bx[i]? = some b → γ'.bx[i]? = some b := fun i b hb => h.bx i b (Nat.lt_of_lt_of_le (List.getElem?_eq_some_iff.1 hb).1 hn) hb
  ⟨⟨fun i b _ q => hb i b q, h.base, h.size, h.cells, h.low, h.rdlow, rfl⟩, hb⟩
theorem callBody_sound (hE : EnvOK E) (hcp : PureOK E cp) (hce : EffOK E ce) : EffOK E (callBody E cp ce) := by
  intro α g args h k res hr
  unfold callBody at hr
  split at hr
  · rename_i fn hfn
    split at hr
    · rename_i c hc
      refine ⟨⟨fn, hfn, by simp [hc]⟩, fun γ0 w vs hrd0 htk0 hh0 ho0 hf hbase => ?_⟩
      have hrd := rdRs_mono (nb_sees (γ := γ0) (w := w) (n := h.length)) (fun _ _ x => x) _ _ hrd0
      have htk := tkRs_mono (γ := γ0) (γ' := γ0.setNb h.length) (dead := []) (dead' := []) (C := []) (C' := []) (fun _ x => x) (fun _ x => x) (fun k _ _ => .inr rfl) _ _ htk0
      have hh := hh0.setNb h.length
      have ho : OwOK (γ0.setNb h.length) w := ⟨ho0.own, ho0.inj⟩
      have hback : ∀ {γ' : Gh} {w' : World}, Ext (γ0.setNb h.length) w γ' w' → Ext γ0 w (γ'.setNb γ0.nb) w' ∧ ∀ (i b : Nat), γ0.bx[i]? = some b → (γ'.setNb γ0.nb).bx[i]? = some b := fun he => he.setNb (by rw [hh0.len]; exact Nat.le_refl _)
      replace hf : ∀ b, w.heap.size ≤ b → (γ0.setNb h.length).rd b = none := hf
      replace hbase : (γ0.setNb h.length).base ≤ w.heap.size := hbase
      have hnb : (γ0.setNb h.length).nb = h.length := rfl
      generalize hγ : γ0.setNb h.length = γ at *
      cases hn : args.length.ble fn.ntmps with
      | false => rw [hn] at hr; cases hr
      | true =>
        rw [hn] at hr
        simp only [cond_true] at hr
        have hn' := Nat.le_of_ble_eq_true hn
        have hlen := rdRs_len hrd
        refine calls_of_wp hfn hc ?_
        have hs : Sim γ ⟨initRegs 0 args, h, [], fn.ntmps, h.length⟩ [] { tmps := vs.toArray ++ Array.replicate (fn.ntmps - vs.toArray.size) Go.undef, defers := [] } w := by
          refine ⟨rfl, by simp; omega, fun s r hs => ?_, hh, ho, hf, hbase, hnb⟩
          obtain ⟨_, h2⟩ := init_look hs
          rw [Nat.sub_zero] at h2
          obtain ⟨v, h3, h4⟩ := rdRs_get' hrd h2
          have hlt := (List.getElem?_eq_some_iff.1 h3).1
          have e : (vs.toArray ++ Array.replicate (fn.ntmps - vs.toArray.size) Go.undef).getD s Go.undef = v := by
            rw [Array.getD_eq_getD_getElem?, Array.getElem?_append_left (by simpa using hlt)]
            simp [h3]
          simp only [e]
          exact ⟨h4, tkRs_get htk h2 h3⟩
        refine runCode_sound (f := g) hE hcp hce c hr hs rfl fun e st' γ' a' w' he hs' hd' hk => ?_
        have key : (meltK fn.results.toList st' fun st => match resR E fn.results.toList st with
            | some r => k (thinR E g r) (thinH E g (cutH h.length r st.heap))
            | none => none) = some res → ∃ v, (results fn a'.tmps).run E.P w' = .ok v w' ∧ EndsOK k res γ0 w (.returned v) w' := fun hk => by
          obtain ⟨γ2, st2, he2, hs2, hk2, hd2⟩ := melt_sound _ hs' hk
          split at hk2
          · rename_i r h1
            obtain ⟨v, r1, r2, r3⟩ := resR_sound hE hs2 h1
            rw [hd2, hd'] at r3
            have hh' := hs2.heap
            rw [hd2, hd'] at hh'
            have hthin : ∀ {γ : Gh} {w : World} {h : Heap}, HeapOK γ h [] [] w → HeapOK γ (thinH E g h) [] [] w := fun {γ w h} hh => by
              unfold thinH
              cases mem g E.thin with
              | false => exact hh
              | true => exact hh.map nameOnly_strip fun d v hd => by cases d <;> simp only [D.strip, tkD]
            have hthr : ∀ {γ : Gh} {w : World} {v : Value}, rdR w γ r v → rdR w γ (thinR E g r) v := fun {γ w v} hh => by
              unfold thinR
              cases mem g E.thin with
              | false => exact hh
              | true => exact (rdR_map nameOnly_strip r v).2 hh
            have htht : ∀ {γ : Gh} {v : Value}, tkR γ [] [] r v → tkR γ [] [] (thinR E g r) v := fun {γ v} hh => by
              unfold thinR
              cases mem g E.thin with
              | false => exact hh
              | true => exact tkR_strip r v
            unfold cutH at hk2
            cases hcut : (!(st2.heap.length.beq h.length) && (r.refsBelow h.length && heapRefsOk h.length (st2.heap.take h.length))) with
            | false =>
              rw [hcut] at hk2
              obtain ⟨x1, x2⟩ := hback (he.trans he2)
              exact ⟨v, r1, v, thinR E g r, thinH E g st2.heap, γ2.setNb γ0.nb, rfl, hk2, x1, (hthin hh').setNb _, ⟨hs2.own.own, hs2.own.inj⟩, hs2.fresh, hs2.base, hthr (rdR_mono nb_sees (fun _ _ x => x) _ _ r2),
                htht (tkR_mono (γ := γ2) (γ' := γ2.setNb γ0.nb) (dead := []) (dead' := []) (fun _ x => x) (fun _ x => x) (fun k _ _ => .inr rfl) r _ r3), x2⟩
            | true =>
              rw [hcut] at hk2
              simp only [Bool.and_eq_true] at hcut
              obtain ⟨x1, x2⟩ := hback ((he.trans he2).cut (n := h.length) (γ' := γ2.cut h.length) (.inl (by rw [hh.len]; exact Nat.le_refl _)) rfl rfl (fun i b hi hb => by simp only [Gh.cut, List.getElem?_take, if_pos hi]; exact hb))
              exact ⟨v, r1, v, thinR E g r, thinH E g (st2.heap.take h.length), (γ2.cut h.length).setNb γ0.nb, rfl, hk2, x1, (hthin (hh'.cut hcut.2.2)).setNb _, ⟨(hs2.own.cut (n := h.length)).own, hs2.own.inj⟩, hs2.fresh, hs2.base, hthr (rdR_mono nb_sees (fun _ _ x => x) _ _ (rdR_cut r _ hcut.2.1 r2)),
                htht (tkR_mono (γ := γ2) (γ' := (γ2.cut h.length).setNb γ0.nb) (dead := []) (dead' := []) (fun _ x => x) (fun _ x => x) (fun k _ _ => .inr rfl) r _ r3), x2⟩
          · cases hk2
        cases e with
        | normal => exact ⟨hs'.dfr, key hk⟩
        | exit j => cases hk
        | ret => exact ⟨hs'.dfr, key hk⟩
    · cases hr
  · cases hr

/-! ### What is only read -/
theorem rdC_cells2 {g : Gh} : ∀ {ds : List D} {vs : List Value} {b o : Nat}, rdL w g ds vs → (∀ (i : Nat) v, vs[i]? = some v → w.cell? ⟨b, o + i, none⟩ = some v ∧ g.may b (o + i)) → rdC w g ds b o
  | [], [], b, o, _, _ => by simp only [rdC]
  | d :: ds, v :: vs, b, o, h, hc => by
    simp only [rdL] at h
    simp only [rdC]
    obtain ⟨c1, c2⟩ := hc 0 v rfl
    refine ⟨⟨v, by simpa using c1, by simpa using c2, h.1⟩, rdC_cells2 h.2 fun i u hu => ?_⟩
    have := hc (i + 1) u (by simpa using hu)
    rwa [show o + (i + 1) = o + 1 + i by omega] at this
  | [], _ :: _, _, _, h, _ => by simp only [rdL] at h
  | _ :: _, [], _, _, h, _ => by simp only [rdL] at h
theorem rdL_mapF {g g' : Gh} {F : D → D} (hF : ∀ d v, rdD w g d v → rdD w g' (F d) v) : ∀ {ds : List D} {vs : List Value}, rdL w g ds vs → rdL w g' (ds.map F) vs
  | [], [], _ => by simp [rdL]
  | d :: ds, v :: vs, h => by
    simp only [rdL] at h
    simp only [List.map_cons, rdL]
    exact ⟨hF d v h.1, rdL_mapF hF h.2⟩
  | [], _ :: _, h => by simp only [rdL] at h
  | _ :: _, [], h => by simp only [rdL] at h
theorem rdC_mapF {g g' : Gh} {F : D → D} (hs : Sees g w g' w) (hF : ∀ d v, rdD w g d v → rdD w g' (F d) v) : ∀ {ds : List D} {b o : Nat}, rdC w g ds b o → rdC w g' (ds.map F) b o
  | [], b, o, _ => by simp [rdC]
  | d :: ds, b, o, h => by
    simp only [rdC] at h
    simp only [List.map_cons, rdC]
    obtain ⟨⟨u, h1, h2, h3⟩, h4⟩ := h
    exact ⟨⟨u, h1, (hs.cells b o u h2 h1).2, hF d u h3⟩, rdC_mapF hs hF h4⟩
theorem rdL_drop2 {g : Gh} : ∀ {ds : List D} {vs : List Value} {n : Nat}, rdL w g ds vs → rdL w g (ds.drop n) (vs.drop n)
  | [], [], n, _ => by simp [rdL]
  | d :: ds, v :: vs, 0, h => by simpa using h
  | d :: ds, v :: vs, n + 1, h => by
    simp only [rdL] at h
    simpa using rdL_drop2 (n := n) h.2
  | [], _ :: _, _, h => by simp only [rdL] at h
  | _ :: _, [], _, h => by simp only [rdL] at h
theorem freeze_sound {h : Heap} (hh : HeapOK γ h [] [] w) : ∀ (n : Nat) (d : D) (v : Value), rdD w γ d v → rdD w γ.open (d.freeze h n) v
  | 0, d, v, hv => by simp only [D.freeze, rdD]; exact rdD_scalar hv
  | n + 1, .ref i off, v, hv => by
    simp only [D.freeze]
    split
    · rename_i ds hds
      cases hpl : plainB ds with
      | false => simp only [cond_false, rdD] at hv ⊢; obtain ⟨b, _, rfl⟩ := hv; trivial
      | true =>
      simp only [cond_true, rdD] at hv ⊢
      obtain ⟨b, hb, rfl⟩ := hv
      rcases hh.box i ds b hds hb with ⟨⟨arr, ty, e1, e2, _⟩, _, _⟩ | gg
      case inr => have g1 := gg.plain hpl; subst g1; exact ⟨b, off, rfl, by simp [rdC]⟩
      rw [plain_expand hpl] at e2
      refine ⟨b, off, rfl, rdC_cells2 (vs := arr.toList.drop off) (rdL_mapF (freeze_sound hh n) (rdL_drop2 e2)) fun j u hu => ?_⟩
      rw [List.getElem?_drop] at hu
      refine ⟨?_, ?_⟩
      · have hu' : arr[off + j]? = some u := by simpa using hu
        simp [World.cell?, e1, hu']
      · have : b ∈ γ.bx := List.mem_iff_getElem?.2 ⟨i, hb⟩
        simp [Gh.may, Gh.open, this]
    · simp only [rdD] at hv ⊢
      obtain ⟨b, _, rfl⟩ := hv
      trivial
  | n + 1, .fn f caps, v, hv => by
    simp only [D.freeze, rdD] at hv ⊢
    obtain ⟨vs, rfl, hl⟩ := hv
    exact ⟨vs, rfl, rdL_mapF (freeze_sound hh n) hl⟩
  | n + 1, .cell c, v, hv => by
    simp only [D.freeze, rdD] at hv ⊢
    obtain ⟨b, o, rfl, hc⟩ := hv
    exact ⟨b, o, rfl, rdC_mapF open_sees (freeze_sound hh n) hc⟩
  | n + 1, .g t x, v, hv => by simp only [D.freeze, D.strip, rdD] at hv ⊢; exact rdT_mono open_sees t x v hv
  | n + 1, .ow e xs k, v, hv => by simp only [D.freeze, D.strip, rdD] at hv ⊢; exact rdT_mono open_sees (.sl e) xs v hv
  | n + 1, .nilFn, v, hv => by simpa only [D.freeze, D.strip, rdD] using hv
  | n + 1, .nilPtr, v, hv => by simpa only [D.freeze, D.strip, rdD] using hv
  | n + 1, .undef, v, hv => by simpa only [D.freeze, D.strip, rdD] using hv
  | n + 1, .nilS _, v, hv => by simpa only [D.freeze, D.strip, rdD] using hv
  | n + 1, .vec _ _, v, hv => by simp only [rdD] at hv
  | n + 1, .sem _, v, hv => by simp only [rdD] at hv
  | n + 1, .vref _ _, v, hv => by have := rdD_scalar hv; simpa only [D.freeze, rdD] using this
  | n + 1, .vat _ _, v, hv => by have := rdD_scalar hv; simpa only [D.freeze, rdD] using this
  | n + 1, .chn _, v, hv => by have := rdD_scalar hv; simpa only [D.freeze, rdD] using this

/-! ### What a call that only computes hands back -/
def Gh.back (γ0 γ : Gh) (dst : Nat) (x : Option Hdr) : Gh := ⟨γ0.bx, fun b => if b ∈ γ.bx then none else γ.rd b, fun k => if k = .s dst then x else γ0.ow k, γ0.base, γ0.nb⟩
/-- the name at the head of what is handed back -/
def headTok : R → Option Tok
  | .one (.ow _ _ k) => some k
  | .tup (.one (.ow _ _ k) :: _) => some k
  | _ => none
mutual
/-- no reading of a box but by its content -/
def D.noRef : D → Bool
  | .ref _ _ => false
  | .fn _ caps => noRefs caps
  | .cell c => noRefs c
  | .vref _ _ => false
  | .vat _ _ => false
  | .chn _ => false
  | _ => true
def noRefs : List D → Bool
  | [] => true
  | d :: ds => d.noRef && noRefs ds
end
theorem noRefs_map {F : D → D} (hF : ∀ d, (F d).noRef = true) : ∀ (l : List D), noRefs (l.map F) = true
  | [] => by simp only [List.map_nil, noRefs]
  | d :: l => by simp only [List.map_cons, noRefs, hF d, noRefs_map hF l, Bool.and_true]
theorem freeze_noRef {h : Heap} : ∀ (n : Nat) (d : D), (d.freeze h n).noRef = true
  | 0, d => by simp only [D.freeze, D.noRef]
  | n + 1, .ref i off => by
    simp only [D.freeze]
    split
    · rename_i ds _
      cases plainB ds
      · simp only [cond_false, D.noRef]
      · simp only [cond_true, D.noRef]; exact noRefs_map (freeze_noRef n) _
    · simp only [D.noRef]
  | n + 1, .fn f caps => by simp only [D.freeze, D.noRef]; exact noRefs_map (freeze_noRef n) _
  | n + 1, .cell c => by simp only [D.freeze, D.noRef]; exact noRefs_map (freeze_noRef n) _
  | n + 1, .g t x => by simp only [D.freeze, D.strip, D.noRef]
  | n + 1, .ow e xs k => by simp only [D.freeze, D.strip, D.noRef]
  | n + 1, .nilFn => by simp only [D.freeze, D.strip, D.noRef]
  | n + 1, .nilPtr => by simp only [D.freeze, D.strip, D.noRef]
  | n + 1, .undef => by simp only [D.freeze, D.strip, D.noRef]
  | n + 1, .nilS _ => by simp only [D.freeze, D.strip, D.noRef]
  | n + 1, .vec _ _ => by simp only [D.freeze, D.strip, D.noRef]
  | n + 1, .sem _ => by simp only [D.freeze, D.strip, D.noRef]
  | n + 1, .vref _ _ => by simp only [D.freeze, D.noRef]
  | n + 1, .vat _ _ => by simp only [D.freeze, D.noRef]
  | n + 1, .chn _ => by simp only [D.freeze, D.noRef]
mutual
theorem rdD_noRef {g g' : Gh} (hrd : g'.rd = g.rd) : (d : D) → (v : Value) → d.noRef = true → rdD w g d v → rdD w g' d v
  | .g t x, v, _, h => by simp only [rdD] at h ⊢; exact rdT_mono (γ := g) (w := w) (w' := w) (γ' := g') ⟨fun b _ _ h1 h2 => ⟨h2, (may_congr (congrFun hrd b)).2 h1⟩⟩ t x v h
  | .ow e xs _, v, _, h => by simp only [rdD] at h ⊢; exact rdT_mono (γ := g) (w := w) (w' := w) (γ' := g') ⟨fun b _ _ h1 h2 => ⟨h2, (may_congr (congrFun hrd b)).2 h1⟩⟩ (.sl e) xs v h
  | .fn f caps, v, hb, h => by
    simp only [rdD] at h ⊢
    simp only [D.noRef] at hb
    obtain ⟨vs, rfl, hl⟩ := h
    exact ⟨vs, rfl, rdL_noRef hrd caps _ hb hl⟩
  | .nilFn, v, _, h => by simpa only [rdD] using h
  | .nilPtr, v, _, h => by simpa only [rdD] using h
  | .cell c, v, hb, h => by
    simp only [rdD] at h ⊢
    simp only [D.noRef] at hb
    obtain ⟨b, o, rfl, hc⟩ := h
    exact ⟨b, o, rfl, rdC_noRef hrd c b o hb hc⟩
  | .ref i off, v, hb, h => by simp only [D.noRef, Bool.false_eq_true] at hb
  | .undef, v, _, h => by simpa only [rdD] using h
  | .nilS _, v, _, h => by simpa only [rdD] using h
  | .vec _ _, v, _, h => by simp only [rdD] at h
  | .sem _, v, _, h => by simp only [rdD] at h
  | .vref _ _, v, hb, h => by simp only [D.noRef, Bool.false_eq_true] at hb
  | .vat _ _, v, hb, h => by simp only [D.noRef, Bool.false_eq_true] at hb
  | .chn _, v, hb, h => by simp only [D.noRef, Bool.false_eq_true] at hb
theorem rdL_noRef {g g' : Gh} (hrd : g'.rd = g.rd) : (ds : List D) → (vs : List Value) → noRefs ds = true → rdL w g ds vs → rdL w g' ds vs
  | [], [], _, _ => by simp only [rdL]
  | d :: ds, v :: vs, hb, h => by
    simp only [noRefs, Bool.and_eq_true] at hb
    simp only [rdL] at h ⊢
    exact ⟨rdD_noRef hrd d v hb.1 h.1, rdL_noRef hrd ds vs hb.2 h.2⟩
  | [], _ :: _, _, h => by simp only [rdL] at h
  | _ :: _, [], _, h => by simp only [rdL] at h
theorem rdC_noRef {g g' : Gh} (hrd : g'.rd = g.rd) : (ds : List D) → (b o : Nat) → noRefs ds = true → rdC w g ds b o → rdC w g' ds b o
  | [], _, _, _, _ => by simp only [rdC]
  | d :: ds, b, o, hb, h => by
    simp only [noRefs, Bool.and_eq_true] at hb
    simp only [rdC] at h ⊢
    obtain ⟨⟨u, h1, h2, h3⟩, h4⟩ := h
    exact ⟨⟨u, h1, (may_congr (congrFun hrd b)).2 h2, rdD_noRef hrd d u hb.1 h3⟩, rdC_noRef hrd ds b (o + 1) hb.2 h4⟩
end
theorem froze {h : Heap} {g : Gh} (hh : HeapOK γ h [] [] w) (hrd : g.rd = γ.open.rd) {d : D} {v : Value} (hv : rdD w γ d v) : rdD w g (d.freeze h 9) v := rdD_noRef hrd _ v (freeze_noRef 9 d) (freeze_sound hh 9 d v hv)
theorem frozeL {h : Heap} {g : Gh} (hh : HeapOK γ h [] [] w) (hrd : g.rd = γ.open.rd) {ds : List D} {vs : List Value} (hv : rdL w γ ds vs) : rdL w g (ds.map fun d => d.freeze h 9) vs := rdL_mapF (fun d v hv => froze hh hrd hv) hv
theorem finTail {h : Heap} {g : Gh} (hh : HeapOK γ h [] [] w) (hrd : g.rd = γ.open.rd) {F : R → R} (hF : F = fun r => match r with
    | .one d => .one (d.freeze h 9)
    | .agg ds => .agg (ds.map fun d => d.freeze h 9)
    | _ => .undef) : ∀ {rs : List R} {vs : List Value}, rdRs w γ rs vs → rdRs w g (rs.map F) vs
  | [], [], _ => by simp [rdRs]
  | r :: rs, v :: vs, hr => by
    simp only [rdRs] at hr
    simp only [List.map_cons, rdRs]
    refine ⟨?_, finTail hh hrd hF hr.2⟩
    subst hF
    cases r with
    | one d => simp only [rdR] at hr ⊢; exact froze hh hrd hr.1
    | agg ds =>
      simp only [rdR] at hr ⊢
      obtain ⟨⟨us, rfl, h1⟩, _⟩ := hr
      exact ⟨us, rfl, frozeL hh hrd h1⟩
    | _ => simp only [rdR]
  | [], _ :: _, h => by simp only [rdRs] at h
  | _ :: _, [], h => by simp only [rdRs] at h
theorem finTop_sound {h : Heap} {g : Gh} {r : R} {v : Value} (hh : HeapOK γ h [] [] w) (hrd : g.rd = γ.open.rd) (hr : rdR w γ r v) : rdR w g (finTop h r) v := by
  cases r with
  | one d =>
    cases d with
    | ow e xs k =>
      simp only [finTop, rdR, rdD] at hr ⊢
      have := froze (g := g) (d := .ow e xs k) hh hrd (by simpa only [rdD] using hr)
      simpa only [D.freeze, D.strip, rdD] using this
    | _ => simp only [rdR] at hr; exact by simp only [finTop, rdR]; exact froze hh hrd hr
  | agg ds =>
    simp only [rdR] at hr
    obtain ⟨us, rfl, h1⟩ := hr
    simp only [finTop, rdR]
    exact ⟨us, rfl, frozeL hh hrd h1⟩
  | tup rs =>
    simp only [rdR] at hr
    obtain ⟨us, rfl, h1⟩ := hr
    simp only [finTop, rdR]
    exact ⟨us, rfl, finTail hh hrd rfl h1⟩
  | undef => simp only [finTop, rdR]
  | skip => simpa only [finTop, rdR] using hr
theorem fin_sound {h : Heap} {g : Gh} {r : R} {v : Value} (hh : HeapOK γ h [] [] w) (hrd : g.rd = γ.open.rd) (hr : rdR w γ r v) : rdR w g (fin h r) v := by
  unfold fin
  split
  · rename_i r rs
    simp only [finTop]
    simp only [rdR] at hr ⊢
    obtain ⟨us, rfl, h1⟩ := hr
    refine ⟨us, rfl, ?_⟩
    cases hus : us.toList with
    | nil => rw [hus] at h1; simp only [rdRs] at h1
    | cons u us' =>
      rw [hus] at h1
      simp only [rdRs] at h1 ⊢
      exact ⟨finTop_sound hh hrd h1.1, finTail hh hrd rfl h1.2⟩
  · exact finTop_sound hh hrd hr
theorem ownD_freeze {h : Heap} {g : Gh} {dst n : Nat} {d : D} {v : Value} : ownD' g dst (D.freeze h n d) v := by
  cases n with
  | zero => simp only [D.freeze, ownD']
  | succ n =>
    cases d <;> simp only [D.freeze, D.strip, ownD']
    case ref i off =>
      cases h[i]? with
      | none => trivial
      | some ds => simp only; cases plainB ds <;> trivial
theorem ownTop_tup {g : Gh} {dst : Nat} {q : R} {l : List R} {v : Value} (h : ∀ d, q = .one d → ∀ vs, v = .tuple vs → ∀ u, vs[0]? = some u → ownD' g dst d u) : ownTop g dst (.tup (q :: l)) v := by
  cases q with
  | one d =>
    cases v with
    | tuple vs => simp only [ownTop]; exact h d rfl vs rfl
    | _ => simp only [ownTop]
  | _ => simp only [ownTop]
theorem fin_own {h : Heap} {g : Gh} {r : R} {v : Value} {dst : Nat} (ht : tkR γ [] [] r v) (hg : ∀ k, headTok r = some k → g.ow (.s dst) = γ.ow k) : ownTop g dst (fin h r) v := by
  unfold fin
  split
  · rename_i r rs
    simp only [finTop]
    refine ownTop_tup fun d hd vs hv u hu => ?_
    subst hv
    cases r with
    | one d' =>
      cases d' with
      | ow e xs k =>
        simp only [R.one.injEq] at hd
        subst hd
        simp only [tkR] at ht
        cases hvs : vs.toList with
        | nil => simp at hvs; subst hvs; simp at hu
        | cons u' us =>
          rw [hvs] at ht
          simp only [tkRs, tkR, tkD, tokIn, Bool.false_eq_true, false_or] at ht
          have e : u' = u := by
            have : vs[0]? = vs.toList[0]? := by simp
            rw [this, hvs] at hu
            simpa using hu
          subst e
          simp only [ownD']
          rw [hg k rfl]
          exact ht.1.1
      | _ => simp only [R.one.injEq] at hd; subst hd; exact ownD_freeze
    | _ => cases hd
  · rename_i hne
    cases r with
    | one d =>
      cases d with
      | ow e xs k =>
        simp only [tkR, tkD, tokIn, Bool.false_eq_true, false_or] at ht
        simp only [finTop, ownTop, ownD']
        rw [hg k rfl]
        exact ht.1
      | _ => simp only [finTop, ownTop]; exact ownD_freeze
    | tup rs =>
      cases rs with
      | nil => simp only [finTop, List.map_nil, ownTop]
      | cons r rs => exact absurd rfl (hne r rs)
    | _ => simp only [finTop, ownTop]
mutual
theorem noRef_of : (d : D) → d.hasRef = false → d.noRef = true
  | .ref _ _, h => by simp only [D.hasRef, Bool.true_eq_false] at h
  | .fn f caps, h => by simp only [D.hasRef] at h; simp only [D.noRef]; exact noRefs_of caps h
  | .cell c, h => by simp only [D.hasRef] at h; simp only [D.noRef]; exact noRefs_of c h
  | .g _ _, _ => by simp only [D.noRef]
  | .ow _ _ _, _ => by simp only [D.noRef]
  | .nilFn, _ => by simp only [D.noRef]
  | .nilPtr, _ => by simp only [D.noRef]
  | .undef, _ => by simp only [D.noRef]
  | .nilS _, _ => by simp only [D.noRef]
  | .vec _ _, _ => by simp only [D.noRef]
  | .sem _, _ => by simp only [D.noRef]
  | .vref _ _, h => by simp only [D.hasRef, Bool.true_eq_false] at h
  | .vat _ _, h => by simp only [D.hasRef, Bool.true_eq_false] at h
  | .chn _, h => by simp only [D.hasRef, Bool.true_eq_false] at h
theorem noRefs_of : (ds : List D) → hasRefs ds = false → noRefs ds = true
  | [], _ => by simp only [noRefs]
  | d :: ds, h => by
    simp only [hasRefs, Bool.or_eq_false_iff] at h
    simp only [noRefs, noRef_of d h.1, noRefs_of ds h.2, Bool.and_true]
end
theorem rdR_noRef {g g' : Gh} (hrd : g'.rd = g.rd) : (r : R) → (v : Value) → r.hasRef = false → rdR w g r v → rdR w g' r v
  | .one d, v, hb, h => by simp only [R.hasRef] at hb; simp only [rdR] at h ⊢; exact rdD_noRef hrd d v (noRef_of d hb) h
  | .agg ds, v, hb, h => by
    simp only [R.hasRef] at hb
    simp only [rdR] at h ⊢
    obtain ⟨vs, rfl, hl⟩ := h
    exact ⟨vs, rfl, rdL_noRef hrd ds _ (noRefs_of ds hb) hl⟩
  | .tup rs, v, hb, h => by simp only [R.hasRef, Bool.true_eq_false] at hb
  | .undef, v, _, h => by simp only [rdR]
  | .skip, v, _, h => by simpa only [rdR] using h
theorem rdRs_noRef {g g' : Gh} (hrd : g'.rd = g.rd) : (rs : List R) → (vs : List Value) → anyRef rs = false → rdRs w g rs vs → rdRs w g' rs vs
  | [], [], _, _ => by simp only [rdRs]
  | r :: rs, v :: vs, hb, h => by
    simp only [anyRef, Bool.or_eq_false_iff] at hb
    simp only [rdRs] at h ⊢
    exact ⟨rdR_noRef hrd r v hb.1 h.1, rdRs_noRef hrd rs vs hb.2 h.2⟩
  | [], _ :: _, _, h => by simp only [rdRs] at h
  | _ :: _, [], _, h => by simp only [rdRs] at h
theorem pureG_sound {g : R → R} (hg : ∀ (w : World) (γ : Gh) r v, rdR w γ r v → rdR w γ (g r) v) (hgo : ∀ (γ : Gh) dst r v, ownTop γ dst r v → ownTop γ dst (g r) v) (hce : EffOK E ce) : PureOK E (pureOfG g ce) := by
  intro f args r hr
  change (bif anyRef args || R.hasOwL args then none else ce R f args [] fun r h => some (g (fin h r))) = some r at hr
  cases hb : (anyRef args || R.hasOwL args) with
  | true => rw [hb] at hr; cases hr
  | false =>
    rw [hb] at hr
    simp only [cond_false] at hr
    simp only [Bool.or_eq_false_iff] at hb
    obtain ⟨h1, h2⟩ := hce R f args [] _ r hr
    refine ⟨h1, fun γ w vs dst hrd hf hbase hbx => ?_⟩
    let γ0 : Gh := ⟨[], γ.rd, fun _ => none, w.heap.size, 0⟩
    have hrd0 : rdRs w γ0 args vs := rdRs_noRef (g := γ) (g' := γ0) rfl args vs hb.1 hrd
    refine (h2 γ0 w vs hrd0 (tkRs_noOw args vs hb.2) ⟨rfl, fun i ds b hi => by simp at hi, List.nodup_nil⟩ ⟨fun k h hk => (by cases hk), fun k k' h h' hk => (by cases hk)⟩ hf (Nat.le_refl _)).mono fun e w' ⟨v, q, h', γ', he, hk, hext, hh, ho, hf', hb', hq, hqt, _⟩ => ?_
    simp only [Option.some.injEq] at hk
    subst hk
    have hb0 : γ'.base = w.heap.size := hext.base
    refine ⟨v, γ.back γ' dst ((headTok q).bind γ'.ow), he, ⟨hext.low, rfl, rfl, rfl, fun b hlt => ?_, fun b hge => ?_, fun k hk => ?_, fun hd hhd => ?_⟩, hg _ _ _ _ (fin_sound hh rfl hq), hgo _ _ _ _ (fin_own hqt fun k hk => ?_)⟩
    · have hnb : b ∉ γ'.bx := fun hm => by
        obtain ⟨i, hi⟩ := List.mem_iff_getElem?.1 hm
        have hlen : i < h'.length := by rw [hh.len]; exact (List.getElem?_eq_some_iff.1 hi).1
        have : γ'.base ≤ b := by
          rcases hh.box i h'[i] b (by simp) hi with g | g
          · exact g.base
          · exact g.1
        omega
      simp only [Gh.back, if_neg hnb]
      exact hext.rdlow b hlt
    · simp only [Gh.back]
      split
      · rfl
      · exact hf' b hge
    · simp only [Gh.back, if_neg hk]
    · simp only [Gh.back, if_true] at hhd
      obtain ⟨k, hk1, hk2⟩ := Option.bind_eq_some_iff.1 hhd
      obtain ⟨o1, o2⟩ := ho.own k hd hk2
      refine ⟨⟨o1, fun hc => ?_⟩, fun hc b o s hA => ?_⟩
      · obtain ⟨b, arr, ty, e1, e2, e3, e4, e5, e6⟩ := o2 hc
        refine ⟨b, arr, ty, e1, e2, e3, ?_, ?_, fun hm => ?_⟩
        · simp only [Gh.back, if_neg e6]; exact e4
        · simp only [Gh.back]; omega
        · have := hbx b hm; omega
      · obtain ⟨b', arr, ty, e1, e2, e3, e4, e5, e6⟩ := o2 hc
        rw [e1] at hA
        cases hA
        omega
    · simp only [Gh.back, if_true, hk, Option.bind_some]

theorem pure_sound (hce : EffOK E ce) : PureOK E (pureOf ce) := pureG_sound (g := fun r => r) (fun _ _ _ _ h => h) (fun _ _ _ _ h => h) hce
theorem calls_sound (hE : EnvOK E) : ∀ n, EffOK E (callE E n)
  | 0 => fun α g args h k res hr => by simp [callE] at hr
  | n + 1 => callBody_sound hE (pure_sound (calls_sound hE n)) (calls_sound hE n)
/-- what the evaluator says of a call, the machine does -/
theorem callP_sound (hE : EnvOK E) (n : Nat) : PureOK E (callP E n) := pure_sound (calls_sound hE n)
end
end Go.V
/- What is asked of the tables, as a check that runs. -/
namespace Go.V
open Go.RowKit
set_option linter.unusedVariables false

def zeroB1 : D → Value → Bool
  | .g (.int k) x, .int k' y => decide (k = k') && decide (x = y)
  | .g .bool x, .bool y => x == y
  | .g (.sl _) [], .slice none 0 0 => true
  | .nilFn, .nilFunc => true
  | .nilPtr, .pointer none => true
  | .undef, .int _ _ => true
  | .undef, .bool _ => true
  | .undef, .string _ => true
  | _, _ => false
def zeroB : List D → List Value → Bool
  | [], [] => true
  | d :: ds, v :: vs => zeroB1 d v && zeroB ds vs
  | _, _ => false
theorem zeroB1_sound {w : World} {γ : Gh} {d : D} {v : Value} (h : zeroB1 d v = true) : rdD w γ d v ∧ d.strip = d := by
  unfold zeroB1 at h
  split at h
  · simp only [Bool.and_eq_true, decide_eq_true_eq] at h
    obtain ⟨rfl, rfl⟩ := h
    exact ⟨by simp only [rdD, rdT], rfl⟩
  · have := eq_of_beq h
    subst this
    exact ⟨by simp only [rdD, rdT], rfl⟩
  · refine ⟨?_, rfl⟩
    simp only [rdD, rdT]
    exact ⟨none, 0, rfl, Nat.le_refl _, fun i hi => absurd hi (by simp)⟩
  · exact ⟨by simp only [rdD], rfl⟩
  · exact ⟨by simp only [rdD], rfl⟩
  · exact ⟨by simp only [rdD]; trivial, rfl⟩
  · exact ⟨by simp only [rdD]; trivial, rfl⟩
  · exact ⟨by simp only [rdD]; trivial, rfl⟩
  · cases h
theorem zeroB_sound {w : World} {γ : Gh} : ∀ {ds : List D} {vs : List Value}, zeroB ds vs = true → rdL w γ ds vs ∧ ds.map D.strip = ds
  | [], [], _ => ⟨by simp only [rdL], rfl⟩
  | d :: ds, v :: vs, h => by
    simp only [zeroB, Bool.and_eq_true] at h
    obtain ⟨h1, h2⟩ := zeroB1_sound (w := w) (γ := γ) h.1
    obtain ⟨h3, h4⟩ := zeroB_sound (w := w) (γ := γ) h.2
    exact ⟨by simp only [rdL]; exact ⟨h1, h3⟩, by rw [List.map_cons, h2, h4]⟩
  | [], _ :: _, h => by cases h
  | _ :: _, [], h => by cases h
def notTup : TD → Bool
  | .tup _ => false
  | _ => true
theorem notTup_sound {d : TD} (h : notTup d = true) (ts : List Nat) : d ≠ .tup ts := by rintro rfl; cases h
def elemB (E : Env) (e : Nat) : Bool := match E.ti e with
  | some te => notTup te.d
  | none => true
theorem elemB_sound {E : Env} {e : Nat} (h : elemB E e = true) : ∀ te, E.ti e = some te → ∀ ts, te.d ≠ .tup ts := fun te hte ts => by
  unfold elemB at h
  rw [hte] at h
  exact notTup_sound h ts
def fieldsB (E : Env) (fields : Array Field) : Nat → List (Nat × Nat) → Bool
  | _, [] => true
  | i, (off, ft) :: fs => (match fields[i]? with
    | some f => f.offset.beq off && Nat.beq f.type ft && elemB E ft && (match E.P.info? ft with
      | some i => !(i.size.beq 0)
      | none => false)
    | none => false) && fieldsB E fields (i + 1) fs
theorem fieldsB_sound {E : Env} {fields : Array Field} : ∀ {fs : List (Nat × Nat)} {j : Nat}, fieldsB E fields j fs = true → ∀ (i off ft : Nat), fs[i]? = some (off, ft) → ∃ f, fields[j + i]? = some f ∧ f.offset = off ∧ f.type = ft ∧
    (∀ te, E.ti ft = some te → ∀ ts, te.d ≠ .tup ts) ∧ ∃ i, E.P.info? ft = some i ∧ i.size ≠ 0
  | [], j, _, i, off, ft, hi => by simp at hi
  | (o, t) :: fs, j, h, i, off, ft, hi => by
    simp only [fieldsB, Bool.and_eq_true] at h
    cases i with
    | zero =>
      simp only [List.getElem?_cons_zero, Option.some.injEq, Prod.mk.injEq] at hi
      obtain ⟨rfl, rfl⟩ := hi
      have h1 := h.1
      split at h1
      · rename_i f hf
        simp only [Bool.and_eq_true, nbeq] at h1
        obtain ⟨⟨⟨a1, a2⟩, a3⟩, a4⟩ := h1
        split at a4
        · rename_i x hx
          exact ⟨f, by simpa using hf, a1, a2, elemB_sound a3, x, hx, by simpa [nbeq_false] using a4⟩
        · cases a4
      · cases h1
    | succ i =>
      obtain ⟨f, h1, h2⟩ := fieldsB_sound h.2 i off ft (by simpa using hi)
      exact ⟨f, by rw [show j + (i + 1) = j + 1 + i by omega]; exact h1, h2⟩
def descB (E : Env) (t : Nat) (d : TD) : Bool := match d, E.P.underlying t with
  | .int k, some (.int k') => decide (k = k')
  | .bool, some .bool => true
  | .slice e, some (.slice e') => Nat.beq e e' && elemB E e
  | .array n e, some (.array n' e') => Nat.beq n n' && Nat.beq e e' && elemB E e
  | .struct fs, some (.struct fields) => fs.length.beq fields.size && fieldsB E fields 0 fs
  | .ptr e, some (.pointer e') => Nat.beq e e'
  | .func, some (.func _ _ _) => true
  | .tup _, _ => true
  | _, _ => false
theorem zeroB_nilz {w : World} {γ : Gh} : ∀ {ds : List D} {vs : List Value}, zeroB ds vs = true → rdL w γ (ds.map D.nilz) vs ∧ (ds.map D.nilz).map D.strip = ds.map D.nilz
  | [], [], _ => ⟨by simp only [List.map_nil, rdL], rfl⟩
  | d :: ds, v :: vs, h => by
    simp only [zeroB, Bool.and_eq_true] at h
    obtain ⟨h1, h2⟩ := zeroB1_sound (w := w) (γ := γ) h.1
    obtain ⟨h3, h4⟩ := zeroB_nilz (w := w) (γ := γ) h.2
    have key : rdD w γ d.nilz v ∧ d.nilz.strip = d.nilz := by
      have q := h.1
      unfold zeroB1 at q
      split at q
      case h_3 => exact ⟨by simp only [D.nilz, rdD], rfl⟩
      all_goals first | exact ⟨h1, h2⟩ | cases q
    exact ⟨by simp only [List.map_cons, rdL]; exact ⟨key.1, h3⟩, by rw [List.map_cons, List.map_cons, key.2, h4]⟩
  | [], _ :: _, h => by cases h
  | _ :: _, [], h => by cases h
def infoB (E : Env) (t : Nat) (ti : TI) : Bool := match E.P.info? t with
  | some i => i.size.beq ti.size && i.bytes.ble 65536 && (match i.zero with
    | some z => z.cells.size.beq ti.size && zeroB ti.zero z.cells.toList
    | none => false)
  | none => false
def tiB (E : Env) (t : Nat) (ti : TI) : Bool := (ti.agg == isAggD ti.d) && (!(notTup ti.d) || infoB E t ti) && descB E t ti.d && (notTup ti.d || ti.gl.isNone)
theorem tiB_sound {E : Env} {t : Nat} {ti : TI} (h : tiB E t ti = true) : TiOK E t ti := by
  simp only [tiB, Bool.and_eq_true, Bool.or_eq_true, Bool.not_eq_true'] at h
  obtain ⟨⟨⟨h1, h2⟩, h3⟩, h4⟩ := h
  refine ⟨eq_of_beq h1, fun hn => ?_, ?_, fun ts hts => ?_⟩
  · have hi : infoB E t ti = true := h2.resolve_left fun e => by
      cases hd : ti.d <;> first | exact hn _ hd | (rw [hd] at e; cases e)
    unfold infoB at hi
    split at hi
    · rename_i i hi'
      simp only [Bool.and_eq_true, nbeq] at hi
      obtain ⟨⟨a1, a2⟩, a3⟩ := hi
      split at a3
      · rename_i z hz
        simp only [Bool.and_eq_true, nbeq] at a3
        exact ⟨i, hi', a1, Nat.le_of_ble_eq_true a2, z, hz, a3.1, fun w γ => (zeroB_sound a3.2).1, (zeroB_sound (w := default) (γ := ⟨[], fun _ => none, fun _ => none, 0, 0⟩) a3.2).2, fun f d => by
          unfold zeroOf
          cases mem d ((look E.nils f).getD []) with
          | true => exact ⟨fun w γ => (zeroB_nilz a3.2).1, (zeroB_nilz (w := default) (γ := ⟨[], fun _ => none, fun _ => none, 0, 0⟩) a3.2).2⟩
          | false => exact ⟨fun w γ => (zeroB_sound a3.2).1, (zeroB_sound (w := default) (γ := ⟨[], fun _ => none, fun _ => none, 0, 0⟩) a3.2).2⟩⟩
      · cases a3
    · cases hi
  · generalize hd : ti.d = d at h3
    unfold descB at h3
    split at h3
    · rename_i k k' hu; simp only [decide_eq_true_eq] at h3; subst h3; exact hu
    · rename_i hu; exact hu
    · rename_i e e' hu; simp only [Bool.and_eq_true, nbeq] at h3; obtain ⟨rfl, h3⟩ := h3; exact ⟨hu, elemB_sound h3⟩
    · rename_i n e n' e' hu; simp only [Bool.and_eq_true, nbeq] at h3; obtain ⟨⟨rfl, rfl⟩, h3⟩ := h3; exact ⟨hu, elemB_sound h3⟩
    · rename_i fs fields hu
      simp only [Bool.and_eq_true, nbeq] at h3
      exact ⟨fields, hu, h3.1, fun i off ft hi => by have := fieldsB_sound h3.2 i off ft hi; rwa [Nat.zero_add] at this⟩
    · rename_i e e' hu; simp only [nbeq] at h3; subst h3; exact hu
    · rename_i a b c hu; exact ⟨a, b, c, hu⟩
    · trivial
    · cases h3
  · rcases h4 with h4 | h4
    · rw [hts] at h4; cases h4
    · simpa using h4
def tabB (E : Env) : List (Nat × TI) → Bool
  | [] => true
  | (t, ti) :: l => tiB E t ti && tabB E l
theorem tabB_sound {E : Env} : ∀ {l : List (Nat × TI)}, tabB E l = true → ∀ t ti, look l t = some ti → TiOK E t ti
  | [], _, t, ti, h => by simp [look] at h
  | (s, q) :: l, h, t, ti, hl => by
    simp only [tabB, Bool.and_eq_true] at h
    simp only [look] at hl
    cases hb : Nat.beq s t with
    | true => rw [hb] at hl; cases hl; obtain rfl := nbeq.1 hb; exact tiB_sound h.1
    | false => rw [hb] at hl; exact tabB_sound h.2 t ti hl
def fnsB : List Func → Bool
  | [] => true
  | fn :: l => (fn.body.isNone || !(fn.name == "runtime.NumGoroutine")) && fnsB l
theorem fnsB_sound : ∀ {l : List Func}, fnsB l = true → ∀ (f : Nat) fn, l[f]? = some fn → fn.body.isSome = true → (fn.name == "runtime.NumGoroutine") = false
  | [], _, f, fn, h, _ => by simp at h
  | x :: l, h, 0, fn, hi, hb => by
    simp only [fnsB, Bool.and_eq_true, Bool.or_eq_true, Bool.not_eq_true'] at h
    simp at hi
    subst hi
    rcases h.1 with h1 | h1
    · cases hx : x.body with
      | none => rw [hx] at hb; cases hb
      | some c => rw [hx] at h1; cases h1
    · exact h1
  | x :: l, h, f + 1, fn, hi, hb => by
    simp only [fnsB, Bool.and_eq_true] at h
    exact fnsB_sound h.2 f fn (by simpa using hi) hb
theorem envOK {E : Env} (h1 : tabB E E.tab = true) (h2 : E.P.follows .mixedOrders = true) (h3 : fnsB E.P.funcs.toList = true) (h4 : E.eqs = []) (h5 : E.cnts = []) : EnvOK E :=
  ⟨(fun g hg => by rw [h5] at hg; cases hg), fun t ti ht => tabB_sound h1 t ti ht, h2, fun f fn hf hb => fnsB_sound h3 f fn (by simpa using hf) hb, fun t ht => by rw [h4] at ht; cases ht⟩
end Go.V
/- The evaluator in use: tables of what calls hand back; a statement's walk. -/
namespace Go.V
open Go.RowKit
set_option linter.unusedVariables false
variable {E : Env} {cp : CallP} {ce : CallE}

def noE : CallE := fun _ _ _ _ _ => none
theorem noE_ok : EffOK E noE := fun α g args h k res hr => by cases hr
/-- a table with one more function in it -/
def withF (cp : CallP) (f : Nat) (e : List R → Option R) : CallP := .of fun g args => bif Nat.beq f g then e args else cp g args
theorem with_ok {f : Nat} {e : List R → Option R} (hcp : PureOK E cp) (h : ∀ args r, e args = some r → ∃ cp', PureOK E cp' ∧ cp' f args = some r) : PureOK E (withF cp f e) := by
  intro g args r hr
  change (bif Nat.beq f g then e args else cp g args) = some r at hr
  cases hb : Nat.beq f g with
  | true =>
    obtain rfl := nbeq.1 hb
    rw [hb] at hr
    obtain ⟨cp', h1, h2⟩ := h args r hr
    exact h1 f args r h2
  | false => rw [hb] at hr; exact hcp g args r hr
/-- one function, by its body; what it calls stands in the table -/
noncomputable def step (E : Env) (cp : CallP) : CallP := pureOf (callBody E cp noE)
theorem step_ok (hE : EnvOK E) (hcp : PureOK E cp) : PureOK E (step E cp) := pure_sound (callBody_sound hE hcp noE_ok)
theorem walk_of {f : Nat} {args : List R} {vs : List Value} {r : R} (h : PureOK E cp) (hr : cp f args = some r) (w : World) (hrd : ∀ γ : Gh, (∀ b, γ.rd b = none) → rdRs w γ args vs) :
    Calls E.P f vs.toArray w fun e w' => ∃ v γ', e = .returned v ∧ Below w.heap.size w w' ∧ rdR w' γ' r v :=
  ((h f args r hr).2 ⟨[], fun _ => none, fun _ => none, w.heap.size, 0⟩ w vs 0 (hrd _ fun _ => rfl) (fun _ _ => rfl) (Nat.le_refl _) (fun b hb => by cases hb)).mono fun e w' ⟨v, γ', h1, h2, h3, _⟩ => ⟨v, γ', h1, h2.below, h3⟩
theorem walk_true {f : Nat} {args : List R} {vs : List Value} (h : PureOK E cp) (hr : cp f args = some (.one (.g .bool true))) (w : World) (hrd : ∀ γ : Gh, (∀ b, γ.rd b = none) → rdRs w γ args vs) :
    Calls E.P f vs.toArray w fun e w' => e = .returned (.bool true) ∧ Below w.heap.size w w' :=
  (walk_of h hr w hrd).mono fun e w' ⟨v, γ', h1, h2, h3⟩ => by
    simp only [rdR, rdD, rdT] at h3
    subst h3
    exact ⟨h1, h2⟩
end Go.V
namespace Go
open Go.ChangeShapes Go.WideShapes Go.ChangeAt Go.RowKit
section
variable {H : Type} {enc : TypeId × Value → H} {P : Program}
/-- what a statement asks of the end, where nothing is asked again -/
theorem post_flat {f : Func} {s : ChangeSpec} {apart fresh handsOn : Bool} {W W' : World} {args : Array Value} {v : Value} {ds gs : List (DataW H)} {before pa pv : List MemPlace}
    (hW : DataW.Whole enc P f.params.toList s.vars apart W args.toList ds gs before)
    (hres : ∀ (b : Nat) (sp : Nat → Bool) (hd : Bool), DataW.TrodAll enc P W' b sp hd f.resultTypes.toList (v.resultList f.resultTypes.size) (s.fn H (ds ++ gs)).results [])
    (hargs : ∀ sp : Nat → Bool, (∀ p ∈ before, sp p.block = true) → DataW.TrodAll enc P W' 0 sp true f.params.toList args.toList (s.fn H (ds ++ gs)).args pa)
    (hvars : ∀ sp : Nat → Bool, (∀ p ∈ before, sp p.block = true) → DataW.TrodVars enc P W' sp s.vars (s.fn H (ds ++ gs)).vars pv)
    (hps : before = pa ++ pv) (hk : W.keptBut W' (· ∈ before)) :
    s.post enc P f apart fresh handsOn false W args v W' := by
  have hold : ∀ p ∈ before, (fun b => decide (b < W.heap.size)) p.block = true := fun p hp => by simpa using hW.lt p hp
  refine ⟨ds, gs, before, [], pa, pv, hW, hres _ _ _, hargs _ hold, hvars _ hold, World.keptBut_mono (fun p hp => ⟨hp, ?_⟩) hk, fun h => by cases h⟩
  rw [hps, List.mem_append] at hp
  exact Or.inr hp
end
end Go
namespace Go.V
/-- a function's code, and its parts -/
def codeOf (P : Program) (f : Nat) : Code := match P.funcs[f]? with
  | some fn => match fn.body with
    | some c => c
    | none => .skip
  | none => .skip
def _root_.Go.Code.l : Code → Code
  | .seq a _ => a
  | c => c
def _root_.Go.Code.r : Code → Code
  | .seq _ b => b
  | c => c
def resultsOf (P : Program) (f : Nat) : List ResultVar := match P.funcs[f]? with
  | some fn => fn.results.toList
  | none => []
/-- what is done when a call that only computes ends -/
def kEnd (E : Env) (f : Nat) : Kont R := fun e st => match e with
  | .exit _ => none
  | _ => meltK (resultsOf E.P f) st fun st => match resR E (resultsOf E.P f) st with
    | some r => some (fin (thinH E f (cutH 0 r st.heap)) (thinR E f r))
    | none => none
theorem bif_k {τ α : Type} {c : Bool} (K : τ → α) {A B : α} {a b : τ} (ha : A = K a) (hb : B = K b) : (bif c then A else B) = K (bif c then a else b) := by cases c <;> assumption
end Go.V
namespace Go.V
variable {E : Env} {cp : CallP}
def bodyB (P : Program) (f : Nat) (args : List R) (nt : Nat) : Bool := match P.funcs[f]? with
  | some fn => fn.body.isSome && fn.ntmps.beq nt && args.length.ble nt && !(anyRef args || R.hasOwL args)
  | none => false
theorem step_is {f nt : Nat} {args : List R} {regs : List (Nat × R)} (h : bodyB E.P f args nt = true) (hr : initRegs 0 args = regs) :
    step E cp f args = runCode E f cp noE (codeOf E.P f) ⟨regs, [], [], nt, 0⟩ (kEnd E f) := by
  unfold bodyB at h
  change (bif anyRef args || R.hasOwL args then none else callBody E cp noE R f args [] fun r h => some (fin h r)) = _
  unfold callBody codeOf kEnd resultsOf
  cases hf : E.P.funcs[f]? with
  | none => rw [hf] at h; cases h
  | some fn =>
    rw [hf] at h
    simp only [Bool.and_eq_true, nbeq, Bool.not_eq_true'] at h
    obtain ⟨⟨⟨h1, h2⟩, h3⟩, h4⟩ := h
    cases hb : fn.body with
    | none => rw [hb] at h1; cases h1
    | some c =>
      simp only [hb, h4, cond_false, ← h2, hr]
      rw [h2, h3]
      simp only [cond_true]
      rfl
end Go.V
namespace Go.V
variable {E : Env} {cp : CallP} {ce : CallE}
def regOps : Code → List Oper
  | .region _ ops _ => ops.toList
  | _ => []
def _root_.Go.Code.t : Code → Code
  | .cond _ a _ => a
  | c => c
def _root_.Go.Code.e : Code → Code
  | .cond _ _ b => b
  | c => c
def opAt (all : List Oper) (n : Nat) : Oper := (all[n]?).getD ⟨none, .alloc 0, 0, default, #[], none⟩
def callOf (o : Oper) : Call := match o.op with
  | .call c => c
  | _ => ⟨.builtin .len, #[], #[]⟩
def calleeOf (c : Call) : Operand := match c.callee with
  | .value x => x
  | _ => .tmp 0
theorem bif_t {α : Type} {c : Bool} {A B X : α} (hc : c = true) (ha : A = X) : (bif c then A else B) = X := by rw [hc]; exact ha
theorem bif_f {α : Type} {c : Bool} {A B X : α} (hc : c = false) (hb : B = X) : (bif c then A else B) = X := by rw [hc]; exact hb
end Go.V
namespace Go.V
variable {E : Env} {cp : CallP} {ce : CallE} {f : Nat}
def condOf : Code → Operand
  | .cond x _ _ => x
  | _ => .tmp 0
theorem cond_eq {α : Type} {c : Code} {st st' : St} {k : Kont α} {b : Bool} (hc : c = .cond (condOf c) c.t c.e) (hx : evalO E 0 (look st.regs) (condOf c) = some (.one (.g .bool b))) (hs : st.past E f (condOf c) = st') :
    runCode E f cp ce c st k = bif b then runCode E f cp ce c.t st' k else runCode E f cp ce c.e st' k := by
  have e : runCode E f cp ce c st k = runCode E f cp ce (.cond (condOf c) c.t c.e) st k := congrArg (fun z => runCode E f cp ce z st k) hc
  rw [e]
  simp only [runCode, hx, hs]
end Go.V
/- Contracts: what a call computes, told by a plain function; rules that join pieces of code. -/
namespace Go.V
open Go.RowKit
set_option linter.unusedVariables false
variable {E : Env} {cp : CallP} {ce : CallE} {f : Nat}

/-! ### Short words for data -/
abbrev di (x : Int) : D := .g (.int .i64) x
abbrev dk (k : IntKind) (x : Int) : D := .g (.int k) x
abbrev db (x : Bool) : D := .g .bool x
abbrev dl (e : Ts) (xs : List e.den) : D := .g (.sl e) xs
abbrev ri (x : Int) : R := .one (di x)
abbrev rk (k : IntKind) (x : Int) : R := .one (dk k x)
abbrev rb (x : Bool) : R := .one (db x)
abbrev rl (e : Ts) (xs : List e.den) : R := .one (dl e xs)
abbrev rF (i : Nat) : R := .one (.ref i 0)
abbrev rO (e : Ts) (xs : List e.den) (v : Nat) : R := .one (.ow e xs (.v v))
abbrev rA (e : Ts) (x : e.den) : R := .agg (e.leaves x)
abbrev rC (e : Ts) (x : e.den) : R := .one (.cell (e.leaves x))
/-- an element; without the bounds the given one -/
def gt {α : Type} (xs : List α) (i : Int) (d : α) : α := xs.getD i.toNat d

/-! ### Shapes of what goes in and comes out -/
mutual
inductive Ps where
  | g (t : T) | ow (e : Ts) | fn (f : Nat) (caps : Pss) | cell (c : Pss) | ref (i off : Nat) | nilFn | nilPtr | undef | alt (a b : Ps) | owh (e : Ts) (i off : Nat) | vec (t : T) | vref (i : Nat) | chn (i : Nat) | sem
inductive Pss where
  | nil | cons (p : Ps) (ps : Pss)
end
mutual
@[reducible] def Ps.den : Ps → Type
  | .g t => t.den
  | .ow e => List e.den
  | .fn _ caps => caps.den
  | .cell c => c.den
  | .ref _ _ => Unit
  | .nilFn => Unit
  | .nilPtr => Unit
  | .undef => Unit
  | .alt a b => a.den ⊕ b.den
  | .owh e _ _ => List e.den
  | .vec t => List t.den
  | .vref _ => Nat
  | .chn _ => Unit
  | .sem => List Int
@[reducible] def Pss.den : Pss → Type
  | .nil => Unit
  | .cons p ps => p.den × ps.den
end
mutual
def Ps.enc : (p : Ps) → p.den → D
  | .g t, x => .g t x
  | .ow e, x => .ow e x (.s 0)
  | .fn f caps, x => .fn f (caps.enc x)
  | .cell c, x => .cell (c.enc x)
  | .ref i off, _ => .ref i off
  | .nilFn, _ => .nilFn
  | .nilPtr, _ => .nilPtr
  | .undef, _ => .undef
  | .alt a b, x => match x with
    | .inl u => a.enc u
    | .inr v => b.enc v
  | .owh e i off, x => .ow e x (.h i off)
  | .vec t, xs => .vec t xs
  | .vref i, n => .vref i n
  | .chn i, _ => .chn i
  | .sem, cs => .sem cs
def Pss.enc : (ps : Pss) → ps.den → List D
  | .nil, _ => []
  | .cons p ps, x => p.enc x.1 :: ps.enc x.2
end
mutual
/-- what is done with a datum, case by case -/
def Ps.app {α : Type} : (p : Ps) → p.den → (D → α) → α
  | .g t, x, k => k (.g t x)
  | .ow e, x, k => k (.ow e x (.s 0))
  | .fn f caps, x, k => caps.app x fun ds => k (.fn f ds)
  | .cell c, x, k => c.app x fun ds => k (.cell ds)
  | .ref i off, _, k => k (.ref i off)
  | .nilFn, _, k => k .nilFn
  | .nilPtr, _, k => k .nilPtr
  | .undef, _, k => k .undef
  | .alt a b, x, k => match x with
    | .inl u => a.app u k
    | .inr v => b.app v k
  | .owh e i off, x, k => k (.ow e x (.h i off))
  | .vec t, xs, k => k (.vec t xs)
  | .vref i, n, k => k (.vref i n)
  | .chn i, _, k => k (.chn i)
  | .sem, cs, k => k (.sem cs)
def Pss.app {α : Type} : (ps : Pss) → ps.den → (List D → α) → α
  | .nil, _, k => k []
  | .cons p ps, x, k => p.app x.1 fun d => ps.app x.2 fun ds => k (d :: ds)
end
mutual
theorem Ps.app_eq {α : Type} : (p : Ps) → (x : p.den) → (k : D → α) → p.app x k = k (p.enc x)
  | .g t, x, k => by simp only [Ps.app, Ps.enc]
  | .ow e, x, k => by simp only [Ps.app, Ps.enc]
  | .fn f caps, x, k => by simp only [Ps.app, Ps.enc]; exact Pss.app_eq caps x _
  | .cell c, x, k => by simp only [Ps.app, Ps.enc]; exact Pss.app_eq c x _
  | .ref i off, _, k => by simp only [Ps.app, Ps.enc]
  | .nilFn, _, k => by simp only [Ps.app, Ps.enc]
  | .nilPtr, _, k => by simp only [Ps.app, Ps.enc]
  | .undef, _, k => by simp only [Ps.app, Ps.enc]
  | .owh _ _ _, _, k => by simp only [Ps.app, Ps.enc]
  | .vec _, _, k => by simp only [Ps.app, Ps.enc]
  | .vref _, _, k => by simp only [Ps.app, Ps.enc]
  | .chn _, _, k => by simp only [Ps.app, Ps.enc]
  | .sem, _, k => by simp only [Ps.app, Ps.enc]
  | .alt a b, x, k => by
    cases x with
    | inl u => simp only [Ps.app, Ps.enc]; exact Ps.app_eq a u k
    | inr v => simp only [Ps.app, Ps.enc]; exact Ps.app_eq b v k
theorem Pss.app_eq {α : Type} : (ps : Pss) → (x : ps.den) → (k : List D → α) → ps.app x k = k (ps.enc x)
  | .nil, _, k => by simp only [Pss.app, Pss.enc]
  | .cons p ps, x, k => by
    simp only [Pss.app, Pss.enc]
    rw [Ps.app_eq p x.1, Pss.app_eq ps x.2]
end
def unG (t : T) : D → Option t.den := unLeaf t
mutual
def Ps.dec : (p : Ps) → D → Option p.den
  | .g t, d => unLeaf t d
  | .ow e, d => none
  | .fn f caps, .fn f' ds => bif Nat.beq f f' then caps.dec ds else none
  | .cell c, .cell ds => c.dec ds
  | .ref i off, .ref i' off' => bif Nat.beq i i' && Nat.beq off off' then some () else none
  | .nilFn, .nilFn => some ()
  | .nilPtr, .nilPtr => some ()
  | .undef, .undef => some ()
  | .owh e i off, .ow e' xs (.h i' off') => bif Nat.beq i i' && Nat.beq off off' then if h : Ts.beq e' e = true then some (castL h xs) else none else none
  | .vec t, .vec t' xs => if h : T.beq t' t = true then some (T.eq_of_beq h ▸ xs) else none
  | .vref i, .vref i' n => bif Nat.beq i i' then some n else none
  | .chn i, .chn i' => bif Nat.beq i i' then some () else none
  | .sem, .sem cs => some cs
  | .alt a b, d => match a.dec d with
    | some u => some (.inl u)
    | none => match b.dec d with
      | some v => some (.inr v)
      | none => none
  | _, _ => none
def Pss.dec : (ps : Pss) → List D → Option ps.den
  | .nil, [] => some ()
  | .cons p ps, d :: ds => match p.dec d with
    | some x => match ps.dec ds with
      | some y => some (x, y)
      | none => none
    | none => none
  | _, _ => none
end
theorem unLeaf_eq {t : T} {d : D} {x : t.den} (h : unLeaf t d = some x) : d = .g t x := by
  unfold unLeaf at h
  split at h
  · rename_i u y
    split at h
    · rename_i hb
      cases h
      have := T.eq_of_beq hb
      subst this
      rfl
    · cases h
  · cases h
mutual
theorem Ps.dec_eq : (p : Ps) → (d : D) → (x : p.den) → p.dec d = some x → d = p.enc x
  | .g t, d, x, h => by simp only [Ps.dec] at h; simp only [Ps.enc]; exact unLeaf_eq h
  | .ow e, d, x, h => by simp only [Ps.dec, reduceCtorEq] at h
  | .fn f caps, d, x, h => by
    cases d <;> simp only [Ps.dec, reduceCtorEq] at h
    rename_i f' ds
    cases hb : Nat.beq f f' with
    | false => rw [hb] at h; cases h
    | true =>
      rw [hb] at h
      obtain rfl := nbeq.1 hb
      simp only [Ps.enc]
      rw [Pss.dec_eq caps ds x h]
  | .cell c, d, x, h => by
    cases d <;> simp only [Ps.dec, reduceCtorEq] at h
    rename_i ds
    simp only [Ps.enc]
    rw [Pss.dec_eq c ds x h]
  | .ref i off, d, x, h => by
    cases d <;> simp only [Ps.dec, reduceCtorEq] at h
    rename_i i' off'
    cases hb : (Nat.beq i i' && Nat.beq off off') with
    | false => rw [hb] at h; cases h
    | true =>
      simp only [Bool.and_eq_true] at hb
      obtain rfl := nbeq.1 hb.1
      obtain rfl := nbeq.1 hb.2
      simp only [Ps.enc]
  | .nilFn, d, x, h => by cases d <;> simp only [Ps.dec, reduceCtorEq] at h; simp only [Ps.enc]
  | .nilPtr, d, x, h => by cases d <;> simp only [Ps.dec, reduceCtorEq] at h; simp only [Ps.enc]
  | .undef, d, x, h => by cases d <;> simp only [Ps.dec, reduceCtorEq] at h; simp only [Ps.enc]
  | .owh e i off, d, x, h => by
    cases d
    case ow e' xs tk =>
      cases tk
      case h i' off' =>
        simp only [Ps.dec] at h
        cases hb : (Nat.beq i i' && Nat.beq off off') with
        | false => simp [hb] at h
        | true =>
          simp only [hb, cond_true] at h
          simp only [Bool.and_eq_true] at hb
          obtain rfl := nbeq.1 hb.1
          obtain rfl := nbeq.1 hb.2
          split at h
          · rename_i hb
            have := Ts.eq_of_beq hb
            subst this
            cases h
            simp only [Ps.enc]
            rfl
          · cases h
      all_goals simp only [Ps.dec, reduceCtorEq] at h
    all_goals simp only [Ps.dec, reduceCtorEq] at h
  | .vec t, d, x, h => by
    cases d <;> simp only [Ps.dec, reduceCtorEq] at h
    rename_i t' xs
    split at h
    · rename_i hb
      have := T.eq_of_beq hb
      subst this
      cases h
      simp only [Ps.enc]
    · cases h
  | .vref i, d, x, h => by
    cases d <;> simp only [Ps.dec, reduceCtorEq] at h
    obtain ⟨hb, h⟩ := bif_some h
    cases h
    rw [nbeq.1 hb]
    simp only [Ps.enc]
  | .chn i, d, x, h => by
    cases d <;> simp only [Ps.dec, reduceCtorEq] at h
    obtain ⟨hb, h⟩ := bif_some h
    rw [nbeq.1 hb]
    simp only [Ps.enc]
  | .sem, d, x, h => by
    cases d <;> simp only [Ps.dec, reduceCtorEq] at h
    cases h
    simp only [Ps.enc]
  | .alt a b, d, x, h => by
    simp only [Ps.dec] at h
    split at h
    · rename_i u hu
      cases h
      simp only [Ps.enc]
      exact Ps.dec_eq a d u hu
    · split at h
      · rename_i v hv
        cases h
        simp only [Ps.enc]
        exact Ps.dec_eq b d v hv
      · cases h
theorem Pss.dec_eq : (ps : Pss) → (ds : List D) → (x : ps.den) → ps.dec ds = some x → ds = ps.enc x
  | .nil, [], x, h => by simp only [Pss.enc]
  | .nil, _ :: _, x, h => by simp only [Pss.dec, reduceCtorEq] at h
  | .cons p ps, [], x, h => by simp only [Pss.dec, reduceCtorEq] at h
  | .cons p ps, d :: ds, x, h => by
    simp only [Pss.dec] at h
    split at h
    · rename_i u hu
      split at h
      · rename_i v hv
        cases h
        simp only [Pss.enc]
        rw [← Ps.dec_eq p d u hu, ← Pss.dec_eq ps ds v hv]
      · cases h
    · cases h
end
/-- an argument, or what comes out: one datum, or a struct's leaves; plain structs by their type -/
inductive Pr where
  | one (p : Ps) | agg (ts : Ts) | aggs (ps : Pss)
abbrev pI : Pr := .one (.g (.int .i64))
abbrev pB : Pr := .one (.g .bool)
abbrev pL (e : Ts) : Pr := .one (.g (.sl e))
@[reducible] def Pr.den : Pr → Type
  | .one p => p.den
  | .agg ts => ts.den
  | .aggs ps => ps.den
def Pr.enc : (p : Pr) → p.den → R
  | .one p, x => .one (p.enc x)
  | .agg ts, x => .agg (ts.leaves x)
  | .aggs ps, x => .agg (ps.enc x)
def Pr.app {α : Type} : (p : Pr) → p.den → (R → α) → α
  | .one p, x, k => p.app x fun d => k (.one d)
  | .agg ts, x, k => k (.agg (ts.leaves x))
  | .aggs ps, x, k => ps.app x fun ds => k (.agg ds)
theorem Pr.app_eq {α : Type} (p : Pr) (x : p.den) (k : R → α) : p.app x k = k (p.enc x) := by
  cases p with
  | one p => simp only [Pr.app, Pr.enc]; exact Ps.app_eq p x _
  | agg ts => simp only [Pr.app, Pr.enc]
  | aggs ps => simp only [Pr.app, Pr.enc]; exact Pss.app_eq ps x _
def Pr.dec : (p : Pr) → R → Option p.den
  | .one p, .one d => p.dec d
  | .agg ts, .agg ds => unleaves ts ds
  | .aggs ps, .agg ds => ps.dec ds
  | _, _ => none
theorem unleaves_eq : {ts : Ts} → {ds : List D} → {x : ts.den} → unleaves ts ds = some x → ds = ts.leaves x
  | .one t, ds, x, h => by
    match ds with
    | [] => simp [unleaves] at h
    | [d] => simp only [unleaves] at h; simp only [Ts.leaves]; rw [unLeaf_eq h]
    | _ :: _ :: _ => simp [unleaves] at h
  | .cons t ts, ds, x, h => by
    match ds with
    | [] => simp [unleaves] at h
    | d :: ds =>
      simp only [unleaves] at h
      split at h
      · rename_i u v hu hv
        cases h
        simp only [Ts.leaves]
        rw [unLeaf_eq hu, unleaves_eq hv]
      · cases h
theorem Pr.dec_eq (p : Pr) (r : R) (x : p.den) (h : p.dec r = some x) : r = p.enc x := by
  cases p with
  | one p => cases r <;> simp only [Pr.dec, reduceCtorEq] at h; simp only [Pr.enc]; rw [Ps.dec_eq p _ x h]
  | agg ts => cases r <;> simp only [Pr.dec, reduceCtorEq] at h; simp only [Pr.enc]; rw [unleaves_eq h]
  | aggs ps => cases r <;> simp only [Pr.dec, reduceCtorEq] at h; simp only [Pr.enc]; rw [Pss.dec_eq ps _ x h]
@[reducible] def denL : List Pr → Type
  | [] => Unit
  | p :: ps => p.den × denL ps
def encL : (l : List Pr) → denL l → List R
  | [], _ => []
  | p :: ps, x => p.enc x.1 :: encL ps x.2
def appL {α : Type} : (l : List Pr) → denL l → (List R → α) → α
  | [], _, k => k []
  | p :: ps, x, k => p.app x.1 fun r => appL ps x.2 fun rs => k (r :: rs)
theorem appL_eq {α : Type} : (l : List Pr) → (x : denL l) → (k : List R → α) → appL l x k = k (encL l x)
  | [], _, k => by simp only [appL, encL]
  | p :: ps, x, k => by simp only [appL, encL]; rw [Pr.app_eq p x.1, appL_eq ps x.2]
def decL : (l : List Pr) → List R → Option (denL l)
  | [], [] => some ()
  | p :: ps, r :: rs => match p.dec r with
    | some x => match decL ps rs with
      | some y => some (x, y)
      | none => none
    | none => none
  | _, _ => none
theorem decL_eq : (l : List Pr) → (rs : List R) → (x : denL l) → decL l rs = some x → rs = encL l x
  | [], [], x, h => by simp only [encL]
  | [], _ :: _, x, h => by simp only [decL, reduceCtorEq] at h
  | p :: ps, [], x, h => by simp only [decL, reduceCtorEq] at h
  | p :: ps, r :: rs, x, h => by
    simp only [decL] at h
    split at h
    · rename_i u hu
      split at h
      · rename_i v hv
        cases h
        simp only [encL]
        rw [← Pr.dec_eq p r u hu, ← decL_eq ps rs v hv]
      · cases h
    · cases h
/-- what comes out: one, or several -/
inductive Po where
  | one (p : Pr) | tup (l : List Pr) | unit
@[reducible] def Po.den : Po → Type
  | .one p => p.den
  | .tup l => denL l
  | .unit => Unit
def Po.enc : (p : Po) → p.den → R
  | .one p, x => p.enc x
  | .tup l, x => .tup (encL l x)
  | .unit, _ => .tup []
def Po.app {α : Type} : (p : Po) → p.den → (R → α) → α
  | .one p, x, k => p.app x k
  | .tup l, x, k => appL l x fun rs => k (.tup rs)
  | .unit, _, k => k (.tup [])
theorem Po.app_eq {α : Type} (p : Po) (x : p.den) (k : R → α) : p.app x k = k (p.enc x) := by
  cases p with
  | one p => simp only [Po.app, Po.enc]; exact Pr.app_eq p x k
  | tup l => simp only [Po.app, Po.enc]; exact appL_eq l x _
  | unit => simp only [Po.app, Po.enc]

/-! ### Contracts of calls that only compute -/
def withC {Y : Type} (cp : CallP) (f : Nat) (l : List Pr) (o : Po) (cv : Y → o.den) (sh : denL l → Option Y) : CallP where
  f g args := bif Nat.beq f g then (match decL l args with
    | some x => (sh x).bind fun y => some (o.enc (cv y))
    | none => cp.f g args) else cp.f g args
  k α g args q := bif Nat.beq f g then (match decL l args with
    | some x => (sh x).bind fun y => o.app (cv y) q
    | none => cp.k α g args q) else cp.k α g args q
  hk α g args q := by
    cases Nat.beq f g with
    | false => exact cp.hk α g args q
    | true =>
      simp only [cond_true]
      split
      · rename_i x _
        cases sh x with
        | none => rfl
        | some y => simp only [Option.bind_some, Po.app_eq]
      · exact cp.hk α g args q
theorem withC_ok {Y : Type} {l : List Pr} {o : Po} {cv : Y → o.den} {sh : denL l → Option Y} {cp' : CallP} (hcp : PureOK E cp) (hcp' : PureOK E cp') (h : ∀ x y, sh x = some y → cp' f (encL l x) = some (o.enc (cv y))) : PureOK E (withC cp f l o cv sh) := by
  intro g args r hr
  change (bif Nat.beq f g then (match decL l args with
    | some x => (sh x).bind fun y => some (o.enc (cv y))
    | none => cp.f g args) else cp.f g args) = some r at hr
  cases hb : Nat.beq f g with
  | true =>
    obtain rfl := nbeq.1 hb
    rw [hb] at hr
    simp only [cond_true] at hr
    split at hr
    · rename_i x hx
      rw [decL_eq l args x hx]
      obtain ⟨y, hy, hy2⟩ := Option.bind_eq_some_iff.1 hr
      exact hcp' f _ r ((h x y hy).trans hy2)
    · exact hcp f args r hr
  | false => rw [hb] at hr; exact hcp g args r hr
/-- from the equation of a function to what its contract asks -/
theorem con_of {Y : Type} {p : Option Y} {q : Option R} {enc : Y → R} (h : q = p.bind fun y => some (enc y)) : ∀ y, p = some y → q = some (enc y) := fun y hy => by rw [h, hy]; rfl

/-! ### What is handed back, with names or without -/
def noNames (r : R) : R := r.map D.strip
theorem ownD_strip (γ : Gh) (dst : Nat) (d : D) (v : Value) : ownD' γ dst d.strip v := by cases d <;> simp [D.strip, ownD']
theorem ownTop_strip (γ : Gh) (dst : Nat) (r : R) (v : Value) : ownTop γ dst r v → ownTop γ dst (noNames r) v := by
  intro _
  cases r with
  | one d => simp only [noNames, R.map, ownTop]; exact ownD_strip γ dst d v
  | tup rs =>
    cases rs with
    | nil => cases v <;> simp [noNames, R.map, R.mapL, ownTop]
    | cons r rs =>
      cases r <;> cases v <;> simp only [noNames, R.map, R.mapL, ownTop]
      exact fun u _ => ownD_strip γ dst _ u
  | _ => simp [noNames, R.map, ownTop]
noncomputable def stepS (E : Env) (cp : CallP) (ce : CallE) : CallP := pureOfG noNames (callBody E cp ce)
noncomputable def stepO (E : Env) (cp : CallP) (ce : CallE) : CallP := pureOfG (fun r => r) (callBody E cp ce)
theorem stepS_ok (hE : EnvOK E) (hcp : PureOK E cp) (hce : EffOK E ce) : PureOK E (stepS E cp ce) := pureG_sound (fun w γ r v h => (rdR_map nameOnly_strip r v).2 h) ownTop_strip (callBody_sound hE hcp hce)
theorem stepO_ok (hE : EnvOK E) (hcp : PureOK E cp) (hce : EffOK E ce) : PureOK E (stepO E cp ce) := pureG_sound (fun _ _ _ _ h => h) (fun _ _ _ _ h => h) (callBody_sound hE hcp hce)

theorem conS {Y : Type} {l : List Pr} {o : Po} {cv : Y → o.den} {sh : denL l → Option Y} (hE : EnvOK E) (hcp : PureOK E cp) (hce : EffOK E ce) (h : ∀ x, stepS E cp ce f (encL l x) = (sh x).bind fun y => some (Po.enc o (cv y))) : PureOK E (withC cp f l o cv sh) :=
  withC_ok hcp (stepS_ok hE hcp hce) fun x => con_of (enc := fun y => Po.enc o (cv y)) (h x)
theorem conO {Y : Type} {l : List Pr} {o : Po} {cv : Y → o.den} {sh : denL l → Option Y} (hE : EnvOK E) (hcp : PureOK E cp) (hce : EffOK E ce) (h : ∀ x, stepO E cp ce f (encL l x) = (sh x).bind fun y => some (Po.enc o (cv y))) : PureOK E (withC cp f l o cv sh) :=
  withC_ok hcp (stepO_ok hE hcp hce) fun x => con_of (enc := fun y => Po.enc o (cv y)) (h x)

/-! ### Contracts of calls that are handed boxes -/
def withE {X Y : Type} (ce : CallE) (f : Nat) (dec : List R → Heap → Option X) (o : Po) (cv : Y → o.den) (hp : X → Y → Heap) (sh : X → Option Y) : CallE := fun α g args h k =>
  bif Nat.beq f g then (match dec args h with
    | some x => (sh x).bind fun y => o.app (cv y) fun r => k r (hp x y)
    | none => ce α g args h k) else ce α g args h k
theorem withE_ok {X Y : Type} {dec : List R → Heap → Option X} {o : Po} {cv : Y → o.den} {hp : X → Y → Heap} {sh : X → Option Y} {ce' : CallE} (hce : EffOK E ce) (hce' : EffOK E ce')
    (h : ∀ α args hh x (k : R → Heap → Option α), dec args hh = some x → ce' α f args hh k = (sh x).bind fun y => k (o.enc (cv y)) (hp x y)) : EffOK E (withE ce f dec o cv hp sh) := by
  intro α g args hh k res hr
  unfold withE at hr
  cases hb : Nat.beq f g with
  | true =>
    obtain rfl := nbeq.1 hb
    rw [hb] at hr
    simp only [cond_true] at hr
    split at hr
    · rename_i x hx
      simp only [Po.app_eq] at hr
      exact hce' α f args hh k res (by rw [h α args hh x k hx]; exact hr)
    · exact hce α f args hh k res hr
  | false => rw [hb] at hr; exact hce α g args hh k res hr

/-- boxes, by their shapes -/
@[reducible] def denH : List Pss → Type
  | [] => Unit
  | p :: ps => p.den × denH ps
def encH : (l : List Pss) → denH l → Heap
  | [], _ => []
  | p :: ps, x => p.enc x.1 :: encH ps x.2
def decH : (l : List Pss) → Heap → Option (denH l)
  | [], [] => some ()
  | p :: ps, h :: hs => match p.dec h with
    | some x => match decH ps hs with
      | some y => some (x, y)
      | none => none
    | none => none
  | _, _ => none
theorem decH_eq : (l : List Pss) → (h : Heap) → (x : denH l) → decH l h = some x → h = encH l x
  | [], [], x, h => by simp only [encH]
  | [], _ :: _, x, h => by simp only [decH, reduceCtorEq] at h
  | p :: ps, [], x, h => by simp only [decH, reduceCtorEq] at h
  | p :: ps, r :: rs, x, h => by
    simp only [decH] at h
    split at h
    · rename_i u hu
      split at h
      · rename_i v hv
        cases h
        simp only [encH]
        rw [← Pss.dec_eq p r u hu, ← decH_eq ps rs v hv]
      · cases h
    · cases h
def decA (la : List Pr) (lh : List Pss) (args : List R) (h : Heap) : Option (denL la × denH lh) := match decL la args with
  | some x => match decH lh h with
    | some y => some (x, y)
    | none => none
  | none => none
theorem conE {Y : Type} {la : List Pr} {lh : List Pss} {o : Po} {cv : Y → o.den} {hp : denL la × denH lh → Y → Heap} {sh : denL la × denH lh → Option Y} (hE : EnvOK E) (hcp : PureOK E cp) (hce : EffOK E ce)
    (h : ∀ (α : Type) (x : denL la × denH lh) (k : R → Heap → Option α), callBody E cp ce α f (encL la x.1) (encH lh x.2) k = (sh x).bind fun y => k (Po.enc o (cv y)) (hp x y)) : EffOK E (withE ce f (decA la lh) o cv hp sh) :=
  withE_ok hce (callBody_sound hE hcp hce) fun α args hh x k hd => by
    unfold decA at hd
    split at hd
    · rename_i u hu
      split at hd
      · rename_i v hv
        cases hd
        rw [decL_eq la args u hu, decH_eq lh hh v hv]
        exact h α (u, v) k
      · cases hd
    · cases hd

/-! ### Pieces of code, joined -/
def either {σ ζ β : Type} (A : σ → β) (B : ζ → β) : σ ⊕ ζ → β
  | .inl x => A x
  | .inr y => B y
theorem bif_g {α : Type} {c : Bool} {A A' B B' : α} (h1 : A = A') (h2 : B = B') : (bif c then A else B) = (bif c then A' else B') := by rw [h1, h2]
theorem bind_g {α β : Type} {p : Option α} {F G : α → Option β} (h : ∀ y, F y = G y) : p.bind F = p.bind G := by rw [funext h]
theorem either_g {σ ζ β : Type} {A A' : σ → β} {B B' : ζ → β} (h1 : ∀ x, A x = A' x) (h2 : ∀ x, B x = B' x) (m : σ ⊕ ζ) : either A B m = either A' B' m := by cases m <;> simp [either, h1, h2]
theorem bif_b {τ α : Type} {c : Bool} {K : τ → Option α} {A B : Option α} {a b : Option τ} (ha : A = a.bind K) (hb : B = b.bind K) : (bif c then A else B) = (bif c then a else b).bind K := by cases c <;> assumption
theorem bind_b {σ τ α : Type} {p : Option σ} {K : τ → Option α} {F : σ → Option α} {G : σ → Option τ} (h : ∀ y, F y = (G y).bind K) : p.bind F = (p.bind G).bind K := by
  cases p with
  | none => rfl
  | some y => exact h y
theorem either_b {σ ζ τ α : Type} {K : τ → Option α} {A : σ → Option α} {B : ζ → Option α} {a : σ → Option τ} {b : ζ → Option τ} (h1 : ∀ x, A x = (a x).bind K) (h2 : ∀ x, B x = (b x).bind K) (m : σ ⊕ ζ) : either A B m = (either a b m).bind K := by
  cases m with
  | inl x => exact h1 x
  | inr x => exact h2 x
theorem either_k {σ ζ τ α : Type} {K : τ → α} {A : σ → α} {B : ζ → α} {a : σ → τ} {b : ζ → τ} (h1 : ∀ x, A x = K (a x)) (h2 : ∀ x, B x = K (b x)) (m : σ ⊕ ζ) : either A B m = K (either a b m) := by
  cases m with
  | inl x => exact h1 x
  | inr x => exact h2 x
theorem none_b {τ α : Type} {K : τ → Option α} : (none : Option α) = (none : Option τ).bind K := rfl
theorem some_b {τ α : Type} {K : τ → Option α} {t : τ} : K t = (some t).bind K := rfl
section
variable {β σ ζ ξ : Type} {K0 : σ → Option β} {K1 : ζ → Option β} {K2 : ξ → Option β}
theorem e2_0 {t : σ} : K0 t = (some (Sum.inl t)).bind (either K0 K1) := rfl
theorem e2_1 {t : ζ} : K1 t = (some (Sum.inr t)).bind (either K0 K1) := rfl
theorem e3_0 {t : σ} : K0 t = (some (Sum.inl t)).bind (either K0 (either K1 K2)) := rfl
theorem e3_1 {t : ζ} : K1 t = (some (Sum.inr (Sum.inl t))).bind (either K0 (either K1 K2)) := rfl
theorem e3_2 {t : ξ} : K2 t = (some (Sum.inr (Sum.inr t))).bind (either K0 (either K1 K2)) := rfl
variable {υ : Type} {K3 : υ → Option β}
theorem e4_0 {t : σ} : K0 t = (some (Sum.inl t)).bind (either K0 (either K1 (either K2 K3))) := rfl
theorem e4_1 {t : ζ} : K1 t = (some (Sum.inr (Sum.inl t))).bind (either K0 (either K1 (either K2 K3))) := rfl
theorem e4_2 {t : ξ} : K2 t = (some (Sum.inr (Sum.inr (Sum.inl t)))).bind (either K0 (either K1 (either K2 K3))) := rfl
theorem e4_3 {t : υ} : K3 t = (some (Sum.inr (Sum.inr (Sum.inr t)))).bind (either K0 (either K1 (either K2 K3))) := rfl
end
noncomputable def seqC {α : Type} (E : Env) (f : Nat) (cp : CallP) (ce : CallE) (c : Code) (k : Kont α) : Kont α := fun e st => match e with
  | .normal => runCode E f cp ce c (st.into E f c) k
  | .exit j => k (.exit j) st
  | .ret => k .ret st
/-- regions in a row, ahead of what follows -/
noncomputable def preK {α : Type} (E : Env) (f : Nat) (cp : CallP) (ce : CallE) : Nat → Code → St → (St → Option α) → Option α
  | 0, _, st, K => K st
  | n + 1, c, st, K => match c with
    | .seq (.region id ops draw) b => regionK E f cp ce id ops.toList draw st fun st => preK E f cp ce n b (st.into E f b) K
    | _ => none
def preB : Nat → Code → Bool
  | 0, _ => true
  | n + 1, .seq (.region _ _ _) b => preB n b
  | _ + 1, _ => false
def dropR : Nat → Code → Code
  | 0, c => c
  | n + 1, c => dropR n c.r
theorem pre_eq {α : Type} {k : Kont α} : ∀ (n : Nat) (c : Code) (st : St), preB n c = true → preK E f cp ce n c st (fun st => runCode E f cp ce (dropR n c) st k) = runCode E f cp ce c st k
  | 0, c, st, _ => rfl
  | n + 1, c, st, h => by
    cases c with
    | seq a b =>
      cases a with
      | region id ops draw =>
        simp only [preB] at h
        have ih := fun st => pre_eq (k := k) n b st h
        show regionK E f cp ce id ops.toList draw st (fun st => preK E f cp ce n b (st.into E f b) fun st => runCode E f cp ce (dropR n b) st k) = regionK E f cp ce id ops.toList draw st fun st => runCode E f cp ce b (st.into E f b) k
        exact congrArg _ (funext fun st => ih _)
      | _ => simp [preB] at h
    | _ => simp [preB] at h
theorem pre {α : Type} {k : Kont α} {n : Nat} {c c' : Code} {st : St} {T : Option α} (hb : preB n c = true) (hc : dropR n c = c') (h : preK E f cp ce n c st (fun st => runCode E f cp ce c' st k) = T) : runCode E f cp ce c st k = T := by
  subst hc
  exact (pre_eq n c st hb).symm.trans h
theorem pre1 {α : Type} {k : Kont α} {c : Code} {st : St} {T : Option α} (h : preK E f cp ce 1 c st (fun st => runCode E f cp ce c.r st k) = T) (hb : preB 1 c = true := by kernel_rfl) : runCode E f cp ce c st k = T := pre hb rfl h
theorem pre2 {α : Type} {k : Kont α} {c : Code} {st : St} {T : Option α} (h : preK E f cp ce 2 c st (fun st => runCode E f cp ce c.r.r st k) = T) (hb : preB 2 c = true := by kernel_rfl) : runCode E f cp ce c st k = T := pre hb rfl h
theorem pre3 {α : Type} {k : Kont α} {c : Code} {st : St} {T : Option α} (h : preK E f cp ce 3 c st (fun st => runCode E f cp ce c.r.r.r st k) = T) (hb : preB 3 c = true := by kernel_rfl) : runCode E f cp ce c st k = T := pre hb rfl h
def _root_.Go.Code.b : Code → Code
  | .loop c => c
  | .block _ c => c
  | c => c
section
variable {α : Type} {k : Kont α} {c : Code} {st st' : St}
theorem seq_push (hc : c = .seq c.l c.r := by kernel_rfl) : runCode E f cp ce c st k = runCode E f cp ce c.l st (seqC E f cp ce c.r k) :=
  congrArg (fun z => runCode E f cp ce z st k) hc
theorem seqC_normal (hs : st.into E f c = st' := by kernel_rfl) : seqC E f cp ce c k .normal st = runCode E f cp ce c st' k := by rw [← hs]; rfl
def intoB (E : Env) (f : Nat) (c : Code) : Bool := match headId c with
  | some id => match look E.into f with
    | some l => (look l id).isNone
    | none => true
  | none => true
theorem seqC_same (h : intoB E f c = true := by kernel_rfl) : seqC E f cp ce c k .normal st = runCode E f cp ce c st k := by
  have : st.into E f c = st := by
    unfold St.into
    unfold intoB at h
    split
    · rename_i id hid
      rw [hid] at h
      split
      · rename_i l hl
        simp only [hl] at h
        split
        · rename_i s hs
          rw [hs] at h
          cases h
        · rfl
      · rfl
    · rfl
  exact seqC_normal this
theorem seqC_exit {j : Nat} : seqC E f cp ce c k (.exit j) st = k (.exit j) st := rfl
theorem seqC_ret : seqC E f cp ce c k .ret st = k .ret st := rfl
theorem block_push {id : Nat} (hc : c = .block id (c.b) := by kernel_rfl) : runCode E f cp ce c st k = runCode E f cp ce (c.b) st (blockK id k) :=
  congrArg (fun z => runCode E f cp ce z st k) hc
theorem block_normal {id : Nat} : blockK id k .normal st = k .normal st := rfl
theorem block_ret {id : Nat} : blockK id k .ret st = k .ret st := rfl
theorem block_same {id : Nat} : blockK id k (.exit id) st = k .normal st := by simp only [blockK, nbeq.2 rfl, cond_true]
theorem block_other {id j : Nat} (h : j.beq id = false := by kernel_rfl) : blockK id k (.exit j) st = k (.exit j) st := by simp only [blockK, h, cond_false]
theorem skip_eq (hc : c = .skip := by kernel_rfl) : runCode E f cp ce c st k = k .normal st := congrArg (fun z => runCode E f cp ce z st k) hc
theorem exit_eq {j : Nat} (hc : c = .exit j := by kernel_rfl) : runCode E f cp ce c st k = k (.exit j) st := congrArg (fun z => runCode E f cp ce z st k) hc
theorem ret_eq (hc : c = .ret := by kernel_rfl) : runCode E f cp ce c st k = k .ret st := congrArg (fun z => runCode E f cp ce z st k) hc
def pastB (E : Env) (f : Nat) (c : Operand) : Bool := match c, look E.conds f with
  | .tmp t, some l => !(mem t l)
  | _, _ => true
theorem past_same {o : Operand} (h : pastB E f o = true) : st.past E f o = st := by
  unfold pastB at h
  unfold St.past
  split
  · rename_i t l hl
    rw [hl] at h
    simp only [Bool.not_eq_true'] at h
    rw [h]
    rfl
  · rfl
theorem cond_s {b : Bool} (hc : c = .cond (condOf c) c.t c.e := by kernel_rfl) (hx : evalO E 0 (look st.regs) (condOf c) = some (.one (.g .bool b)) := by kernel_rfl) (hs : pastB E f (condOf c) = true := by kernel_rfl) :
    runCode E f cp ce c st k = bif b then runCode E f cp ce c.t st k else runCode E f cp ce c.e st k := cond_eq hc hx (past_same hs)
theorem cond_ts (hc : c = .cond (condOf c) c.t c.e := by kernel_rfl) (hx : evalO E 0 (look st.regs) (condOf c) = some (.one (.g .bool true)) := by kernel_rfl) (hs : pastB E f (condOf c) = true := by kernel_rfl) : runCode E f cp ce c st k = runCode E f cp ce c.t st k := (cond_eq hc hx (past_same hs)).trans rfl
theorem cond_fs (hc : c = .cond (condOf c) c.t c.e := by kernel_rfl) (hx : evalO E 0 (look st.regs) (condOf c) = some (.one (.g .bool false)) := by kernel_rfl) (hs : pastB E f (condOf c) = true := by kernel_rfl) : runCode E f cp ce c st k = runCode E f cp ce c.e st k := (cond_eq hc hx (past_same hs)).trans rfl
theorem cond_t (hc : c = .cond (condOf c) c.t c.e := by kernel_rfl) (hx : evalO E 0 (look st.regs) (condOf c) = some (.one (.g .bool true)) := by kernel_rfl) (hs : st.past E f (condOf c) = st' := by kernel_rfl) : runCode E f cp ce c st k = runCode E f cp ce c.t st' k := (cond_eq hc hx hs).trans rfl
theorem cond_f (hc : c = .cond (condOf c) c.t c.e := by kernel_rfl) (hx : evalO E 0 (look st.regs) (condOf c) = some (.one (.g .bool false)) := by kernel_rfl) (hs : st.past E f (condOf c) = st' := by kernel_rfl) : runCode E f cp ce c st k = runCode E f cp ce c.e st' k := (cond_eq hc hx hs).trans rfl
theorem cond_e {b : Bool} (hc : c = .cond (condOf c) c.t c.e := by kernel_rfl) (hx : evalO E 0 (look st.regs) (condOf c) = some (.one (.g .bool b)) := by kernel_rfl) (hs : st.past E f (condOf c) = st' := by kernel_rfl) :
    runCode E f cp ce c st k = bif b then runCode E f cp ce c.t st' k else runCode E f cp ce c.e st' k := cond_eq hc hx hs
end

/-! ### Loops -/
def iterN {σ ζ : Type} (p : σ → Option (σ ⊕ ζ)) : Nat → σ → Option ζ
  | 0, _ => none
  | n + 1, s => (p s).bind (either (fun s' => iterN p n s') some)
/-- what is done where a round ends -/
def loopKont {α : Type} (n0 : Nat) (k : Kont α) : Kont α := fun e st => match e with
  | .normal => match st.trunc n0 with
    | some st => k .normal st
    | none => none
  | .exit j => match st.trunc n0 with
    | some st => k (.exit j) st
    | none => none
  | .ret => k .ret st
def VExit.isN : VExit → Bool
  | .normal => true
  | _ => false
section
variable {α σ ζ ζ1 ζ2 ζ3 : Type} {run : St → Kont α → Option α} {S : σ → St} {n0 : Nat} {k : Kont α}
theorem loop_iter {p : σ → Option (σ ⊕ ζ)} {Y : ζ → VExit × St}
    (hb : ∀ s (k : Kont α), run (S s) (loopKont n0 k) = (p s).bind (either (fun s' => k .normal (S s')) (fun z => k (Y z).1 (Y z).2))) (he : ∀ z, (Y z).1.isN = false) :
    ∀ m s, loopK run n0 m (S s) k = (iterN p m s).bind fun z => k (Y z).1 (Y z).2
  | 0, s => rfl
  | m + 1, s => by
    have e : loopK run n0 (m + 1) (S s) k = run (S s) (loopKont n0 fun e st => match e with
        | .normal => loopK run n0 m st k
        | .exit j => k (.exit j) st
        | .ret => k .ret st) := by
      simp only [loopK]
      refine congrArg (run (S s)) (funext fun e => funext fun st => ?_)
      cases e <;> rfl
    rw [e, hb]
    simp only [iterN]
    cases hp : p s with
    | none => rfl
    | some r =>
      cases r with
      | inl s' => exact loop_iter hb he m s'
      | inr z =>
        simp only [Option.bind_some, either]
        have h1 := he z
        generalize (Y z).1 = e at h1
        cases e with
        | normal => cases h1
        | exit j => rfl
        | ret => rfl
theorem loop_iter1 {p : σ → Option (σ ⊕ ζ1)} {Y1 : ζ1 → VExit × St}
    (hb : ∀ s (k : Kont α), run (S s) (loopKont n0 k) = (p s).bind (either (fun s' => k .normal (S s')) (fun z => k (Y1 z).1 (Y1 z).2))) (he1 : ∀ z, (Y1 z).1.isN = false) (m : Nat) (s : σ) :
    loopK run n0 m (S s) k = (iterN p m s).bind fun z => k (Y1 z).1 (Y1 z).2 := loop_iter hb he1 m s
theorem loop_iter2 {p : σ → Option (σ ⊕ (ζ1 ⊕ ζ2))} {Y1 : ζ1 → VExit × St} {Y2 : ζ2 → VExit × St}
    (hb : ∀ s (k : Kont α), run (S s) (loopKont n0 k) = (p s).bind (either (fun s' => k .normal (S s')) (either (fun z => k (Y1 z).1 (Y1 z).2) (fun z => k (Y2 z).1 (Y2 z).2))))
    (he1 : ∀ z, (Y1 z).1.isN = false) (he2 : ∀ z, (Y2 z).1.isN = false) (m : Nat) (s : σ) :
    loopK run n0 m (S s) k = (iterN p m s).bind (either (fun z => k (Y1 z).1 (Y1 z).2) (fun z => k (Y2 z).1 (Y2 z).2)) := by
  have e : ∀ (A : ζ1 → VExit × St) (B : ζ2 → VExit × St) (k : Kont α), (fun z => k (either A B z).1 (either A B z).2) = either (fun z => k (A z).1 (A z).2) (fun z => k (B z).1 (B z).2) := fun A B k => funext fun z => by cases z <;> rfl
  rw [← e Y1 Y2]
  exact loop_iter (Y := either Y1 Y2) (fun s k => by rw [hb, ← e Y1 Y2]) (fun z => by cases z with | inl z => exact he1 z | inr z => exact he2 z) m s
theorem loop_iter3 {p : σ → Option (σ ⊕ (ζ1 ⊕ (ζ2 ⊕ ζ3)))} {Y1 : ζ1 → VExit × St} {Y2 : ζ2 → VExit × St} {Y3 : ζ3 → VExit × St}
    (hb : ∀ s (k : Kont α), run (S s) (loopKont n0 k) = (p s).bind (either (fun s' => k .normal (S s')) (either (fun z => k (Y1 z).1 (Y1 z).2) (either (fun z => k (Y2 z).1 (Y2 z).2) (fun z => k (Y3 z).1 (Y3 z).2)))))
    (he1 : ∀ z, (Y1 z).1.isN = false) (he2 : ∀ z, (Y2 z).1.isN = false) (he3 : ∀ z, (Y3 z).1.isN = false) (m : Nat) (s : σ) :
    loopK run n0 m (S s) k = (iterN p m s).bind (either (fun z => k (Y1 z).1 (Y1 z).2) (either (fun z => k (Y2 z).1 (Y2 z).2) (fun z => k (Y3 z).1 (Y3 z).2))) := by
  have e : ∀ (A : ζ1 → VExit × St) (B : ζ2 → VExit × St) (C : ζ3 → VExit × St) (k : Kont α), (fun z => k (either A (either B C) z).1 (either A (either B C) z).2) = either (fun z => k (A z).1 (A z).2) (either (fun z => k (B z).1 (B z).2) (fun z => k (C z).1 (C z).2)) := fun A B C k => funext fun z => by
    cases z with
    | inl z => rfl
    | inr z => cases z <;> rfl
  rw [← e Y1 Y2 Y3]
  exact loop_iter (Y := either Y1 (either Y2 Y3)) (fun s k => by rw [hb, ← e Y1 Y2 Y3])
    (fun z => by
      rcases z with z | z | z
      · exact he1 z
      · exact he2 z
      · exact he3 z) m s
end
/-- how many rounds at most -/
def LL : Nat := 1000000
theorem loop_push {α : Type} {k : Kont α} {c : Code} {st : St} (hc : c = .loop (c.b)) : runCode E f cp ce c st k = loopK (fun st k => runCode E f cp ce (c.b) st k) st.heap.length E.L st k :=
  congrArg (fun z => runCode E f cp ce z st k) hc

/-! ### Whole functions -/
def kRet {α : Type} (E : Env) (f n : Nat) (k : R → Heap → Option α) : Kont α := fun e st => match e with
  | .exit _ => none
  | _ => meltK (resultsOf E.P f) st fun st => match resR E (resultsOf E.P f) st with
    | some r => k (thinR E f r) (thinH E f (cutH n r st.heap))
    | none => none
def kEndG (g : R → R) (E : Env) (f : Nat) : Kont R := kRet E f 0 fun r h => some (g (fin h r))
def bodyE (P : Program) (f : Nat) (n nt : Nat) : Bool := match P.funcs[f]? with
  | some fn => fn.body.isSome && fn.ntmps.beq nt && n.ble nt
  | none => false
theorem body_is {α : Type} {nt : Nat} {args : List R} {h : Heap} {k : R → Heap → Option α} {regs : List (Nat × R)} (hb : bodyE E.P f args.length nt = true) (hr : initRegs 0 args = regs) :
    callBody E cp ce α f args h k = runCode E f cp ce (codeOf E.P f) ⟨regs, h, [], nt, h.length⟩ (kRet E f h.length k) := by
  unfold bodyE at hb
  unfold callBody codeOf kRet resultsOf
  cases hf : E.P.funcs[f]? with
  | none => rw [hf] at hb; cases hb
  | some fn =>
    rw [hf] at hb
    simp only [Bool.and_eq_true, nbeq] at hb
    obtain ⟨⟨h1, h2⟩, h3⟩ := hb
    cases hc : fn.body with
    | none => rw [hc] at h1; cases h1
    | some c =>
      simp only [hc, ← h2, hr]
      rw [h2, h3]
      simp only [cond_true]
      rfl
theorem stepG_is {g : R → R} {nt : Nat} {args : List R} {regs : List (Nat × R)} (hb : (bodyE E.P f args.length nt && !(anyRef args || R.hasOwL args)) = true := by kernel_rfl) (hr : initRegs 0 args = regs := by kernel_rfl) :
    pureOfG g (callBody E cp ce) f args = runCode E f cp ce (codeOf E.P f) ⟨regs, [], [], nt, 0⟩ (kEndG g E f) := by
  simp only [Bool.and_eq_true, Bool.not_eq_true'] at hb
  change (bif anyRef args || R.hasOwL args then none else callBody E cp ce R f args [] fun r h => some (g (fin h r))) = _
  rw [hb.2, cond_false]
  exact body_is hb.1 hr
end Go.V
/- Structs and arrays of numbers that are held against each other. -/
namespace Go.V
open Go.RowKit
set_option linter.unusedVariables false

mutual
theorem T.beq_rfl : (t : T) → T.beq t t = true
  | .int k => by simp [T.beq]
  | .bool => by simp [T.beq]
  | .sl e => by simp only [T.beq]; exact Ts.beq_rfl e
theorem Ts.beq_rfl : (ts : Ts) → Ts.beq ts ts = true
  | .one t => by simp only [Ts.beq]; exact T.beq_rfl t
  | .cons t ts => by simp only [Ts.beq, Bool.and_eq_true]; exact ⟨T.beq_rfl t, Ts.beq_rfl ts⟩
end
theorem unLeaf_g (t : T) (x : t.den) : unLeaf t (.g t x) = some x := by simp [unLeaf, T.beq_rfl, T.cast]
theorem unleaves_leaves : (ts : Ts) → (z : ts.den) → unleaves ts (ts.leaves z) = some z
  | .one t, z => by simp [unleaves, Ts.leaves, unLeaf_g]
  | .cons t ts, z => by simp [unleaves, Ts.leaves, unLeaf_g, unleaves_leaves ts]
def eqV : List Value → List Value → Bool
  | [], [] => true
  | .int _ a :: l, .int _ b :: m => a == b && eqV l m
  | .bool a :: l, .bool b :: m => a == b && eqV l m
  | _, _ => false
def fits : List T → List Value → Bool
  | [], [] => true
  | .int k :: ts, .int k' _ :: vs => decide (k = k') && fits ts vs
  | .bool :: ts, .bool _ :: vs => fits ts vs
  | _, _ => false
theorem fits_cons {t : T} {ts : List T} {vs : List Value} (h : fits (t :: ts) vs = true) : ∃ v l, vs = v :: l ∧ fits ts l = true ∧ ((∃ k n, t = .int k ∧ v = .int k n) ∨ (∃ b, t = .bool ∧ v = .bool b)) := by
  cases t with
  | int k =>
    cases vs with
    | nil => simp [fits] at h
    | cons v l =>
      cases v <;> simp only [fits, Bool.and_eq_true, decide_eq_true_eq, Bool.false_eq_true] at h
      obtain ⟨rfl, h⟩ := h
      exact ⟨_, _, rfl, h, .inl ⟨_, _, rfl, rfl⟩⟩
  | bool =>
    cases vs with
    | nil => simp [fits] at h
    | cons v l =>
      cases v <;> simp only [fits, Bool.false_eq_true] at h
      exact ⟨_, _, rfl, h, .inr ⟨_, rfl, rfl⟩⟩
  | sl e => cases vs <;> simp [fits] at h
theorem fits_length : ∀ {ts : List T} {vs : List Value}, fits ts vs = true → vs.length = ts.length
  | [], [], _ => rfl
  | [], _ :: _, h => by simp [fits] at h
  | t :: ts, vs, h => by
    obtain ⟨v, l, rfl, h1, _⟩ := fits_cons h
    simp [fits_length h1]
theorem fits_split : ∀ {ks ls : List T} {vs : List Value}, fits (ks ++ ls) vs = true → fits ks (vs.take ks.length) = true ∧ fits ls (vs.drop ks.length) = true
  | [], ls, vs, h => ⟨by simp [fits], by simpa using h⟩
  | k :: ks, ls, vs, h => by
    rw [List.cons_append] at h
    obtain ⟨v, l, rfl, h1, h2⟩ := fits_cons h
    obtain ⟨a, b⟩ := fits_split h1
    refine ⟨?_, by simpa using b⟩
    rcases h2 with ⟨q, n, rfl, rfl⟩ | ⟨c, rfl, rfl⟩ <;> simpa [fits] using a
theorem eqV_append : ∀ {ks : List T} {a b c d : List Value}, fits ks a = true → fits ks b = true → eqV (a ++ c) (b ++ d) = (eqV a b && eqV c d)
  | [], a, b, c, d, h1, h2 => by
    have e1 := fits_length h1
    have e2 := fits_length h2
    obtain rfl := List.eq_nil_of_length_eq_zero e1
    obtain rfl := List.eq_nil_of_length_eq_zero e2
    simp [eqV]
  | k :: ks, a, b, c, d, h1, h2 => by
    obtain ⟨v, l, rfl, g1, g2⟩ := fits_cons h1
    obtain ⟨u, m, rfl, g3, g4⟩ := fits_cons h2
    have ih := eqV_append (c := c) (d := d) g1 g3
    rcases g2 with ⟨q, n, rfl, rfl⟩ | ⟨x, rfl, rfl⟩ <;> rcases g4 with ⟨q', n', hq, rfl⟩ | ⟨x', hq, rfl⟩ <;> first | (cases hq; done) | skip
    · simp only [List.cons_append, eqV, ih, Bool.and_assoc]
    · simp only [List.cons_append, eqV, ih, Bool.and_assoc]
def repL (ks : List T) : Nat → List T
  | 0 => []
  | n + 1 => ks ++ repL ks n
def eqFs (g : TypeId → Option (List T)) (P : Program) : Nat → List Field → Option (List T)
  | _, [] => some []
  | off, f :: fs => bif (f.name == "_") || !(f.offset.beq off) then none else match g f.type with
    | some ks => bif (P.cellsOf f.type).beq ks.length then (match eqFs g P (off + ks.length) fs with
      | some r => some (ks ++ r)
      | none => none) else none
    | none => none
def eqLv (P : Program) : Nat → TypeId → Option (List T)
  | 0, _ => none
  | d + 1, t => match P.underlying t with
    | some (.int k) => some [.int k]
    | some .bool => some [.bool]
    | some (.struct fs) => bif P.stoodInHeld t then none else eqFs (eqLv P d) P 0 fs.toList
    | some (.array n e) => match eqLv P d e with
      | some ks => bif (P.cellsOf e).beq ks.length then some (repL ks n) else none
      | none => none
    | _ => none
def Rep (P : Program) (e : TypeId) (a : Value) (l : List Value) : Prop := match P.underlying e with
  | some (.struct _) => ∃ xs, a = .agg xs ∧ xs.toList = l
  | some (.array _ _) => ∃ xs, a = .agg xs ∧ xs.toList = l
  | _ => l = [a]
def EqAt2 (P : Program) (dd : Nat) (e : TypeId) (ks : List T) : Prop :=
  ∀ (w : World) (a b : Value) (la lb : List Value), Rep P e a la → Rep P e b lb → fits ks la = true → fits ks lb = true → (Op.equalIn dd e a b).run P w = .ok (eqV la lb) w
section
variable {P : Program} (w : World)
theorem part_rep {d : Nat} {e : TypeId} {ks : List T} {xs : Array Value} {off : Nat} (he : eqLv P d e = some ks) (hc : P.cellsOf e = ks.length) (hf : fits ks ((xs.toList.drop off).take ks.length) = true) :
    ∃ a, (part e xs off).run P w = .ok a w ∧ Rep P e a ((xs.toList.drop off).take ks.length) := by
  cases d with
  | zero => simp [eqLv] at he
  | succ d =>
    have hlen := fits_length hf
    cases hu : P.underlying e with
    | none => simp [eqLv, hu] at he
    | some kd =>
      obtain ⟨i, hi⟩ := info_of_underlying hu
      have agg : (∃ n e', kd = .array n e') ∨ (∃ fs, kd = .struct fs) → ∃ a, (part e xs off).run P w = .ok a w ∧ Rep P e a ((xs.toList.drop off).take ks.length) := by
        intro hk
        have hl : (xs.extract off (off + P.cellsOf e)).toList = (xs.toList.drop off).take ks.length := by
          rw [Array.toList_extract, hc]
          simp [List.extract]
        refine ⟨.agg (xs.extract off (off + P.cellsOf e)), ?_, ?_⟩
        · rcases hk with ⟨n, e', rfl⟩ | ⟨fs, rfl⟩ <;> simp [part, isAgg, run_underlying hu, run_sizeOf w hi]
        · unfold Rep
          rw [hu]
          rcases hk with ⟨n, e', rfl⟩ | ⟨fs, rfl⟩ <;> exact ⟨_, rfl, hl⟩
      have plain : ks.length = 1 → (part e xs off = do match xs[off]? with | some v => pure v | none => stuck "part: no such cell") ∨ True → (∀ v, xs[off]? = some v → (part e xs off).run P w = .ok v w) → (∀ a l, l = [a] → Rep P e a l) → ∃ a, (part e xs off).run P w = .ok a w ∧ Rep P e a ((xs.toList.drop off).take ks.length) := by
        intro h1 _ h2 h3
        rw [h1] at hlen ⊢
        cases hd : (xs.toList.drop off).take 1 with
        | nil => rw [hd] at hlen; simp at hlen
        | cons v l =>
          have hv : xs[off]? = some v := by
            have : ((xs.toList.drop off).take 1)[0]? = some v := by rw [hd]; rfl
            simpa using this
          have hl : l = [] := by
            rw [hd] at hlen
            simpa using hlen
          subst hl
          exact ⟨v, h2 v hv, h3 v _ rfl⟩
      cases kd
      case bool =>
        simp only [eqLv, hu, Option.some.injEq] at he
        subst he
        exact plain rfl (.inr trivial) (fun v hv => by simp [part, isAgg, run_underlying hu, hv]) (fun a l h => by unfold Rep; rw [hu]; exact h)
      case int k =>
        simp only [eqLv, hu, Option.some.injEq] at he
        subst he
        exact plain rfl (.inr trivial) (fun v hv => by simp [part, isAgg, run_underlying hu, hv]) (fun a l h => by unfold Rep; rw [hu]; exact h)
      case array n e' => exact agg (.inl ⟨n, e', rfl⟩)
      case struct fs => exact agg (.inr ⟨fs, rfl⟩)
      all_goals simp [eqLv, hu] at he
theorem eqFields_sound (dd : Nat) {d : Nat} (IH : ∀ e ks, eqLv P d e = some ks → EqAt2 P dd e ks) (xs ys : Array Value) : ∀ (fs : List Field) (off : Nat) (ks : List T), eqFs (eqLv P d) P off fs = some ks →
    fits ks (xs.toList.drop off) = true → fits ks (ys.toList.drop off) = true → (Op.eqFields dd xs ys fs).run P w = .ok (eqV (xs.toList.drop off) (ys.toList.drop off)) w
  | [], off, ks, h, hx, hy => by
    simp only [eqFs, Option.some.injEq] at h
    subst h
    rw [List.eq_nil_of_length_eq_zero (fits_length hx), List.eq_nil_of_length_eq_zero (fits_length hy)]
    simp [Op.eqFields, eqV]
  | f :: fs, off, ks, h, hx, hy => by
    simp only [eqFs] at h
    cases hb : ((f.name == "_") || !(f.offset.beq off)) with
    | true => rw [hb] at h; cases h
    | false =>
      rw [hb] at h
      simp only [cond_false] at h
      simp only [Bool.or_eq_false_iff, Bool.not_eq_false', beq_eq_false_iff_ne, ne_eq] at hb
      obtain ⟨hn, ho⟩ := hb
      have ho := nbeq.1 ho
      split at h
      · rename_i k1 hk1
        cases hc : (P.cellsOf f.type).beq k1.length with
        | false => rw [hc] at h; cases h
        | true =>
          rw [hc] at h
          simp only [cond_true] at h
          split at h
          · rename_i r hr
            cases h
            obtain ⟨x1, x2⟩ := fits_split hx
            obtain ⟨y1, y2⟩ := fits_split hy
            obtain ⟨a, p1, r1⟩ := part_rep w hk1 (nbeq.1 hc) (xs := xs) (off := off) x1
            obtain ⟨b, p2, r2⟩ := part_rep w hk1 (nbeq.1 hc) (xs := ys) (off := off) y1
            have e := IH f.type k1 hk1 w a b _ _ r1 r2 x1 y1
            simp only [List.drop_drop] at x2 y2
            have ih := eqFields_sound dd IH xs ys fs (off + k1.length) r hr x2 y2
            have e3 : eqV (xs.toList.drop off) (ys.toList.drop off) = (eqV ((xs.toList.drop off).take k1.length) ((ys.toList.drop off).take k1.length) && eqV (xs.toList.drop (off + k1.length)) (ys.toList.drop (off + k1.length))) := by
              rw [← eqV_append x1 y1, ← List.drop_drop, ← List.drop_drop, List.take_append_drop, List.take_append_drop]
            subst ho
            simp only [Op.eqFields, hn, ne_eq, not_false_eq_true, if_true, Sem.run_bind, p1, p2, e, Result.andThen_ok, e3]
            cases eqV ((xs.toList.drop f.offset).take k1.length) ((ys.toList.drop f.offset).take k1.length) with
            | false => simp
            | true => simpa using ih
          · cases h
      · cases h
theorem eqItems_sound (dd : Nat) {d : Nat} {e : TypeId} {k1 : List T} (hk : eqLv P d e = some k1) (hc : P.cellsOf e = k1.length) (IH : EqAt2 P dd e k1) (xs ys : Array Value) : ∀ (n j : Nat),
    fits (repL k1 n) (xs.toList.drop (j * k1.length)) = true → fits (repL k1 n) (ys.toList.drop (j * k1.length)) = true → (Op.eqItems dd e (P.cellsOf e) xs ys (List.range' j n)).run P w = .ok (eqV (xs.toList.drop (j * k1.length)) (ys.toList.drop (j * k1.length))) w
  | 0, j, hx, hy => by
    simp only [repL] at hx hy
    rw [List.eq_nil_of_length_eq_zero (fits_length hx), List.eq_nil_of_length_eq_zero (fits_length hy)]
    simp [Op.eqItems, eqV]
  | n + 1, j, hx, hy => by
    simp only [repL] at hx hy
    obtain ⟨x1, x2⟩ := fits_split hx
    obtain ⟨y1, y2⟩ := fits_split hy
    obtain ⟨a, p1, r1⟩ := part_rep w hk hc (xs := xs) (off := j * k1.length) x1
    obtain ⟨b, p2, r2⟩ := part_rep w hk hc (xs := ys) (off := j * k1.length) y1
    have e1 := IH w a b _ _ r1 r2 x1 y1
    simp only [List.drop_drop] at x2 y2
    have hj : j * k1.length + k1.length = (j + 1) * k1.length := by rw [Nat.add_mul, Nat.one_mul]
    rw [hj] at x2 y2
    have ih := eqItems_sound dd hk hc IH xs ys n (j + 1) x2 y2
    have e3 : eqV (xs.toList.drop (j * k1.length)) (ys.toList.drop (j * k1.length)) = (eqV ((xs.toList.drop (j * k1.length)).take k1.length) ((ys.toList.drop (j * k1.length)).take k1.length) && eqV (xs.toList.drop ((j + 1) * k1.length)) (ys.toList.drop ((j + 1) * k1.length))) := by
      rw [← eqV_append x1 y1, ← hj, ← List.drop_drop, ← List.drop_drop, List.take_append_drop, List.take_append_drop]
    rw [hc] at ih ⊢
    simp only [List.range'_succ, Op.eqItems, Sem.run_bind, p1, p2, e1, Result.andThen_ok, e3]
    cases eqV ((xs.toList.drop (j * k1.length)).take k1.length) ((ys.toList.drop (j * k1.length)).take k1.length) with
    | false => simp
    | true => simpa using ih
end
theorem equal_sound {P : Program} (m : Nat) : ∀ (d : Nat) (e : TypeId) (ks : List T), eqLv P d e = some ks → EqAt2 P (m + d) e ks
  | 0, e, ks, h => by simp [eqLv] at h
  | d + 1, e, ks, h => by
    intro w a b la lb ra rb fa fb
    cases hu : P.underlying e with
    | none => simp [eqLv, hu] at h
    | some kd =>
      simp only [Rep, hu] at ra rb
      cases kd
      case bool =>
        simp only [eqLv, hu, Option.some.injEq] at h
        subst h
        obtain ⟨v, l, e1, g1, g2⟩ := fits_cons fa
        obtain ⟨v', l', e2, g3, g4⟩ := fits_cons fb
        simp only at ra rb
        subst ra; subst rb
        cases e1; cases e2
        rcases g2 with ⟨_, _, hq, _⟩ | ⟨x, _, rfl⟩
        · cases hq
        rcases g4 with ⟨_, _, hq, _⟩ | ⟨y, _, rfl⟩
        · cases hq
        rw [show m + (d + 1) = (m + d) + 1 from rfl, run_equalIn_bool' w (m + d) e x y hu]
        simp [eqV]
      case int k =>
        simp only [eqLv, hu, Option.some.injEq] at h
        subst h
        obtain ⟨v, l, e1, g1, g2⟩ := fits_cons fa
        obtain ⟨v', l', e2, g3, g4⟩ := fits_cons fb
        simp only at ra rb
        subst ra; subst rb
        cases e1; cases e2
        rcases g2 with ⟨q, x, hq, rfl⟩ | ⟨_, hq, _⟩
        case inr => cases hq
        rcases g4 with ⟨q', y, hq', rfl⟩ | ⟨_, hq', _⟩
        case inr => cases hq'
        cases hq; cases hq'
        rw [show m + (d + 1) = (m + d) + 1 from rfl, run_equalIn_int w (m + d) e k k x y hu]
        simp [eqV]
      case array n e' =>
        simp only [eqLv, hu] at h
        obtain ⟨xs, rfl, rfl⟩ := ra
        obtain ⟨ys, rfl, rfl⟩ := rb
        split at h
        · rename_i k1 hk1
          cases hc : (P.cellsOf e').beq k1.length with
          | false => rw [hc] at h; cases h
          | true =>
            rw [hc] at h
            cases h
            have hui : ∃ kd, P.underlying e' = some kd := by
              cases d with
              | zero => simp [eqLv] at hk1
              | succ d =>
                cases hu' : P.underlying e' with
                | none => simp [eqLv, hu'] at hk1
                | some kd => exact ⟨kd, rfl⟩
            obtain ⟨kd, hu'⟩ := hui
            obtain ⟨i, hi⟩ := info_of_underlying hu'
            rw [show m + (d + 1) = (m + d) + 1 from rfl, run_equalIn_array w (m + d) xs ys hu hi]
            have := eqItems_sound w (m + d) hk1 (nbeq.1 hc) (equal_sound m d e' k1 hk1) xs ys n 0 (by simpa using fa) (by simpa using fb)
            simpa [List.range_eq_range'] using this
        · cases h
      case struct fs =>
        simp only [eqLv, hu] at h
        obtain ⟨xs, rfl, rfl⟩ := ra
        obtain ⟨ys, rfl, rfl⟩ := rb
        cases hs : P.stoodInHeld e with
        | true => rw [hs] at h; cases h
        | false =>
          rw [hs] at h
          simp only [cond_false] at h
          have hfs : P.fieldsOf e = fs := by simp [Program.fieldsOf, hu]
          rw [show m + (d + 1) = (m + d) + 1 from rfl, run_equalIn_struct w (m + d) e xs ys (by rw [hfs]; exact hu) hs, hfs]
          have := eqFields_sound w (m + d) (fun e ks => equal_sound m d e ks) xs ys fs.toList 0 ks h (by simpa using fa) (by simpa using fb)
          simpa using this
      all_goals simp [eqLv, hu] at h
/-- the leaves of a type, in a row -/
def Ts.list : Ts → List T
  | .one t => [t]
  | .cons t ts => t :: ts.list
def tsB : List T → List T → Bool
  | [], [] => true
  | a :: l, b :: m => T.beq a b && tsB l m
  | _, _ => false
theorem tsB_eq : ∀ {a b : List T}, tsB a b = true → a = b
  | [], [], _ => rfl
  | a :: l, b :: m, h => by
    simp only [tsB, Bool.and_eq_true] at h
    rw [T.eq_of_beq h.1, tsB_eq h.2]
  | [], _ :: _, h => by cases h
  | _ :: _, [], h => by cases h
def plainL : List T → Bool
  | [] => true
  | .sl _ :: _ => false
  | _ :: l => plainL l
def eqB (E : Env) (t : Nat) : Bool := match E.ti t with
  | some { gl := some ts, .. } => match eqLv E.P 9 t with
    | some ks => tsB ts.list ks && !(E.P.eqGuardType E.P.depth t) && plainL ks && (match E.P.underlying t with
      | some (.struct _) => true
      | some (.array _ _) => true
      | _ => false)
    | none => false
  | _ => false
theorem eq_leaves {w : World} {γ : Gh} : ∀ {ts : Ts} {a b : List D} {u v : ts.den} {c : Bool} {xs ys : List Value}, plainL ts.list = true → unleaves ts a = some u → unleaves ts b = some v → eqD a b = some c → rdL w γ a xs → rdL w γ b ys →
    fits ts.list xs = true ∧ fits ts.list ys = true ∧ c = eqV xs ys
  | .one t, a, b, u, v, c, xs, ys, hp, h1, h2, he, hx, hy => by
    obtain rfl := (unleaves_spec h1).symm
    obtain rfl := (unleaves_spec h2).symm
    simp only [Ts.leaves] at he hx hy
    match xs, ys with
    | [x], [y] =>
      cases t with
      | int k =>
        simp only [rdL, rdD, rdT, and_true] at hx hy
        subst hx; subst hy
        simp only [eqD, if_true, Option.some.injEq] at he
        simp only [Ts.list, fits, decide_true, Bool.and_self, eqV, true_and]
        exact he.symm
      | bool =>
        simp only [rdL, rdD, rdT, and_true] at hx hy
        subst hx; subst hy
        simp only [eqD, Option.some.injEq] at he
        simp only [Ts.list, fits, eqV, true_and]
        exact he.symm
      | sl e => simp [Ts.list, plainL] at hp
    | [], _ => simp only [rdL] at hx
    | _ :: _ :: _, _ => simp only [rdL, and_false] at hx
    | [x], [] => simp only [rdL] at hy
    | [x], _ :: _ :: _ => simp only [rdL, and_false] at hy
  | .cons t ts, a, b, u, v, c, xs, ys, hp, h1, h2, he, hx, hy => by
    obtain rfl := (unleaves_spec h1).symm
    obtain rfl := (unleaves_spec h2).symm
    simp only [Ts.leaves] at he hx hy
    match xs, ys with
    | x :: xs, y :: ys =>
      simp only [rdL] at hx hy
      have hs : ∀ (z : ts.den), unleaves ts (ts.leaves z) = some z := unleaves_leaves ts
      cases t with
      | int k =>
        simp only [rdD, rdT] at hx hy
        obtain ⟨rfl, hx⟩ := hx
        obtain ⟨rfl, hy⟩ := hy
        simp only [eqD, if_true] at he
        split at he
        · rename_i c' hc'
          cases he
          obtain ⟨q1, q2, q3⟩ := eq_leaves (by simpa [Ts.list, plainL] using hp) (hs u.2) (hs v.2) hc' hx hy
          simp only [Ts.list, fits, decide_true, Bool.true_and, eqV, q1, q2, q3, true_and]
        · cases he
      | bool =>
        simp only [rdD, rdT] at hx hy
        obtain ⟨rfl, hx⟩ := hx
        obtain ⟨rfl, hy⟩ := hy
        simp only [eqD] at he
        split at he
        · rename_i c' hc'
          cases he
          obtain ⟨q1, q2, q3⟩ := eq_leaves (by simpa [Ts.list, plainL] using hp) (hs u.2) (hs v.2) hc' hx hy
          simp only [Ts.list, fits, eqV, q1, q2, q3, true_and]
        · cases he
      | sl e => simp [Ts.list, plainL] at hp
    | [], _ => simp only [rdL] at hx
    | _ :: _, [] => simp only [rdL] at hy
def eqsB (E : Env) : List Nat → Bool
  | [] => true
  | t :: l => eqB E t && eqsB E l
theorem eqsB_mem {E : Env} : ∀ {l : List Nat} {t : Nat}, eqsB E l = true → mem t l = true → eqB E t = true
  | [], t, _, h => by cases h
  | s :: l, t, hb, h => by
    simp only [eqsB, Bool.and_eq_true] at hb
    simp only [mem, Bool.or_eq_true] at h
    rcases h with h | h
    · obtain rfl := nbeq.1 h; exact hb.1
    · exact eqsB_mem hb.2 h
theorem envOK2 {E : Env} (h1 : tabB E E.tab = true) (h2 : E.P.follows .mixedOrders = true) (h3 : fnsB E.P.funcs.toList = true) (h4 : eqsB E E.eqs = true) (h5 : ∀ g, mem g E.cnts = true → (∃ fn, E.P.funcs[g]? = some fn ∧ fn.body.isSome = true) ∧ ∀ (w : World) (b : Nat) (cs : List Int) (x : Int), SemAt w b cs → Calls E.P g #[.pointer (some ⟨b, 0, none⟩), .int .i64 x] w fun e w' => e = .returned (.int .i64 (countV cs x)) ∧ w' = w := by exact fun g hg => absurd hg Bool.false_ne_true) : EnvOK E :=
  ⟨h5, fun t ti ht => tabB_sound h1 t ti ht, h2, fun f fn hf hb => fnsB_sound h3 f fn (by simpa using hf) hb, fun t ht ti ts hti hgl w γ a b u v c x y p q hu hv hc hx hy => by
    have hb := eqsB_mem h4 ht
    unfold eqB at hb
    rw [hti] at hb
    obtain ⟨d, sz, ag, gl, z⟩ := ti
    simp only at hgl
    subst hgl
    simp only at hb
    split at hb
    · rename_i ks hks
      simp only [Bool.and_eq_true, Bool.not_eq_true'] at hb
      obtain ⟨⟨⟨b1, b2⟩, b3⟩, b4⟩ := hb
      obtain rfl := tsB_eq b1
      obtain ⟨f1, f2, rfl⟩ := eq_leaves b3 hu hv hc hx hy
      refine ⟨fun op => run_eqGuard_agg w op t p q x y b2, ?_⟩
      have hr : ∀ z : Array Value, Rep E.P t (.agg z) z.toList := fun z => by
        unfold Rep
        split at b4
        · exact ⟨z, rfl, rfl⟩
        · exact ⟨z, rfl, rfl⟩
        · cases b4
      exact equal_sound 9991 9 t _ hks w (.agg x) (.agg y) _ _ (hr x) (hr y) f1 f2
    · cases hb⟩
end Go.V
/- Arguments of plain types, opened: what lies in memory is the data that they are read as. -/
namespace Go.V
open Go.RowKit Go.ChangeShapes
set_option linter.unusedVariables false

/-! ### Numbers are within their kinds, lists are no longer than memory bears -/
mutual
def T.ok : (t : T) → t.den → Prop
  | .int k, x => k.min ≤ x ∧ x ≤ k.max
  | .bool, _ => True
  | .sl e, xs => List.length xs ≤ maxLen ∧ ∀ i (h : i < List.length xs), e.ok (xs[i]'h)
def Ts.ok : (ts : Ts) → ts.den → Prop
  | .one t, x => t.ok x
  | .cons t ts, x => t.ok x.1 ∧ ts.ok x.2
end
inductive Pl : List T → List D → Prop where
  | nil : Pl [] []
  | cons {t : T} {x : t.den} {ks : List T} {ds : List D} : t.ok x → Pl ks ds → Pl (t :: ks) (.g t x :: ds)
theorem Pl.append : ∀ {k l : List T} {a b : List D}, Pl k a → Pl l b → Pl (k ++ l) (a ++ b)
  | _, _, _, _, .nil, h => h
  | _, _, _, _, .cons h1 h2, h => .cons h1 (Pl.append h2 h)
theorem Pl.length : ∀ {k : List T} {a : List D}, Pl k a → a.length = k.length
  | _, _, .nil => rfl
  | _, _, .cons _ h => by simp [Pl.length h]
theorem Pl.leaves : ∀ {ts : Ts} {ds : List D}, Pl ts.list ds → ∃ x : ts.den, ds = ts.leaves x ∧ ts.ok x
  | .one t, ds, h => by
    simp only [Ts.list] at h
    cases h with
    | cons h1 h2 =>
      cases h2
      rename_i x
      exact ⟨x, by simp only [Ts.leaves], by simp only [Ts.ok]; exact h1⟩
  | .cons t ts, ds, h => by
    simp only [Ts.list] at h
    cases h with
    | cons h1 h2 =>
      rename_i x
      obtain ⟨y, rfl, hy⟩ := Pl.leaves h2
      exact ⟨(x, y), by simp only [Ts.leaves], by simp only [Ts.ok]; exact ⟨h1, hy⟩⟩
def tsOf : List T → Option Ts
  | [] => none
  | [t] => some (.one t)
  | t :: l => match tsOf l with
    | some ts => some (.cons t ts)
    | none => none
theorem tsOf_list : ∀ {l : List T} {ts : Ts}, tsOf l = some ts → ts.list = l
  | [], ts, h => by simp [tsOf] at h
  | [t], ts, h => by simp only [tsOf, Option.some.injEq] at h; subst h; rfl
  | t :: u :: l, ts, h => by
    simp only [tsOf] at h
    split at h
    · rename_i us hus
      cases h
      simp only [Ts.list]
      rw [tsOf_list (l := u :: l) hus]
    · cases h
theorem Ts.list_length : ∀ (ts : Ts), ts.list.length = ts.size
  | .one t => by simp only [Ts.list, Ts.size, List.length_singleton]
  | .cons t ts => by simp only [Ts.list, Ts.size, List.length_cons, Ts.list_length ts]
def lvP (P : Program) : Nat → TypeId → Option (List T)
  | 0, _ => none
  | d + 1, t => match P.underlying t with
    | some (.int k) => some [.int k]
    | some .bool => some [.bool]
    | some (.slice e) => match lvP P d e with
      | some ks => match tsOf ks with
        | some ts => bif (P.cellsOf e).beq ks.length then some [.sl ts] else none
        | none => none
      | none => none
    | some (.struct fs) => match eqFs (lvP P d) P 0 fs.toList with
      | some ks => bif (P.cellsOf t).beq ks.length then some ks else none
      | none => none
    | some (.array n e) => match lvP P d e with
      | some ks => bif (P.cellsOf e).beq ks.length && (P.cellsOf t).beq (repL ks n).length then some (repL ks n) else none
      | none => none
    | _ => none
def Free (γ : Gh) : Prop := ∀ b, γ.rd b = none
theorem Free.may {γ : Gh} (h : Free γ) (b i : Nat) : γ.may b i := by simp [Gh.may, h b]
section
variable {H : Type} {enc : TypeId × Value → H} {P : Program} {w : World} {base : Nat} {spare : Nat → Bool} {held : Bool}
theorem rdL_app {γ : Gh} : ∀ {a b : List D} {c d : List Value}, rdL w γ a c → rdL w γ b d → rdL w γ (a ++ b) (c ++ d)
  | [], b, [], d, _, h => by simpa using h
  | x :: a, b, y :: c, d, h1, h2 => by
    simp only [rdL] at h1
    simp only [List.cons_append, rdL]
    exact ⟨h1.1, rdL_app h1.2 h2⟩
  | [], _, _ :: _, _, h, _ => by simp only [rdL] at h
  | _ :: _, _, [], _, h, _ => by simp only [rdL] at h
theorem open_fields {d : Nat} {cs : List Value} (IH : ∀ (t : TypeId) (ks : List T), lvP P d t = some ks → ∀ (fuel : Nat) (cs : List Value) x, DataW.trod enc P w base spare held fuel t cs = some x → ∃ ds, Pl ks ds ∧ ∀ γ : Gh, Free γ → rdL w γ ds cs) (n : Nat) :
    ∀ (fs : List Field) (off : Nat) (ks : List T), eqFs (lvP P d) P off fs = some ks → (∀ (i : Nat) (f : Field), fs[i]? = some f → ∃ y, DataW.trod enc P w base spare held n f.type ((cs.drop f.offset).take (P.cellsOf f.type)) = some y) →
    ∃ ds, Pl ks ds ∧ ∀ γ : Gh, Free γ → rdL w γ ds ((cs.drop off).take ks.length)
  | [], off, ks, h, _ => by
    simp only [eqFs, Option.some.injEq] at h
    subst h
    exact ⟨[], .nil, fun γ _ => by simp [rdL]⟩
  | f :: fs, off, ks, h, hf => by
    simp only [eqFs] at h
    cases hb : ((f.name == "_") || !(f.offset.beq off)) with
    | true => rw [hb] at h; cases h
    | false =>
      rw [hb] at h
      simp only [cond_false] at h
      simp only [Bool.or_eq_false_iff, Bool.not_eq_false'] at hb
      have ho := nbeq.1 hb.2
      split at h
      · rename_i k1 hk1
        cases hc : (P.cellsOf f.type).beq k1.length with
        | false => rw [hc] at h; cases h
        | true =>
          rw [hc] at h
          simp only [cond_true] at h
          split at h
          · rename_i r hr
            cases h
            obtain ⟨y, hy⟩ := hf 0 f rfl
            rw [nbeq.1 hc, ho] at hy
            obtain ⟨d1, p1, q1⟩ := IH f.type k1 hk1 n _ y hy
            obtain ⟨d2, p2, q2⟩ := open_fields IH n fs (off + k1.length) r hr fun i f' hi => hf (i + 1) f' (by simpa using hi)
            refine ⟨d1 ++ d2, p1.append p2, fun γ hγ => ?_⟩
            have := rdL_app (q1 γ hγ) (q2 γ hγ)
            rw [← List.drop_drop] at this
            have e : ∀ (l : List Value) (a b : Nat), l.take a ++ (l.drop a).take b = l.take (a + b) := fun l a b => by rw [List.take_add]
            rw [e] at this
            simpa using this
          · cases h
      · cases h
theorem open_items {d m : Nat} {e : TypeId} {k1 : List T} {cs : List Value} (hk : lvP P d e = some k1) (hc : P.cellsOf e = k1.length)
    (IH : ∀ (t : TypeId) (ks : List T), lvP P d t = some ks → ∀ (fuel : Nat) (cs : List Value) x, DataW.trod enc P w base spare held fuel t cs = some x → ∃ ds, Pl ks ds ∧ ∀ γ : Gh, Free γ → rdL w γ ds cs) :
    ∀ (n j : Nat), (∀ i, i < n → ∃ y, DataW.trod enc P w base spare held m e ((cs.drop ((j + i) * P.cellsOf e)).take (P.cellsOf e)) = some y) → ∃ ds, Pl (repL k1 n) ds ∧ ∀ γ : Gh, Free γ → rdL w γ ds ((cs.drop (j * k1.length)).take (repL k1 n).length)
  | 0, j, _ => ⟨[], by simp only [repL]; exact .nil, fun γ _ => by simp [repL, rdL]⟩
  | n + 1, j, h => by
    obtain ⟨y, hy⟩ := h 0 (by omega)
    rw [hc, Nat.add_zero] at hy
    obtain ⟨d1, p1, q1⟩ := IH e k1 hk m _ y hy
    obtain ⟨d2, p2, q2⟩ := open_items hk hc IH n (j + 1) fun i hi => by
      have := h (i + 1) (by omega)
      rwa [show j + (i + 1) = j + 1 + i by omega] at this
    refine ⟨d1 ++ d2, by simp only [repL]; exact p1.append p2, fun γ hγ => ?_⟩
    have := rdL_app (q1 γ hγ) (q2 γ hγ)
    rw [show (j + 1) * k1.length = j * k1.length + k1.length by rw [Nat.add_mul, Nat.one_mul], ← List.drop_drop] at this
    have e2 : ∀ (l : List Value) (a b : Nat), l.take a ++ (l.drop a).take b = l.take (a + b) := fun l a b => by rw [List.take_add]
    rw [e2] at this
    simpa [repL] using this
theorem choose_list {α : Type} {Q : Nat → α → Prop} : ∀ (n : Nat), (∀ i, i < n → ∃ x, Q i x) → ∃ l : List α, l.length = n ∧ ∀ i (h : i < l.length), Q i (l[i]'h)
  | 0, _ => ⟨[], rfl, fun i h => absurd h (Nat.not_lt_zero _)⟩
  | n + 1, h => by
    obtain ⟨l, hl, hq⟩ := choose_list n fun i hi => h i (by omega)
    obtain ⟨x, hx⟩ := h n (by omega)
    refine ⟨l ++ [x], by simp [hl], fun i hi => ?_⟩
    by_cases hin : i < l.length
    · rw [List.getElem_append_left hin]; exact hq i hin
    · have : i = n := by simp at hi; omega
      subst this
      have e : (l ++ [x])[i]'hi = x := by
        rw [List.getElem_append_right (by omega)]
        simp [hl]
      rw [e]; exact hx
theorem open_lv : ∀ (d : Nat) (t : TypeId) (ks : List T), lvP P d t = some ks → ∀ (fuel : Nat) (cs : List Value) x, DataW.trod enc P w base spare held fuel t cs = some x → ∃ ds, Pl ks ds ∧ ∀ γ : Gh, Free γ → rdL w γ ds cs
  | 0, t, ks, h, _, _, _, _ => by simp [lvP] at h
  | d + 1, t, ks, h, fuel, cs, x, hx => by
    cases hu : P.underlying t with
    | none => simp [lvP, hu] at h
    | some kd =>
      cases kd
      case bool =>
        simp only [lvP, hu, Option.some.injEq] at h
        subst h
        cases fuel with
        | zero => simp [DataW.trod] at hx
        | succ fuel =>
          unfold DataW.trod at hx
          rw [hu] at hx
          split at hx <;> simp_all
          rename_i b
          exact ⟨[.g .bool b], .cons (by simp only [T.ok]) .nil, fun γ _ => by simp [rdL, rdD, rdT]⟩
      case int k =>
        simp only [lvP, hu, Option.some.injEq] at h
        subst h
        obtain ⟨n, rfl, _, hw⟩ := DataW.trod_int hu hx
        simp only [Lit.wf, Bool.and_eq_true, decide_eq_true_eq] at hw
        exact ⟨[.g (.int k) n], .cons (by simp only [T.ok]; exact hw) .nil, fun γ _ => by simp [rdL, rdD, rdT]⟩
      case slice e =>
        simp only [lvP, hu] at h
        split at h
        · rename_i k1 hk1
          split at h
          · rename_i ts hts
            cases hc : (P.cellsOf e).beq k1.length with
            | false => rw [hc] at h; cases h
            | true =>
              rw [hc] at h
              cases h
              have hl := tsOf_list hts
              have hsz : P.cellsOf e = ts.size := by rw [nbeq.1 hc, ← hl, Ts.list_length]
              rcases DataW.trod_slice hu hx with ⟨rfl, _⟩ | ⟨a, len, cap, elems, rest, n, _, rfl, _, hb, hlc, hm, hlen, hel, _, _⟩
              · exact ⟨[.g (.sl ts) []], .cons (by simp only [T.ok]; exact ⟨Nat.zero_le _, fun i hi => absurd hi (Nat.not_lt_zero _)⟩) .nil, fun γ _ => by
                  simp only [rdL, rdD, rdT, and_true]
                  exact ⟨none, 0, rfl, Nat.le_refl _, fun i hi => absurd hi (Nat.not_lt_zero _)⟩⟩
              · have hone : ∀ i, i < len → ∃ y : ts.den, ts.ok y ∧ a.spot = none ∧ ∀ γ : Gh, Free γ → rdTs w γ ts y a.block (a.off + i * ts.size) := fun i hi => by
                  have h1 := hel i hi
                  rw [List.getElem?_eq_getElem (by omega)] at h1
                  obtain ⟨cs, hcs, htr⟩ := Option.bind_eq_some_iff.1 h1
                  obtain ⟨ds, p1, q1⟩ := open_lv d e k1 hk1 n cs _ htr
                  rw [← hl] at p1
                  obtain ⟨y, rfl, hy⟩ := p1.leaves
                  obtain ⟨_, c2, c3⟩ := World.cells?_some hcs
                  have hpos := Ts.size_pos ts
                  rw [hsz] at c2 c3
                  have hget : ∀ j, j < ts.size → ∃ v, cs[j]? = some v ∧ w.cell? ((a.add (i * ts.size)).add j) = some v := fun j hj => by
                    have hlt : j < cs.length := by omega
                    exact ⟨cs[j], List.getElem?_eq_getElem hlt, by rw [c3 j hj]; exact List.getElem?_eq_getElem hlt⟩
                  have haddr : a.spot = none := by
                    have h00 := hel 0 (by omega)
                    rw [List.getElem?_eq_getElem (by omega)] at h00
                    obtain ⟨cs0, hcs0, _⟩ := Option.bind_eq_some_iff.1 h00
                    obtain ⟨_, e2, e3⟩ := World.cells?_some hcs0
                    rw [hsz] at e2 e3
                    have e4 := e3 0 hpos
                    rw [List.getElem?_eq_getElem (by omega)] at e4
                    simp only [Nat.zero_mul, Addr.add, if_true] at e4
                    cases hsp : a.spot with
                    | none => rfl
                    | some q =>
                      unfold World.cell? at e4
                      split at e4
                      · rw [hsp] at e4; simp at e4
                      · cases e4
                  have hadd : ∀ j, (a.add (i * ts.size)).add j = ⟨a.block, a.off + i * ts.size + j, none⟩ := fun j => by
                    obtain ⟨ab, ao, as⟩ := a
                    simp only at haddr
                    subst haddr
                    simp only [add_none]
                  refine ⟨y, hy, haddr, fun γ hγ => rdTs_of_rdC (rdC_of_cells fun j dd hj => ?_)⟩
                  obtain ⟨v, hv, hdv⟩ := rdL_get (q1 γ hγ) hj
                  have hjl : j < ts.size := by
                    have := (List.getElem?_eq_some_iff.1 hj).1
                    rwa [leaves_length] at this
                  obtain ⟨v', hv', hcell⟩ := hget j hjl
                  rw [hv] at hv'
                  cases hv'
                  rw [hadd j] at hcell
                  exact ⟨v, hcell, hγ.may _ _, hdv⟩
                obtain ⟨xs, hxl, hxs⟩ := choose_list len hone
                refine ⟨[.g (.sl ts) xs], .cons (by simp only [T.ok]; exact ⟨by omega, fun i hi => (hxs i hi).1⟩) .nil, fun γ hγ => ?_⟩
                simp only [rdL, rdD, rdT, and_true]
                refine ⟨some a, cap, by rw [hxl], by omega, fun i hi => ?_⟩
                obtain ⟨_, hsp, hr⟩ := hxs i hi
                refine ⟨a.block, a.off, ?_, hr γ hγ⟩
                obtain ⟨ab, ao, as⟩ := a
                simp only at hsp
                subst hsp
                rfl
          · cases h
        · cases h
      case struct fs =>
        simp only [lvP, hu] at h
        split at h
        · rename_i k0 hk0
          have h' := h
          replace h := hk0
          cases hc : (P.cellsOf t).beq k0.length with
          | false => rw [hc] at h'; cases h'
          | true =>
          rw [hc] at h'
          cases h'
          obtain ⟨xs, n, _, _, hl, hlen, hf⟩ := DataW.trod_struct hu hx
          obtain ⟨ds, p1, q1⟩ := open_fields (enc := enc) (w := w) (base := base) (spare := spare) (held := held) (cs := cs) (fun t ks => open_lv d t ks) n fs.toList 0 _ h fun i f hi => by
            have hi' : fs[i]? = some f := by simpa using hi
            have hlt := (Array.getElem?_eq_some_iff.1 hi').1
            exact ⟨xs[i]'(by omega), by rw [hf i f hi']; exact List.getElem?_eq_getElem _⟩
          refine ⟨ds, p1, fun γ hγ => ?_⟩
          have := q1 γ hγ
          rwa [List.drop_zero, List.take_of_length_le (by rw [hl, nbeq.1 hc]; exact Nat.le_refl _)] at this
        · cases h
      case array n e =>
        simp only [lvP, hu] at h
        split at h
        · rename_i k1 hk1
          cases hc : ((P.cellsOf e).beq k1.length && (P.cellsOf t).beq (repL k1 n).length) with
          | false => rw [hc] at h; cases h
          | true =>
            rw [hc] at h
            cases h
            simp only [Bool.and_eq_true] at hc
            obtain ⟨xs, m, _, _, hl, hlen, hi⟩ := DataW.trod_array hu hx
            obtain ⟨ds, p1, q1⟩ := open_items (enc := enc) (w := w) (base := base) (spare := spare) (held := held) (cs := cs) (m := m) hk1 (nbeq.1 hc.1) (fun t ks => open_lv d t ks) n 0 fun i hin => by
              exact ⟨xs[i]'(by omega), by rw [Nat.zero_add, hi i hin]; exact List.getElem?_eq_getElem _⟩
            refine ⟨ds, p1, fun γ hγ => ?_⟩
            have := q1 γ hγ
            rw [Nat.zero_mul, List.drop_zero, List.take_of_length_le (by rw [hl, nbeq.1 hc.2]; exact Nat.le_refl _)] at this
            exact this
        · cases h
      all_goals simp [lvP, hu] at h
/-- an argument: its data, and how it reads -/
def argR (ag : Bool) (ts : Ts) (x : ts.den) : R := match ag with
  | true => .agg (ts.leaves x)
  | false => match ts.leaves x with
    | [d] => .one d
    | _ => .undef
def isAggP (P : Program) (t : TypeId) : Bool := match P.underlying t with
  | some (.struct _) => true
  | some (.array _ _) => true
  | _ => false
/-- what is asked of a parameter's type, as a check that runs -/
def argB (P : Program) (t : TypeId) (ag : Bool) (ts : Ts) : Bool := (match lvP P 9 t with
  | some ks => tsB ks ts.list
  | none => false) && (isAggP P t == ag) && (ag || ts.size.beq 1)
theorem open_arg {r : Reach} {b0 : Nat} {t : TypeId} {ag : Bool} {ts : Ts} {v : Value} {d : DataW H} {ps : List MemPlace} (hb : argB P t ag ts = true) (hval : Value.okWide P w r b0 t v) (h : DataW.Trod enc P w base spare held t v d ps) :
    ∃ x : ts.den, ts.ok x ∧ ∀ γ : Gh, Free γ → rdR w γ (argR ag ts x) v := by
  simp only [argB, Bool.and_eq_true, Bool.or_eq_true] at hb
  obtain ⟨⟨hb1, hb2⟩, hb3⟩ := hb
  split at hb1
  · rename_i ks hks
    obtain rfl := tsB_eq hb1
    obtain ⟨fuel, hf⟩ := h
    obtain ⟨ds, p1, q1⟩ := open_lv 9 t ts.list hks fuel _ _ hf
    obtain ⟨x, rfl, hx⟩ := p1.leaves
    refine ⟨x, hx, fun γ hγ => ?_⟩
    have hr := q1 γ hγ
    have hb2 := eq_of_beq hb2
    cases ag with
    | true =>
      have hcs : ∃ cs, v = .agg cs := by
        unfold isAggP at hb2
        unfold Value.okWide at hval
        split at hb2
        · rename_i hu; rw [hu] at hval; obtain ⟨cs, rfl, _⟩ := hval; exact ⟨cs, rfl⟩
        · rename_i hu; rw [hu] at hval; obtain ⟨cs, rfl, _⟩ := hval; exact ⟨cs, rfl⟩
        · cases hb2
      obtain ⟨cs, rfl⟩ := hcs
      simp only [argR, rdR]
      exact ⟨cs, rfl, hr⟩
    | false =>
      have h1 : ts.size = 1 := by
        rcases hb3 with hb3 | hb3
        · cases hb3
        · exact nbeq.1 hb3
      have hl := leaves_length ts x
      rw [h1] at hl
      simp only [argR]
      cases hlv : ts.leaves x with
      | nil => rw [hlv] at hl; simp at hl
      | cons y ys =>
        have hys : ys = [] := by rw [hlv] at hl; simpa using hl
        subst hys
        rw [hlv] at hr
        simp only [rdR]
        have hlen := rdL_length hr
        have hc : ∃ u, v.cells.toList = [u] := by
          match hh : v.cells.toList, hlen with
          | [u], _ => exact ⟨u, rfl⟩
        obtain ⟨u, hu⟩ := hc
        rw [hu] at hr
        simp only [rdL, and_true] at hr
        have hv : v = u := by
          cases v with
          | agg cs =>
            exfalso
            unfold isAggP at hb2
            unfold Value.okWide at hval
            simp only [lvP] at hks
            split at hb2
            · cases hb2
            · cases hb2
            · rename_i hn1 hn2
              cases hut : P.underlying t with
              | none => rw [hut] at hks; cases hks
              | some kd =>
                rw [hut] at hval hks
                cases kd <;> first | (exact hn1 _ hut) | (exact hn2 _ _ hut) | (simp at hks; done) | (simp only [Cell.okWide, hut] at hval; unfold Cell.ok at hval; rw [hut] at hval; simp at hval)
          | _ => simpa [Value.cells] using hu
        rw [hv]
        exact hr
  · cases hb1
end
end Go.V
/- Plain helps for the laws: ranges that are looked through, masks, rounding, loops. -/
namespace Go.V.P
open Go Go.V Go.IntWalk
set_option linter.unusedVariables false

/-! ### Answers -/
def isT : Option Bool → Bool
  | some true => true
  | _ => false
theorem isT_eq {x : Option Bool} (h : isT x = true) : x = some true := by
  unfold isT at h
  split at h
  · rfl
  · cases h
theorem all_range {p : Int → Bool} {a : Int} {n : Nat} (h : (List.range n).all (fun i => p (a + (i : Int))) = true) {x : Int} (h1 : a ≤ x) (h2 : x < a + n) : p x = true := by
  rw [List.all_eq_true] at h
  have := h (x - a).toNat (List.mem_range.2 (by omega))
  rwa [show a + ((x - a).toNat : Int) = x by omega] at this
theorem all_range2 {p : Int → Int → Bool} {a b : Int} {n m : Nat} (h : (List.range n).all (fun i => (List.range m).all fun j => p (a + (i : Int)) (b + (j : Int))) = true) {x y : Int} (h1 : a ≤ x) (h2 : x < a + n) (h3 : b ≤ y) (h4 : y < b + m) : p x y = true :=
  all_range (p := fun y => p x y) (all_range (p := fun x => (List.range m).all fun j => p x (b + (j : Int))) h h1 h2) h3 h4

/-! ### Masks -/
theorem and_le (x : Int) (m : Nat) (hm : m < 2 ^ 63) : ∃ n : Int, IntKind.wrap .i64 ((BitVec.ofInt (IntKind.bits .i64) x &&& BitVec.ofInt (IntKind.bits .i64) (m : Int)).toNat : Int) = n ∧ 0 ≤ n ∧ n ≤ m := by
  have h1 : (BitVec.ofInt 64 x &&& BitVec.ofInt 64 (m : Int)).toNat ≤ m := by
    rw [BitVec.toNat_and]
    refine Nat.le_trans Nat.and_le_right ?_
    rw [BitVec.toNat_ofInt]
    have : ((m : Int) % (2 ^ 64 : Nat)).toNat = m := by omega
    rw [this]
    exact Nat.le_refl _
  refine ⟨_, i64_in _ ?_, ?_, ?_⟩
  · show _ ≤ (((BitVec.ofInt 64 x &&& BitVec.ofInt 64 (m : Int)).toNat : Nat) : Int) ∧ (((BitVec.ofInt 64 x &&& BitVec.ofInt 64 (m : Int)).toNat : Nat) : Int) ≤ _
    omega
  · omega
  · show (((BitVec.ofInt 64 x &&& BitVec.ofInt 64 (m : Int)).toNat : Nat) : Int) ≤ _
    omega
theorem u8_in (n : Int) (h : 0 ≤ n ∧ n ≤ 255) : IntKind.wrap .u8 n = n := by
  have h2 : IntKind.wrap .u8 n = n % 256 := rfl
  rw [h2]; omega
theorem and8_le (x : Int) (m : Nat) (hm : m < 256) : ∃ n : Int, IntKind.wrap .u8 ((BitVec.ofInt (IntKind.bits .u8) x &&& BitVec.ofInt (IntKind.bits .u8) (m : Int)).toNat : Int) = n ∧ 0 ≤ n ∧ n ≤ m := by
  have h1 : (BitVec.ofInt 8 x &&& BitVec.ofInt 8 (m : Int)).toNat ≤ m := by
    rw [BitVec.toNat_and]
    refine Nat.le_trans Nat.and_le_right ?_
    rw [BitVec.toNat_ofInt]
    have : ((m : Int) % (2 ^ 8 : Nat)).toNat = m := by omega
    rw [this]
    exact Nat.le_refl _
  refine ⟨_, u8_in _ ?_, ?_, ?_⟩
  · show _ ≤ (((BitVec.ofInt 8 x &&& BitVec.ofInt 8 (m : Int)).toNat : Nat) : Int) ∧ (((BitVec.ofInt 8 x &&& BitVec.ofInt 8 (m : Int)).toNat : Nat) : Int) ≤ _
    omega
  · omega
  · show (((BitVec.ofInt 8 x &&& BitVec.ofInt 8 (m : Int)).toNat : Nat) : Int) ≤ _
    omega

/-! ### Rounding -/
/-- a quotient, rounded to the nearest -/
def rnd (x y : Int) : Int := if x < 0 then -((-x + y / 2) / y) else (x + y / 2) / y
theorem half_zero {b : Int} (hb : 1 ≤ b) : b / 2 / b = 0 := Int.ediv_eq_zero_of_lt (by omega) (by omega)
theorem rnd_zero {b : Int} (hb : 1 ≤ b) : rnd 0 b = 0 := by
  unfold rnd
  rw [if_neg (by omega), Int.zero_add, half_zero hb]
theorem rnd_neg {x b : Int} (hb : 1 ≤ b) : rnd (-x) b = -rnd x b := by
  rcases Int.lt_trichotomy x 0 with h | h | h
  · unfold rnd
    rw [if_neg (by omega), if_pos h, Int.neg_neg]
  · subst h; rw [Int.neg_zero, rnd_zero hb]; rfl
  · unfold rnd
    rw [if_pos (by omega), if_neg (by omega), Int.neg_neg]
theorem rnd_pos_add {x k b : Int} (hb : 1 ≤ b) (hx : 0 ≤ x) (hk : 0 ≤ k) : rnd (x + k * b) b = rnd x b + k := by
  have h : 0 ≤ k * b := Int.mul_nonneg hk (by omega)
  unfold rnd
  rw [if_neg (by omega), if_neg (by omega), show x + k * b + b / 2 = (x + b / 2) + k * b by omega, Int.add_mul_ediv_right _ _ (by omega)]
theorem rnd_mul {x b : Int} (hb : 1 ≤ b) : rnd (x * b) b = x := by
  by_cases hx : x < 0
  · have := rnd_pos_add (x := 0) (k := -x) hb (Int.le_refl 0) (by omega)
    rw [Int.zero_add, rnd_zero hb, Int.zero_add, Int.neg_mul, rnd_neg hb] at this
    omega
  · have := rnd_pos_add (x := 0) (k := x) hb (Int.le_refl 0) (by omega)
    rwa [Int.zero_add, rnd_zero hb, Int.zero_add] at this
theorem rnd_one {x : Int} : rnd x 1 = x := by have := rnd_mul (x := x) (b := 1) (by omega); rwa [Int.mul_one] at this
theorem rnd_abs {x b c : Int} (hb : 1 ≤ b) (h1 : -c ≤ x) (h2 : x ≤ c) : -(c + b) ≤ rnd x b ∧ rnd x b ≤ c + b := by
  unfold rnd
  by_cases hx : x < 0
  · rw [if_pos hx]
    have h3 : 0 ≤ (-x + b / 2) / b := Int.ediv_nonneg (by omega) (by omega)
    have h4 : (-x + b / 2) / b ≤ -x + b / 2 := Int.ediv_le_self _ (by omega)
    omega
  · rw [if_neg hx]
    have h3 : 0 ≤ (x + b / 2) / b := Int.ediv_nonneg (by omega) (by omega)
    have h4 : (x + b / 2) / b ≤ x + b / 2 := Int.ediv_le_self _ (by omega)
    omega
theorem tmod_lt {x m : Int} (hm : 0 < m) : -m < Int.tmod x m ∧ Int.tmod x m < m := ⟨Int.lt_tmod_of_pos x hm, Int.tmod_lt_of_pos x hm⟩

/-! ### Loops -/
/-- a loop that counts to its end: what holds at the beginning and is kept by each round holds at the end -/
theorem iterN_inv {σ ζ : Type} {p : σ → Option (σ ⊕ ζ)} (I : σ → Prop) (μ : σ → Nat) {Q : ζ → Prop}
    (h : ∀ s, I s → (∃ s', p s = some (.inl s') ∧ I s' ∧ μ s' < μ s) ∨ (∃ z, p s = some (.inr z) ∧ Q z)) : ∀ (n : Nat) (s : σ), I s → μ s < n → ∃ z, iterN p n s = some z ∧ Q z
  | 0, s, _, hn => absurd hn (Nat.not_lt_zero _)
  | n + 1, s, hi, hn => by
    simp only [iterN]
    rcases h s hi with ⟨s', h1, h2, h3⟩ | ⟨z, h1, h2⟩
    · rw [h1]
      exact iterN_inv I μ h n s' h2 (by omega)
    · rw [h1]
      exact ⟨z, rfl, h2⟩
/-- a loop whose rounds are told one by one -/
theorem iterN_for {σ ζ : Type} {p : σ → Option (σ ⊕ ζ)} {z : ζ} : ∀ (n : Nat) (st : Nat → σ) (m : Nat), n < m → (∀ i, i < n → p (st i) = some (.inl (st (i + 1)))) → p (st n) = some (.inr z) → iterN p m (st 0) = some z
  | 0, st, m + 1, _, _, he => by
    simp only [iterN]
    rw [he]
    rfl
  | n + 1, st, m + 1, hm, hs, he => by
    simp only [iterN]
    rw [hs 0 (by omega)]
    exact iterN_for n (fun i => st (i + 1)) m (by omega) (fun i hi => hs (i + 1) (by omega)) he
  | _, _, 0, hm, _, _ => absurd hm (Nat.not_lt_zero _)
theorem LL_lt {n : Nat} (h : n < 1000000) : n < LL := h
theorem mul_in' {a b c d : Int} (h1 : 0 ≤ a) (h2 : a ≤ c) (h3 : 0 ≤ b) (h4 : b ≤ d) : 0 ≤ a * b ∧ a * b ≤ c * d :=
  ⟨Int.mul_nonneg h1 h3, Int.mul_le_mul h2 h4 h3 (by omega)⟩
end Go.V.P
