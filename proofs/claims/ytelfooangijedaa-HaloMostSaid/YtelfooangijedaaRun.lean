/- Code; calls; the evaluator is sound. -/
import Derived.Test.YtelfooangijedaaSeq
namespace Go.V
open Go.RowKit
set_option linter.unusedVariables false

section
variable {E : Env} {f : Nat} {cp : CallP} {ce : CallE} {γ : Gh} {C : List Nat} {a : Act} {w : World} {st st' : St} {ops : Array Oper}

/-! ### Boxes that are given up -/
def Gh.cut (γ : Gh) (n : Nat) : Gh := { γ with bx := γ.bx.take n }
mutual
theorem rdD_cut {n : Nat} : (d : D) → (v : Value) → d.refsBelow n = true → rdD w γ d v → rdD w (γ.cut n) d v
  | .g t x, v, _, h => by simp only [rdD] at h ⊢; exact rdT_mono (γ := γ) (w := w) (w' := w) (γ' := γ.cut n) ⟨fun _ _ _ h1 h2 => ⟨h2, h1⟩⟩ t x v h
  | .ow e xs _, v, _, h => by simp only [rdD] at h ⊢; exact rdT_mono (γ := γ) (w := w) (w' := w) (γ' := γ.cut n) ⟨fun _ _ _ h1 h2 => ⟨h2, h1⟩⟩ (.sl e) xs v h
  | .fn f caps, v, hb, h => by
    simp only [rdD] at h ⊢
    simp only [D.refsBelow] at hb
    obtain ⟨vs, rfl, hl⟩ := h
    exact ⟨vs, rfl, rdL_cut caps _ hb hl⟩
  | .nilFn, v, _, h => by simpa only [rdD] using h
  | .nilPtr, v, _, h => by simpa only [rdD] using h
  | .cell c, v, hb, h => by
    simp only [rdD] at h ⊢
    simp only [D.refsBelow] at hb
    obtain ⟨b, o, rfl, hc⟩ := h
    exact ⟨b, o, rfl, rdC_cut c b o hb hc⟩
  | .ref i off, v, hb, h => by
    simp only [rdD] at h ⊢
    simp only [D.refsBelow, nblt] at hb
    obtain ⟨b, h1, rfl⟩ := h
    exact ⟨b, by simp only [Gh.cut]; rw [List.getElem?_take, if_pos hb]; exact h1, rfl⟩
  | .undef, v, _, h => by simpa only [rdD] using h
theorem rdL_cut {n : Nat} : (ds : List D) → (vs : List Value) → refsBelowL n ds = true → rdL w γ ds vs → rdL w (γ.cut n) ds vs
  | [], [], _, _ => by simp only [rdL]
  | d :: ds, v :: vs, hb, h => by
    simp only [refsBelowL, Bool.and_eq_true] at hb
    simp only [rdL] at h ⊢
    exact ⟨rdD_cut d v hb.1 h.1, rdL_cut ds vs hb.2 h.2⟩
  | [], _ :: _, _, h => by simp only [rdL] at h
  | _ :: _, [], _, h => by simp only [rdL] at h
theorem rdC_cut {n : Nat} : (ds : List D) → (b o : Nat) → refsBelowL n ds = true → rdC w γ ds b o → rdC w (γ.cut n) ds b o
  | [], _, _, _, _ => by simp only [rdC]
  | d :: ds, b, o, hb, h => by
    simp only [refsBelowL, Bool.and_eq_true] at hb
    simp only [rdC] at h ⊢
    obtain ⟨⟨u, h1, h2, h3⟩, h4⟩ := h
    exact ⟨⟨u, h1, h2, rdD_cut d u hb.1 h3⟩, rdC_cut ds b (o + 1) hb.2 h4⟩
end
mutual
theorem rdR_cut {n : Nat} : (r : R) → (v : Value) → r.refsBelow n = true → rdR w γ r v → rdR w (γ.cut n) r v
  | .one d, v, hb, h => by simp only [R.refsBelow] at hb; simp only [rdR] at h ⊢; exact rdD_cut d v hb h
  | .agg ds, v, hb, h => by
    simp only [R.refsBelow] at hb
    simp only [rdR] at h ⊢
    obtain ⟨vs, rfl, hl⟩ := h
    exact ⟨vs, rfl, rdL_cut ds _ hb hl⟩
  | .tup rs, v, hb, h => by
    simp only [R.refsBelow] at hb
    simp only [rdR] at h ⊢
    obtain ⟨vs, rfl, hl⟩ := h
    exact ⟨vs, rfl, rdRs_cut rs _ hb hl⟩
  | .undef, v, _, h => by simp only [rdR]
  | .skip, v, _, h => by simpa only [rdR] using h
theorem rdRs_cut {n : Nat} : (rs : List R) → (vs : List Value) → R.refsBelowL n rs = true → rdRs w γ rs vs → rdRs w (γ.cut n) rs vs
  | [], [], _, _ => by simp only [rdRs]
  | r :: rs, v :: vs, hb, h => by
    simp only [R.refsBelowL, Bool.and_eq_true] at hb
    simp only [rdRs] at h ⊢
    exact ⟨rdR_cut r v hb.1 h.1, rdRs_cut rs vs hb.2 h.2⟩
  | [], _ :: _, _, h => by simp only [rdRs] at h
  | _ :: _, [], _, h => by simp only [rdRs] at h
end
theorem refsOk_look {n : Nat} : ∀ {l : List (Nat × R)} {s : Nat} {r : R}, refsOk n l = true → look l s = some r → r.refsBelow n = true
  | [], s, r, _, h => by simp [look] at h
  | (t, q) :: l, s, r, h, hl => by
    simp only [refsOk, Bool.and_eq_true] at h
    simp only [look] at hl
    cases hb : Nat.beq t s with
    | true => rw [hb] at hl; cases hl; exact h.1
    | false => rw [hb] at hl; exact refsOk_look h.2 hl
theorem heapRefsOk_get {n : Nat} : ∀ {h : Heap} {i : Nat} {ds : List D}, heapRefsOk n h = true → h[i]? = some ds → refsBelowL n ds = true
  | [], i, ds, _, h => by simp at h
  | x :: h, 0, ds, hh, hi => by
    simp only [heapRefsOk, Bool.and_eq_true] at hh
    simp at hi
    exact hi ▸ hh.1
  | x :: h, i + 1, ds, hh, hi => by
    simp only [heapRefsOk, Bool.and_eq_true] at hh
    exact heapRefsOk_get hh.2 (by simpa using hi)
theorem sim_trunc {n : Nat} (h : Sim γ st [] a w) (hd : st.dead = []) (ht : st.trunc n = some st') : ∃ γ', Sim γ' st' [] a w ∧ st'.dead = [] ∧ st'.heap.length ≤ st.heap.length ∧ γ'.rd = γ.rd ∧ γ'.base = γ.base ∧ (∀ (i b : Nat), i < n → γ.bx[i]? = some b → γ'.bx[i]? = some b) ∧ st'.heap.length ≤ n := by
  unfold St.trunc at ht
  cases hb : st.heap.length.beq n with
  | true =>
    rw [hb] at ht
    simp only [cond_true, Option.some.injEq] at ht
    subst ht
    exact ⟨γ, h, hd, Nat.le_refl _, rfl, rfl, fun _ _ _ h => h, by rw [nbeq.1 hb]; exact Nat.le_refl _⟩
  | false =>
    rw [hb] at ht
    simp only [cond_false] at ht
    cases hr : (refsOk n st.regs && heapRefsOk n (st.heap.take n)) with
    | false => rw [hr] at ht; cases ht
    | true =>
      rw [hr] at ht
      simp only [cond_true, Option.some.injEq] at ht
      subst ht
      simp only [Bool.and_eq_true] at hr
      refine ⟨γ.cut n, ⟨h.dfr, h.sz, fun s r hl => ?_, ⟨?_, fun i ds b hi hb' => ?_, ?_⟩, ⟨fun k hd hk => ?_, h.own.inj⟩, h.fresh, h.base⟩, hd, ?_, rfl, rfl, fun i b hi hb' => ?_, ?_⟩
      · obtain ⟨h1, h2⟩ := h.regs s r hl
        refine ⟨rdR_cut r _ (refsOk_look hr.1 hl) h1, ?_⟩
        exact tkR_mono (γ := γ) (γ' := γ.cut n) (dead := st.dead) (dead' := st.dead) (fun _ x => x) (fun _ x => x) (fun k _ _ => .inr rfl) r _ h2
      · simp only [Gh.cut, List.length_take, h.heap.len]
      · simp only [Gh.cut, List.getElem?_take] at hi hb'
        split at hi
        · rename_i hlt
          rw [if_pos hlt] at hb'
          rcases h.heap.box i ds b hi hb' with ⟨⟨arr, ty, e1, e2, e3⟩, e4, e5⟩ | g
          case inr => exact .inr g
          refine .inl ⟨⟨arr, ty, e1, rdL_cut ds _ (heapRefsOk_get hr.2 (i := i) (by rw [List.getElem?_take, if_pos hlt]; exact hi)) e2, ?_⟩, e4, e5⟩
          exact tkL_mono (γ := γ) (γ' := γ.cut n) (dead := st.dead) (dead' := st.dead) (fun _ x => x) (fun _ x => x) (fun k _ _ => .inr rfl) e3
        · cases hi
      · exact h.heap.nodup.sublist (List.take_sublist _ _)
      · obtain ⟨o1, o2⟩ := h.own.own k hd hk
        refine ⟨o1, fun hc => ?_⟩
        obtain ⟨b, arr, ty, e1, e2, e3, e4, e5, e6⟩ := o2 hc
        exact ⟨b, arr, ty, e1, e2, e3, e4, e5, fun hm => e6 (List.mem_of_mem_take hm)⟩
      · simp only [List.length_take]; omega
      · simp only [Gh.cut, List.getElem?_take, if_pos hi]; exact hb'
      · simp only [List.length_take]; omega

theorem Ext.cut {n : Nat} {γ0 γ' : Gh} {w0 : World} (h : Ext γ0 w0 γ w) (hn : γ0.bx.length ≤ n) (hrd : γ'.rd = γ.rd) (hbase : γ'.base = γ.base) (hbx : ∀ (i b : Nat), i < n → γ.bx[i]? = some b → γ'.bx[i]? = some b) : Ext γ0 w0 γ' w :=
  ⟨fun i b hi => hbx i b (Nat.lt_of_lt_of_le (List.getElem?_eq_some_iff.1 hi).1 hn) (h.bx i b hi), hbase.trans h.base, h.size, fun b i u h1 h2 => let ⟨c1, c2⟩ := h.cells b i u h1 h2; ⟨c1, (may_congr (congrFun hrd b)).2 c2⟩, h.low,
   fun b hb => (congrFun hrd b).trans (h.rdlow b hb)⟩

/-! ### Code -/
def VExit.ex : VExit → Exit
  | .normal => .normal
  | .exit id => .exit id
  | .ret => .ret
/-- what is left to do when a piece of code ends -/
def Ends {α : Type} (k : Kont α) (res : α) (γ : Gh) (w : World) (Q : Exit → Act → World → Prop) : Prop :=
  ∀ e st' γ' a' w', Ext γ w γ' w' → Sim γ' st' [] a' w' → st'.dead = [] → k e st' = some res → Q e.ex a' w'
theorem loop_sound {α : Type} {P : Program} {run : St → Kont α → Option α} {c : Code} {res : α} {Q : Exit → Act → World → Prop} {n0 : Nat} {k : Kont α}
    (hbody : ∀ {st : St} {k : Kont α} {γ : Gh} {a : Act} {w : World} {Q : Exit → Act → World → Prop}, run st k = some res → Sim γ st [] a w → st.dead = [] → Ends k res γ w Q → c.wp P Q a w)
    (m : Nat) (h : loopK run n0 m st k = some res) (hs : Sim γ st [] a w) (hd : st.dead = []) (hn : γ.bx.length ≤ n0) (hQ : Ends k res γ w Q) : (Code.loop c).wp P Q a w := by
  let J : Nat → Act → World → Prop := fun m a' w' => ∃ γ' st', Ext γ w γ' w' ∧ Sim γ' st' [] a' w' ∧ st'.dead = [] ∧ loopK run n0 m st' k = some res
  have hex : ∀ a' w', (∃ m, J m a' w') → ∃ m, J m a' w' ∧ ∀ m', J m' a' w' → m ≤ m' := fun a' w' ⟨m, hm⟩ => by
    induction m using Nat.strongRecOn with
    | _ m ih =>
      by_cases hlt : ∃ m', m' < m ∧ J m' a' w'
      · obtain ⟨m', h1, h2⟩ := hlt; exact ih m' h1 h2
      · exact ⟨m, hm, fun m' hm' => Nat.le_of_not_lt fun hl => hlt ⟨m', hl, hm'⟩⟩
  let μ : Act → World → Nat := fun a' w' => by
    classical
    exact if h : ∃ m, J m a' w' then Classical.choose (hex a' w' h) else 0
  have hμ : ∀ a' w' m, J m a' w' → J (μ a' w') a' w' ∧ μ a' w' ≤ m := fun a' w' m hm => by
    have h : ∃ m, J m a' w' := ⟨m, hm⟩
    have e : μ a' w' = Classical.choose (hex a' w' h) := dif_pos h
    rw [e]
    exact ⟨(Classical.choose_spec (hex a' w' h)).1, (Classical.choose_spec (hex a' w' h)).2 m hm⟩
  refine wp_loop (fun a' w' => ∃ m, J m a' w') μ ⟨m, γ, st, Ext.refl γ w, hs, hd, h⟩ fun a' w' ⟨m1, hm1⟩ => ?_
  obtain ⟨hJ, _⟩ := hμ a' w' m1 hm1
  generalize μ a' w' = m2 at hJ
  obtain ⟨γ', st', he, hs', hd', hl⟩ := hJ
  cases m2 with
  | zero => simp only [loopK, reduceCtorEq] at hl
  | succ m2 =>
    simp only [loopK] at hl
    refine hbody hl hs' hd' fun e st2 γ2 a2 w2 he2 hs2 hd2 hk => ?_
    cases e with
    | normal =>
      simp only at hk
      split at hk
      · rename_i st3 ht
        obtain ⟨γ3, hs3, hd3, _, e1, e2, e3, _⟩ := sim_trunc hs2 hd2 ht
        have hJ3 : J m2 a2 w2 := ⟨γ3, st3, (he.trans he2).cut hn e1 e2 e3, hs3, hd3, hk⟩
        exact ⟨⟨m2, hJ3⟩, Nat.lt_succ_of_le (hμ a2 w2 m2 hJ3).2⟩
      · cases hk
    | exit j =>
      simp only at hk
      split at hk
      · rename_i st3 ht
        obtain ⟨γ3, hs3, hd3, _, e1, e2, e3, _⟩ := sim_trunc hs2 hd2 ht
        exact hQ (.exit j) st3 γ3 a2 w2 ((he.trans he2).cut hn e1 e2 e3) hs3 hd3 hk
      · cases hk
    | ret => exact hQ .ret st2 γ2 a2 w2 (he.trans he2) hs2 hd2 hk
theorem look_erase {t : Nat} : ∀ {l : List (Nat × R)} {s : Nat} {r : R}, look (eraseR t l) s = some r → look l s = some r
  | [], s, r, h => by simp [eraseR, look] at h
  | (u, q) :: l, s, r, h => by
    simp only [eraseR] at h
    simp only [look]
    cases hu : u.beq t with
    | true =>
      rw [hu] at h
      simp only [cond_true] at h
      cases hs : Nat.beq u s with
      | true =>
        obtain rfl := nbeq.1 hs
        obtain rfl := nbeq.1 hu
        have : ∀ (l : List (Nat × R)), look (eraseR u l) u = none := by
          intro l
          induction l with
          | nil => rfl
          | cons p l ih =>
            obtain ⟨v, x⟩ := p
            simp only [eraseR]
            cases hv : v.beq u with
            | true => simpa using ih
            | false => simp only [cond_false, look]; rw [hv]; simpa using ih
        rw [this l] at h
        cases h
      | false => exact look_erase h
    | false =>
      rw [hu] at h
      simp only [cond_false, look] at h
      cases hs : Nat.beq u s with
      | true => rw [hs] at h; exact h
      | false => rw [hs] at h; exact look_erase h
theorem Sim.into {c : Code} (h : Sim γ st C a w) : Sim γ (st.into E f c) C a w := by
  unfold St.into
  split
  · split
    · split
      · exact ⟨h.dfr, h.sz, fun s r hr => by obtain ⟨q, h1, rfl⟩ := look_keep hr; exact h.regs s q h1, h.heap, h.own, h.fresh, h.base⟩
      · exact h
    · exact h
  · exact h
theorem into_dead {c : Code} : (st.into E f c).dead = st.dead := by
  unfold St.into
  split
  · split
    · split <;> rfl
    · rfl
  · rfl
theorem Sim.past {c : Operand} (h : Sim γ st C a w) : Sim γ (st.past E f c) C a w := by
  unfold St.past
  split
  · rename_i t l _
    cases mem t l with
    | true => exact ⟨h.dfr, h.sz, fun s r hr => h.regs s r (look_erase hr), h.heap, h.own, h.fresh, h.base⟩
    | false => exact h
  · exact h
theorem past_dead {c : Operand} : (st.past E f c).dead = st.dead := by
  unfold St.past
  split
  · rename_i t l _
    cases mem t l <;> rfl
  · rfl
theorem runCode_sound {α : Type} {res : α} (hE : EnvOK E) (hcp : PureOK E cp) (hce : EffOK E ce) : (c : Code) → {st : St} → {k : Kont α} → {γ : Gh} → {a : Act} → {w : World} → {Q : Exit → Act → World → Prop} →
    runCode E f cp ce c st k = some res → Sim γ st [] a w → st.dead = [] → Ends k res γ w Q → c.wp E.P Q a w
  | .skip, st, k, γ, a, w, Q, h, hs, hd, hQ => wp_skip (hQ .normal st γ a w (Ext.refl γ w) hs hd h)
  | .region id ops draw, st, k, γ, a, w, Q, h, hs, hd, hQ =>
    region_sound (f := f) hE hcp hce h hs fun γ' st1 a' w' he hs' hd' hk => hQ .normal st1 γ' a' w' he hs' hd' hk
  | .seq x y, st, k, γ, a, w, Q, h, hs, hd, hQ => by
    refine wp_seq (runCode_sound hE hcp hce x h hs hd fun e st1 γ1 a1 w1 he1 hs1 hd1 hk => ?_)
    cases e with
    | normal => exact runCode_sound hE hcp hce y hk hs1.into (into_dead.trans hd1) fun e st2 γ2 a2 w2 he2 hs2 hd2 hk2 => hQ e st2 γ2 a2 w2 (he1.trans he2) hs2 hd2 hk2
    | exit j => exact hQ (.exit j) st1 γ1 a1 w1 he1 hs1 hd1 hk
    | ret => exact hQ .ret st1 γ1 a1 w1 he1 hs1 hd1 hk
  | .cond c x y, st, k, γ, a, w, Q, h, hs, hd, hQ => by
    simp only [runCode] at h
    split at h
    · rename_i b hc
      have hv := evalO_bool (a := a) (w := w) (γ := γ) (dead := st.dead) (C := []) hs.regs hc
      cases b with
      | true => exact wp_cond hv (by simpa using runCode_sound hE hcp hce x h hs.past (past_dead.trans hd) hQ)
      | false => exact wp_cond hv (by simpa using runCode_sound hE hcp hce y h hs.past (past_dead.trans hd) hQ)
    · cases h
  | .block id c, st, k, γ, a, w, Q, h, hs, hd, hQ => by
    refine wp_block (runCode_sound hE hcp hce c h hs hd fun e st1 γ1 a1 w1 he1 hs1 hd1 hk => ?_)
    cases e with
    | normal => exact hQ .normal st1 γ1 a1 w1 he1 hs1 hd1 hk
    | exit j =>
      simp only [blockK] at hk
      simp only [VExit.ex, Exit.inBlock]
      cases hj : j.beq id with
      | true =>
        rw [hj] at hk
        rw [if_pos (nbeq.1 hj)]
        exact hQ .normal st1 γ1 a1 w1 he1 hs1 hd1 hk
      | false =>
        rw [hj] at hk
        rw [if_neg (nbeq_false.1 hj)]
        exact hQ (.exit j) st1 γ1 a1 w1 he1 hs1 hd1 hk
    | ret => exact hQ .ret st1 γ1 a1 w1 he1 hs1 hd1 hk
  | .loop c, st, k, γ, a, w, Q, h, hs, hd, hQ =>
    loop_sound (fun h hs hd hQ => runCode_sound hE hcp hce c h hs hd hQ) E.L h hs hd (by rw [hs.heap.len]; exact Nat.le_refl _) hQ
  | .exit id, st, k, γ, a, w, Q, h, hs, hd, hQ => wp_exit (hQ (.exit id) st γ a w (Ext.refl γ w) hs hd h)
  | .ret, st, k, γ, a, w, Q, h, hs, hd, hQ => wp_ret (hQ .ret st γ a w (Ext.refl γ w) hs hd h)
  | .label _, _, _, _, _, _, _, h, _, _, _ => by simp [runCode] at h
  | .goto _, _, _, _, _, _, _, h, _, _, _ => by simp [runCode] at h
end
end Go.V
