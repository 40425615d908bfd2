/- Every operation of the evaluator is the machine's. -/
import Derived.Test.YtelfooangijedaaPar
namespace Go.V
open Go.RowKit
section
variable {E : Env} {f : Nat} {cp : CallP} {o : Oper} {γ : Gh} {C : List Nat} {a : Act} {w : World} {st st' : St} {e : Eff}

theorem Goes.plain {r : R} (h : Sim γ st C a w) (hC : dstOf o ∉ C) (ha : st.app o.dst { r := r } = some st') (hq : Quiet E.P o a γ st.dead C w r) : Goes E.P o γ st' C a w :=
  Goes.quiet h hC hq (by simpa [St.app] using ha)
theorem Goes.plainRd {r : R} {l : List Nat} (h : Sim γ st C a w) (hC : dstOf o ∉ C) (ha : st.app o.dst { r := r, rd := l } = some st') (hq : Quiet E.P o a γ st.dead C w r) : Goes E.P o γ st' C a w :=
  Goes.quiet h hC hq (by simpa [St.app] using ha)
theorem notTup_of_size (hE : EnvOK E) {t : Nat} {ti : TI} (ht : E.ti t = some ti) (hg : ti.gl ≠ none) : ∀ ts, ti.d ≠ .tup ts := fun ts hd => hg ((hE.ti _ _ ht).nt ts hd)

theorem bif_some {α : Type} {c : Bool} {x : Option α} {y : α} (h : (bif c then x else none) = some y) : c = true ∧ x = some y := by
  cases c with
  | true => exact ⟨rfl, h⟩
  | false => cases h
theorem bif_none {α : Type} {c : Bool} {x : Option α} {y : α} (h : (bif c then none else x) = some y) : c = false ∧ x = some y := by
  cases c with
  | false => exact ⟨rfl, h⟩
  | true => cases h
theorem nt_spec {d : TD} (h : d.nt = true) : ∀ ts, d ≠ .tup ts := fun ts e => by subst e; cases h
theorem isBoolT_spec (hE : EnvOK E) {t : Nat} (h : isBoolT E t = true) : E.P.underlying t = some .bool := by
  unfold isBoolT at h
  split at h
  · rename_i ht
    exact (hE.ti _ _ ht).desc
  · cases h
theorem eff_sound (hE : EnvOK E) (hcp : PureOK E cp) (h : Sim γ st C a w) (hC : dstOf o ∉ C) (he : effK E f cp o (look st.regs) st.heap some = some e) (ha : st.app o.dst e = some st') : Goes E.P o γ st' C a w := by
  have hlk : LkOK (look st.regs) γ st.dead C a w := h.regs
  have hf := h.fresh
  unfold effK at he
  simp only [CallP.hk] at he
  cases ho : o.op <;> simp only [ho, reduceCtorEq] at he
  case move x =>
    split at he
    · split at he
      · cases he
        exact Goes.plain h hC ha (q_nil (.inl ho) hf)
      · cases he
    · split at he
      · rename_i hx
        cases he
        exact Goes.plain h hC ha (q_move (.inl ho) hf hlk hC hx)
      · cases he
  case assign x =>
    split at he
    · split at he
      · cases he
        exact Goes.plain h hC ha (q_nil (.inr ho) hf)
      · cases he
    · split at he
      · rename_i hx
        cases he
        exact Goes.plain h hC ha (q_move (.inr ho) hf hlk hC hx)
      · cases he
  case pick c x y =>
    split at he
    · rename_i hc
      split at he
      · rename_i hx
        cases he
        exact Goes.plain h hC ha (q_pick ho hf hlk hC hc (by simpa using hx))
      · cases he
    · rename_i hc
      split at he
      · rename_i hx
        cases he
        exact Goes.plain h hC ha (q_pick ho hf hlk hC hc (by simpa using hx))
      · cases he
    · cases he
  case binOp op xt x y yt =>
    split at he
    · rename_i kk i kk' j hx hy
      have hx := evalO_int hlk hx
      have hy := evalO_int hlk hy
      split at he
      · obtain ⟨hb, he⟩ := bif_some he
        cases he
        exact Goes.plain h hC ha (q_shl ho hf hx hy (by simpa using hb))
      · obtain ⟨hb, he⟩ := bif_some he
        cases he
        exact Goes.plain h hC ha (q_shr ho hf hx hy (by simpa using hb))
      · split at he
        · rename_i hk
          subst hk
          obtain ⟨hb, he⟩ := bif_none he
          cases he
          exact Goes.plain h hC ha (q_quo ho hf hx hy hb)
        · cases he
      · split at he
        · rename_i hk
          subst hk
          obtain ⟨hb, he⟩ := bif_none he
          cases he
          exact Goes.plain h hC ha (q_rem ho hf hx hy hb)
        · cases he
      · split at he
        · rename_i hk
          subst hk
          split at he
          · rename_i hb
            cases he
            exact Goes.plain h hC ha (q_int ho hf hx hy hb)
          · cases he
        · cases he
    · rename_i i j hx hy
      have hx := evalO_bool hlk hx
      have hy := evalO_bool hlk hy
      obtain ⟨hb, he⟩ := bif_some he
      have hb := isBoolT_spec hE hb
      split at he
      · cases he
        exact Goes.plain h hC ha (q_beq hb ho hf hx hy)
      · cases he
        exact Goes.plain h hC ha (q_bne hb ho hf hx hy)
      · cases he
    · rename_i da db hx hy
      obtain ⟨hm, he⟩ := bif_some he
      have h1 := (evalO_sound hlk hx).1
      have h2 := (evalO_sound hlk hy).1
      simp only [rdR] at h1 h2
      obtain ⟨xs, hx, h1⟩ := h1
      obtain ⟨ys, hy, h2⟩ := h2
      split at he
      · rename_i ts _ hti
        split at he
        · rename_i u v hu hv
          split at he
          · rename_i c hc _
            cases he
            obtain ⟨q1, q2⟩ := hE.eqs _ hm _ ts hti rfl w γ da db u v c xs ys x y hu hv hc h1 h2
            exact Goes.plain h hC ha (q_aggeq ho hf hx hy q1 q2)
          · rename_i c hc _
            cases he
            obtain ⟨q1, q2⟩ := hE.eqs _ hm _ ts hti rfl w γ da db u v c xs ys x y hu hv hc h1 h2
            exact Goes.plain h hC ha (q_aggne ho hf hx hy q1 q2)
          · cases he
        · cases he
      · cases he
    · cases he
  case unOp op xt x =>
    split at he
    · rename_i hx
      cases he
      exact Goes.plain h hC ha (q_not ho hf (evalO_bool hlk hx))
    · rename_i hx
      cases he
      exact Goes.plain h hC ha (q_neg ho hf (evalO_int hlk hx))
    · cases he
  case convert s d x =>
    split at he
    · rename_i hx hs hd
      cases he
      have q1 := (hE.ti _ _ hs).desc
      have q2 := (hE.ti _ _ hd).desc
      exact Goes.plain h hC ha (q_convert q1 q2 ho hf (evalO_int hlk hx))
    · cases he
  case box ty x =>
    split at he
    · rename_i r hx
      obtain ⟨hl, he⟩ := bif_some he
      cases hm : mem (dstOf o) ((look E.cbox f).getD []) with
      | true =>
        rw [hm] at he
        cases he
        exact Goes.plain h hC ha (q_boxConst ho hf hlk hx hl)
      | false =>
        rw [hm] at he
        cases he
        exact Goes.push (vs := (a.eval x).cells) (ty := ty) h hC (by simp [execOp, ho, Instr.box, newVar, newRow]) (leaves_sound hl (evalO_sound hlk hx).1) (by
          cases r <;> simp only [R.lays, reduceCtorEq] at hl
          · simp only [R.leaves, List.map_cons, List.map_nil, List.cons.injEq, and_true]
            rename_i d
            cases d <;> rfl
          · simp only [R.leaves, List.map_map]
            congr 1
            funext d
            cases d <;> rfl) (by simpa [St.app] using ha)
    · cases he
  case alloc ty =>
    split at he
    · rename_i ti ht
      obtain ⟨hn, he⟩ := bif_some he
      have hn := nt_spec hn
      cases hm : mem (dstOf o) ((look E.cbox f).getD []) with
      | true =>
        rw [hm] at he
        cases he
        exact Goes.plain h hC ha (q_allocConst hE ho hf ht hn)
      | false =>
        rw [hm] at he
        cases he
        obtain ⟨info, hinfo, _, _, z, hz, _, hzero, hst⟩ := (hE.ti _ _ ht).info hn
        exact Goes.push (vs := z.cells) (ty := ty) h hC (by simp [execOp, ho, Instr.alloc, zeroValue, typeInfo, hinfo, hz, newVar, newRow]) (hzero w γ) hst (by simpa [St.app] using ha)
    · cases he
  case nilCheck x =>
    split at he
    · rename_i c hx
      cases he
      have hd := evalO_one hlk hx
      obtain ⟨b, p, hv, _⟩ : ∃ b p, a.eval x = .pointer (some ⟨b, p, none⟩) ∧ rdC w γ c b p := by simpa only [rdD] using hd
      exact Goes.plain h hC ha (q_nilCheck ho hf rfl hv (hv ▸ hd))
    · rename_i i off hx
      cases he
      have hd := evalO_one hlk hx
      obtain ⟨b, _, hv⟩ : ∃ b, γ.bx[i]? = some b ∧ a.eval x = .pointer (some ⟨b, off, none⟩) := by simpa only [rdD] using hd
      exact Goes.plain h hC ha (q_nilCheck ho hf rfl hv (hv ▸ hd))
    · cases he
  case fieldAddr s x i =>
    split at he
    · rename_i hx hs
      split at he
      · rename_i hi
        cases he
        exact Goes.plain h hC ha (q_fieldCell hE ho hf hs hi (evalO_one hlk hx))
      · cases he
    · rename_i hx hs
      split at he
      · rename_i hi
        cases he
        exact Goes.plain h hC ha (q_fieldRef hE ho hf hs hi (evalO_one hlk hx))
      · cases he
    · cases he
  case indexAddr t x i =>
    split at he
    · rename_i d k j hx hi
      have hi := evalO_int hlk hi
      have hx := evalO_one hlk hx
      split at he
      · split at he
        · rename_i ht
          split at he
          · rename_i te hte
            obtain ⟨m, _, hm, hj, he⟩ := atIdx_some he
            cases he
            subst hj
            exact Goes.plain h hC ha (q_indexCell hE ho hf ht hte hx hi (by omega))
          · cases he
        · cases he
      · split at he
        · rename_i ht
          split at he
          · rename_i te hte
            obtain ⟨m, _, hm, hj, he⟩ := atIdx_some he
            cases he
            subst hj
            exact Goes.plain h hC ha (q_indexRef hE ho hf ht hte hx hi (by omega))
          · cases he
        · cases he
      · split at he
        · rename_i e xs has
          obtain ⟨h1, he⟩ := bif_some he
          obtain ⟨h2, he⟩ := bif_some he
          obtain ⟨h3, he⟩ := bif_some he
          cases he
          exact Goes.plain h hC ha (q_indexSl hE ho hf h1 hx has hi (by simpa using h2) (by simpa using h3))
        · cases he
    · cases he
  case index t x i =>
    split at he
    · rename_i hx hi ht
      split at he
      · rename_i te hte
        obtain ⟨m, _, hm, hj, he⟩ := atIdx_some he
        split at he
        · rename_i ds hds
          split at he
          · rename_i r hr
            cases he
            have h1 := (evalO_sound hlk hx).1
            simp only [rdR] at h1
            obtain ⟨vs, hv, h1⟩ := h1
            have hi := evalO_int hlk hi
            rw [hj] at hi
            exact Goes.plain h hC ha (q_index hE ho hf ht hte hv h1 hi (by omega) hds hr)
          · cases he
        · cases he
      · cases he
    · cases he
  case load t x =>
    split at he
    · rename_i c ti hx ht
      obtain ⟨hn, he⟩ := bif_some he
      split at he
      · rename_i ds hds
        split at he
        · rename_i r hr
          cases he
          exact Goes.plain h hC ha (q_loadCell hE ho hf ht (nt_spec hn) (evalO_one hlk hx) hds hr)
        · cases he
      · cases he
    · rename_i b off ti hx ht
      obtain ⟨hn, he⟩ := bif_some he
      simp only [Bool.and_eq_true] at hn
      obtain ⟨hn, hpos⟩ := hn
      split at he
      · rename_i c hc
        split at he
        · rename_i ds hds
          split at he
          · rename_i r hr
            cases he
            exact Goes.plainRd h hC ha (q_loadRef hE ho hf hC ht (nt_spec hn) h.heap (evalO_one hlk hx) hc hds hr (nblt.1 hpos))
          · cases he
        · cases he
      · cases he
    · cases he
  case store t x v =>
    split at he
    · rename_i b off r ti hx hv ht
      split at he
      · rename_i c hc
        obtain ⟨hb, he⟩ := bif_some he
        simp only [Bool.and_eq_true] at hb
        obtain ⟨⟨⟨h1, h2⟩, h3⟩, h4⟩ := hb
        have h2 := nbeq.1 h2
        have h3 := nblt.1 h3
        split at he
        · rename_i c' hput
          cases he
          exact Goes.store hE h ho ht (nt_spec h4) hx hv h1 h2 hc hput (by simpa [St.app] using ha) (fun e => by rw [e] at h2; simp at h2; omega)
        · cases he
      · cases he
    · cases he
  case build t parts =>
    split at he
    · rename_i ti ps ht hps
      split at he
      · rename_i fs hd
        split at he
        · rename_i ds hds
          cases he
          exact Goes.plain h hC ha (q_build hE ho hf hlk ht (by rw [hd]; exact fun ts e => by cases e) hps hds (.inl ⟨fs, hd, rfl⟩))
        · cases he
      · rename_i n e hd
        split at he
        · rename_i te hte
          split at he
          · rename_i ds hds
            cases he
            exact Goes.plain h hC ha (q_build hE ho hf hlk ht (by rw [hd]; exact fun ts e => by cases e) hps hds (.inr ⟨n, e, te, hd, hte, rfl⟩))
          · cases he
        · cases he
      · cases he
    · cases he
  case buildSlice t n parts =>
    split at he
    · split at he
      · rename_i xs hxs
        obtain ⟨hb, he⟩ := bif_some he
        simp only [Bool.and_eq_true] at hb
        obtain ⟨⟨⟨h1, h2⟩, h3⟩, h4⟩ := hb
        cases he
        exact Goes.plain h hC ha (q_buildSlice hE ho hf h.base h.heap hlk h3 h4 hxs (nbeq.1 h1) (Nat.le_of_ble_eq_true h2))
      · cases he
    · cases he
  case makeFunc fn first caps =>
    split at he
    · rename_i g hfirst
      split at he
      · rename_i ds hds
        cases he
        exact Goes.plain h hC ha (q_makeFunc ho hfirst hf hlk hds)
      · cases he
    · cases he
  case extract x i =>
    split at he
    · rename_i rs hx
      split at he
      · rename_i r hr
        cases he
        exact Goes.plain h hC ha (q_extract ho hf hlk hC hx hr)
      · cases he
    · cases he
  case slice t x lo hi mx =>
    split at he
    · rename_i bi hx
      split at he
      · rename_i n et _ _ _ _ c ht hc
        split at he
        · rename_i sz _ ts _ hte
          split at he
          · rename_i xs l u hch h1 h2
            obtain ⟨q, he⟩ := bif_some he
            obtain ⟨q1, he⟩ := bif_some he
            obtain ⟨q2, he⟩ := bif_some he
            obtain ⟨q3, he⟩ := bif_some he
            cases he
            simp only [Bool.and_eq_true] at q
            exact Goes.sliceArr hE h hC ho ht rfl hte (nbeq.1 q.1) hx hc hch (nblt.1 q.2) h1 h2 (by simpa using q1) (by simpa using q2) (by simpa using q3) (by simpa [St.app] using ha)
          · cases he
        · cases he
      · cases he
    · rename_i d hx
      split at he
      · rename_i e xs has
        obtain ⟨hs, he⟩ := bif_some he
        split at he
        · split at he
          · rename_i l u h1 h2
            obtain ⟨q1, he⟩ := bif_some he
            obtain ⟨q2, he⟩ := bif_some he
            obtain ⟨q3, he⟩ := bif_some he
            cases he
            exact Goes.plain h hC ha (q_slice hE ho hf hlk hs (evalO_one hlk hx) has h1 h2 (by simpa using q1) (by simpa using q2) (by simpa using q3))
          · cases he
        · split at he
          · rename_i m km mi l u hm h1 h2
            obtain ⟨q, he⟩ := bif_some he
            cases he
            simp only [Bool.and_eq_true, beq_iff_eq] at q
            obtain ⟨⟨⟨rfl, rfl⟩, rfl⟩, q4⟩ := q
            exact Goes.plain h hC ha (q_sliceNone hE ho hf hlk hs (evalO_one hlk hx) has h1 h2 (evalO_int hlk hm) q4)
          · cases he
      · cases he
    · cases he
  case call c =>
    split at he
    · rename_i g hc
      split at he
      · rename_i g' caps args hx hargs
        obtain ⟨r, hr, he⟩ := Option.bind_eq_some_iff.1 he
        obtain ⟨r', hk, hty⟩ := typed_sound (dead := st.dead) (C := C) he
        cases hk
        exact Goes.plain h hC ha (q_call hE hcp ho hc hf h.base (fun b hb => by obtain ⟨i, hi⟩ := List.mem_iff_getElem?.1 hb; exact h.heap.lt i b hi) hlk hx hargs hr hty)
      · cases he
    · rename_i b hc
      split at he
      · rename_i d hargs
        split at he
        · rename_i e xs has
          obtain ⟨hb, he⟩ := bif_some he
          cases he
          simp only [Bool.and_eq_true] at hb
          obtain ⟨x, hax⟩ : ∃ x, c.args.toList = [x] := by
            have := (mapO_some hargs).1
            cases hl : c.args.toList with
            | nil => rw [hl] at this; simp at this
            | cons x l => cases l with
              | nil => exact ⟨x, rfl⟩
              | cons _ _ => rw [hl] at this; simp at this
          have hxd : rdD w γ d (a.eval x) := by
            rw [hax] at hargs
            simp only [mapO] at hargs
            split at hargs
            · rename_i y hy
              cases hargs
              exact evalO_one hlk hy
            · cases hargs
          exact Goes.plain h hC ha (q_len hE ho hc hax hf hxd has hb.1 (nbeq.1 hb.2))
        · cases he
      · rename_i kk x l hargs
        split at he
        · rename_i y hm
          cases he
          exact Goes.plain h hC ha (q_minmax (mx := false) ho rfl hc hf hlk hargs hm)
        · cases he
      · rename_i kk x l hargs
        split at he
        · rename_i y hm
          cases he
          exact Goes.plain h hC ha (q_minmax (mx := true) ho rfl hc hf hlk hargs hm)
        · cases he
      · rename_i e xs k d hargs
        split at he
        · rename_i e' ys has
          obtain ⟨hb, he⟩ := bif_some he
          simp only [Bool.and_eq_true] at hb
          obtain ⟨⟨hb1, hb2⟩, hb3⟩ := hb
          split at he
          · rename_i hbe
            obtain rfl := Ts.eq_of_beq hbe
            obtain ⟨hm, he⟩ := bif_some he
            cases he
            obtain ⟨x, y, hax⟩ : ∃ x y, c.args.toList = [x, y] := by
              have := (mapO_some hargs).1
              cases hl : c.args.toList with
              | nil => rw [hl] at this; simp at this
              | cons x l => cases l with
                | nil => rw [hl] at this; simp at this
                | cons y l => cases l with
                  | nil => exact ⟨x, y, rfl⟩
                  | cons _ _ => rw [hl] at this; simp at this
            have hxy : evalO E 0 (look st.regs) x = some (.one (.ow e' xs k)) ∧ evalO E 0 (look st.regs) y = some (.one d) := by
              rw [hax] at hargs
              simp only [mapO] at hargs
              split at hargs
              · rename_i r1 hr1
                split at hargs
                · rename_i l hl
                  split at hl
                  · rename_i r2 hr2
                    cases hl
                    cases hargs
                    exact ⟨hr1, hr2⟩
                  · cases hl
                · cases hargs
              · cases hargs
            have hat : c.argTypes = #[c.argTypes.getD 0 0, c.argTypes.getD 0 0] := by
              have e1 := nbeq.1 hb2
              have e2 := nbeq.1 hb3
              apply Array.ext
              · simp [e2]
              · intro i h1 h2
                have : i = 0 ∨ i = 1 := by omega
                rcases this with rfl | rfl
                · simp [Array.getD, h1]
                · have e3 : c.argTypes.getD 1 0 = c.argTypes[1] := by simp [Array.getD, h1]
                  simp only [List.getElem_toArray, List.getElem_cons_succ, List.getElem_cons_zero]
                  rw [e1, e3]
            simp only [St.app] at ha
            have hk : tokIn k st.dead = false := by
              cases hk : tokIn k st.dead with
              | false => rfl
              | true => rw [hk] at ha; cases ha
            rw [hk] at ha
            exact Goes.append hE h hC ho hc hax hat hb1 hxy.1 hxy.2 has (by simpa using hm) hk ha
          · cases he
        · cases he
      · cases he
    · cases he
end
end Go.V
