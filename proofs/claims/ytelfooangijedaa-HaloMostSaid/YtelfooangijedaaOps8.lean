/- An append: in place where there is room of its own, else in a new block. -/
import Derived.Test.YtelfooangijedaaOps7
namespace Go.V
open Go.RowKit

section
variable {E : Env} {P : Program} {γ : Gh} {dead : List Tok} {C : List Nat} {a : Act} {w : World} {dst : Nat} {st st' : St}

def flat (e : Ts) (xs : List e.den) : List D := xs.flatMap e.leaves
theorem flat_length (e : Ts) (xs : List e.den) : (flat e xs).length = xs.length * e.size := by
  induction xs with
  | nil => simp [flat]
  | cons x xs ih =>
    simp only [flat, List.flatMap_cons, List.length_append, leaves_length] at ih ⊢
    rw [ih, List.length_cons, Nat.add_mul]
    omega
theorem rdC_append : ∀ {c d : List D} {b o : Nat}, rdC w γ c b o → rdC w γ d b (o + c.length) → rdC w γ (c ++ d) b o
  | [], d, b, o, _, h => by simpa using h
  | x :: c, d, b, o, h1, h2 => by
    simp only [rdC] at h1
    simp only [List.cons_append, rdC]
    refine ⟨h1.1, rdC_append h1.2 ?_⟩
    have e : o + 1 + c.length = o + (x :: c).length := by simp; omega
    rw [e]; exact h2
theorem rows_rdC (e : Ts) : ∀ {xs : List e.den} {b o : Nat}, (∀ i (h : i < xs.length), rdTs w γ e xs[i] b (o + i * e.size)) → rdC w γ (flat e xs) b o
  | [], b, o, _ => by simp [flat, rdC]
  | x :: xs, b, o, h => by
    have h0 := h 0 (by simp)
    simp only [flat, List.flatMap_cons]
    refine rdC_append (by simpa using leaves_rdC h0) ?_
    rw [leaves_length]
    refine rows_rdC e fun i hi => ?_
    have := h (i + 1) (by simpa using hi)
    simp only [List.getElem_cons_succ] at this
    rwa [show o + e.size + i * e.size = o + (i + 1) * e.size by rw [Nat.add_mul]; omega]
theorem rdC_take' : ∀ {c d : List D} {b o : Nat}, rdC w γ (c ++ d) b o → rdC w γ c b o ∧ rdC w γ d b (o + c.length)
  | [], d, b, o, h => ⟨by simp [rdC], by simpa using h⟩
  | x :: c, d, b, o, h => by
    simp only [List.cons_append, rdC] at h
    obtain ⟨h1, h2⟩ := rdC_take' h.2
    refine ⟨by simp only [rdC]; exact ⟨h.1, h1⟩, ?_⟩
    have e : o + 1 + c.length = o + (x :: c).length := by simp; omega
    rw [← e]; exact h2
theorem rdC_rows (e : Ts) : ∀ {xs : List e.den} {b o : Nat}, rdC w γ (flat e xs) b o → ∀ i (h : i < xs.length), rdTs w γ e xs[i] b (o + i * e.size)
  | [], b, o, _, i, h => by simp at h
  | x :: xs, b, o, h, i, hi => by
    simp only [flat, List.flatMap_cons] at h
    obtain ⟨h1, h2⟩ := rdC_take' h
    rw [leaves_length] at h2
    cases i with
    | zero => simpa using rdTs_of_rdC h1
    | succ i =>
      have := rdC_rows e (xs := xs) h2 i (by simpa using hi)
      simp only [List.getElem_cons_succ]
      rwa [show o + (i + 1) * e.size = o + e.size + i * e.size by rw [Nat.add_mul]; omega]
theorem rdC_of_cells : ∀ {ds : List D} {b o : Nat}, (∀ (j : Nat) d, ds[j]? = some d → ∃ v, w.cell? ⟨b, o + j, none⟩ = some v ∧ γ.may b (o + j) ∧ rdD w γ d v) → rdC w γ ds b o
  | [], _, _, _ => by simp [rdC]
  | d :: ds, b, o, h => by
    simp only [rdC]
    refine ⟨by simpa using h 0 d rfl, rdC_of_cells fun j x hx => ?_⟩
    have := h (j + 1) x (by simpa using hx)
    rwa [show o + (j + 1) = o + 1 + j by omega] at this
/-- the cells of a slice, told in a row -/
theorem sl_cells {e : Ts} {ys : List e.den} {A : Option Addr} {m c : Nat} (h : rdT w γ (.sl e) ys (.slice A m c)) : m = ys.length ∧ m ≤ c ∧ ∃ news : List Value, news.length = m * e.size ∧ rdL w γ (flat e ys) news ∧
    (0 < m → ∃ b o, A = some ⟨b, o, none⟩ ∧ rdC w γ (flat e ys) b o ∧ ∀ (j : Nat) v, news[j]? = some v → w.cell? ⟨b, o + j, none⟩ = some v ∧ γ.may b (o + j)) := by
  simp only [rdT] at h
  obtain ⟨A', c', he, hle, hr⟩ := h
  cases he
  refine ⟨rfl, hle, ?_⟩
  by_cases hm : ys.length = 0
  · have : ys = [] := List.eq_nil_of_length_eq_zero hm
    subst this
    exact ⟨[], by simp, by simp [flat, rdL], fun h0 => by simp at h0⟩
  · obtain ⟨b, o, hA, _⟩ := hr 0 (by omega)
    have hc : rdC w γ (flat e ys) b o := rows_rdC e fun i hi => by
      obtain ⟨b', o', hA', h'⟩ := hr i hi
      rw [hA] at hA'
      cases hA'
      exact h'
    obtain ⟨news, h1, h2, h3⟩ := rdC_list hc
    exact ⟨news, by rw [h1, flat_length], h2, fun _ => ⟨b, o, hA, hc, h3⟩⟩

theorem run_append_room' (t ty e bty : TypeId) (i : TypeInfo) (ht : P.underlying t = some (.slice e)) (hi : P.info? e = some i) (g sLen sCap : Nat) (cur : Array Value) (hg : w.heap[g]? = some (.cells cur bty (0, 0)))
    (A : Option Addr) (m c : Nat) (news : List Value) (hl : news.length = m * i.size) (hA : 0 < m → ∃ b o, A = some ⟨b, o, none⟩ ∧ ∀ (j : Nat) v, news[j]? = some v → w.cell? ⟨b, o + j, none⟩ = some v) (h1 : ∀ u ∈ news, u.oneCell' = true)
    (hroom : sLen + m ≤ sCap) (hfit : sLen * i.size + news.length ≤ cur.size) :
    (Builtin.append_ #[t, t] ty #[.slice (some ⟨g, 0, none⟩) sLen sCap, .slice A m c]).run P w =
      .ok (.slice (some ⟨g, 0, none⟩) (sLen + m) sCap) (w.setRow g (cur.toList.take (sLen * i.size) ++ news ++ cur.toList.drop (sLen * i.size + news.length)).toArray) := by
  have hst := run_storeCells_at P g (sLen * i.size) bty news 0 cur w hg (by simpa using hfit) h1
  simp only [Nat.add_zero] at hst
  have hf : (Builtin.firstCells i.size m (.slice A m c)).run P w = .ok news.toArray w := by
    by_cases hm : 0 < m
    · obtain ⟨b, o, rfl, hc⟩ := hA hm
      exact run_firstCells_some (P := P) w i.size m ⟨b, o, none⟩ m c news hl (fun j v hj => by rw [add_none]; exact hc j v hj)
    · have hm0 : m = 0 := by omega
      subst hm0
      have : news = [] := List.eq_nil_of_length_eq_zero (by simpa using hl)
      subst this
      cases A with
      | none => exact run_firstCells_none w _ _ _ _
      | some ad => exact run_firstCells_some (P := P) w i.size 0 ad 0 c [] (by simp) (by simp)
  simp [Builtin.append_, run_underlying ht, sizeOf, typeInfo, hi, Builtin.lenOf, hroom, hf, Addr.add_lit, hst]
theorem run_append_zero (t ty e : TypeId) (i : TypeInfo) (ht : P.underlying t = some (.slice e)) (hi : P.info? e = some i) (A A' : Option Addr) (c : Nat) :
    (Builtin.append_ #[t, t] ty #[.slice A 0 0, .slice A' 0 c]).run P w = .ok (.slice A 0 0) w := by
  have hf : (Builtin.firstCells i.size 0 (.slice A' 0 c)).run P w = .ok #[] w := by
    cases A' with
    | none => exact run_firstCells_none w _ _ _ _
    | some ad => exact run_firstCells_some (P := P) w i.size 0 ad 0 c [] (by simp) (by simp)
  cases A <;> simp [Builtin.append_, run_underlying ht, sizeOf, typeInfo, hi, Builtin.lenOf, hf, storeCells]

/-! ### The names behind an append -/
def Gh.app (γ : Gh) (dst : Nat) (k : Tok) (h : Hdr) (ob : Option Nat) : Gh :=
  { γ with ow := fun x => if x = .s dst then some h else if x = k then none else γ.ow x, rd := fun i => if ob = some i then some (h.n * h.sz) else γ.rd i }
theorem tok_beq {a b : Tok} : Tok.beq a b = true ↔ a = b := by
  cases a <;> cases b <;> simp [Tok.beq]
theorem tokIn_cons {k x : Tok} {l : List Tok} : tokIn k (x :: l) = true ↔ k = x ∨ tokIn k l = true := by
  simp [tokIn, tok_beq]
theorem Sim.append {k : Tok} {h : Hdr} {ob : Option Nat} {w' : World} (hs : Sim γ st C a w) (hC : dst ∉ C)
    (hsees : Sees γ w (γ.app dst k h ob) w') (hlow : Below γ.base w w') (hfresh : ∀ b, w'.heap.size ≤ b → (γ.app dst k h ob).rd b = none)
    (hbox : ∀ b, b ∈ γ.bx → w'.heap[b]? = w.heap[b]? ∧ ob ≠ some b)
    (hoth : ∀ k' h' b, k' ≠ k → γ.ow k' = some h' → h'.c ≠ 0 → h'.A = some ⟨b, 0, none⟩ → w'.heap[b]? = w.heap[b]? ∧ ob ≠ some b ∧ (h.c ≠ 0 → ∀ b2 : Nat, h.A = some ⟨b2, 0, none⟩ → b ≠ b2))
    (how : Owned (γ.app dst k h ob) w' h) : Sim (γ.app dst k h ob) { st with dead := k :: st.dead } C a w' := by
  have hd : ∀ x, tokIn x st.dead = true → tokIn x (k :: st.dead) = true := fun x hx => tokIn_cons.2 (.inr hx)
  have ho : ∀ x, (∀ t, x = .s t → t ∈ C) → tokIn x st.dead = false → tokIn x (k :: st.dead) = true ∨ (γ.app dst k h ob).ow x = γ.ow x := by
    intro x hx _
    by_cases hk : x = k
    · exact .inl (tokIn_cons.2 (.inl hk))
    · have : x ≠ .s dst := fun e => hC (hx _ e)
      exact .inr (by simp [Gh.app, this, hk])
  refine ⟨hs.dfr, hs.sz, fun s r hr => ?_, ⟨hs.heap.len, fun i ds b hi hb => ?_, hs.heap.nodup⟩, ⟨fun x hx' hx => ?_, fun x y hx' hy' hx hy hne => ?_⟩, hfresh, Nat.le_trans hs.base hlow.size⟩
  · obtain ⟨h1, h2⟩ := hs.regs s r hr
    exact ⟨rdR_mono hsees (fun _ _ x => x) r _ h1, tkR_mono (fun _ x => x) hd ho r _ h2⟩
  · rcases hs.heap.box i ds b hi hb with ⟨⟨arr, ty, e1, e2, e3⟩, e4, e5⟩ | ⟨g1, g2, g3⟩
    case inr => exact .inr ⟨g1, g2, Nat.lt_of_lt_of_le g3 hlow.size⟩
    obtain ⟨q1, q2⟩ := hbox b (List.mem_of_getElem? hb)
    refine .inl ⟨⟨arr, ty, q1.trans e1, rdL_mono hsees (fun _ _ x => x) _ _ e2, tkL_mono (fun _ x => x) hd ho e3⟩, ?_, e5⟩
    simp only [Gh.app]
    rw [if_neg q2]
    exact e4
  · simp only [Gh.app] at hx
    split at hx
    · cases hx; exact how
    · split at hx
      · cases hx
      · rename_i hne1 hne2
        refine (hs.own.own x hx' hx).keep rfl rfl fun b hc hA _ => ?_
        obtain ⟨q1, q2, _⟩ := hoth x hx' b hne2 hx hc hA
        exact ⟨q1, by simp only [Gh.app]; rw [if_neg q2]⟩
  · intro hc hc' b b' hA hA'
    simp only [Gh.app] at hx hy
    split at hx
    · cases hx
      split at hy
      · rename_i e1 e2; exact absurd (e1.trans e2.symm) hne
      · split at hy
        · cases hy
        · rename_i hne2
          exact fun e => (hoth y hy' b' hne2 hy hc' hA').2.2 hc b hA e.symm
    · split at hx
      · cases hx
      · rename_i hnx
        split at hy
        · cases hy
          exact (hoth x hx' b hnx hx hc hA).2.2 hc' b' hA'
        · split at hy
          · cases hy
          · exact hs.own.inj x y hx' hy' hx hy hne hc hc' b b' hA hA'

theorem Goes.append {o : Oper} {c : Call} {x y : Operand} {t : Nat} {e : Ts} {xs ys : List e.den} {k : Tok} {d : D} {ty ty' : Nat} (hE : EnvOK E) (h : Sim γ st C a w) (hC : dstOf o ∉ C) (hop : o.op = .call c) (hc : c.callee = .builtin .append)
    (ha : c.args.toList = [x, y]) (hat : c.argTypes = #[t, t]) (hsl : slOK E t e = true) (hx : evalO E ty (look st.regs) x = some (.one (.ow e xs k))) (hy : evalO E ty' (look st.regs) y = some (.one d)) (has : asSl d = some ⟨e, ys⟩)
    (hm : xs.length + ys.length ≤ maxL) (hk : tokIn k st.dead = false) (hp : St.put { st with dead := k :: st.dead } o.dst (.one (.ow e (xs ++ ys) (.s (dstOf o)))) = some st') : Goes E.P o γ st' C a w := by
  have hlk : LkOK (look st.regs) γ st.dead C a w := h.regs
  obtain ⟨hx1, hx2⟩ := evalO_sound hlk hx
  simp only [rdR, rdD] at hx1
  simp only [tkR, tkD] at hx2
  obtain ⟨hx3, hx4⟩ := hx2
  rw [hk] at hx3
  simp only [Bool.false_eq_true, false_or] at hx3
  obtain ⟨hd, hd1, hd2, hd3⟩ := hx3
  rw [hd2] at hx1
  obtain ⟨hn, _, olds, ho1, ho2, ho3⟩ := sl_cells hx1
  have hyv := asSl_sound has (evalO_one hlk hy)
  obtain ⟨A', c', hyA⟩ : ∃ A' c', a.eval y = .slice A' ys.length c' := by
    simp only [rdT] at hyv
    obtain ⟨A', c', h1, _⟩ := hyv
    exact ⟨A', c', h1⟩
  rw [hyA] at hyv
  obtain ⟨_, _, news, hn1, hn2, hn3⟩ := sl_cells hyv
  obtain ⟨et, info, hu, hinfo, hisz, hby, z, hz, hzs⟩ := slOK_spec hE hsl
  have hargs : c.args = #[x, y] := by apply Array.ext'; simpa using ha
  obtain ⟨hown1, hown2⟩ := h.own.own k hd hd1
  have hkd : k ≠ .s (dstOf o) := fun e => hC (hx4 _ e)
  have hpos := Ts.size_pos e
  have hall : rdL w γ (flat e (xs ++ ys)) (olds ++ news) := by
    have : flat e (xs ++ ys) = flat e xs ++ flat e ys := by simp [flat]
    rw [this]
    have app : ∀ {d1 d2 : List D} {v1 v2 : List Value}, rdL w γ d1 v1 → rdL w γ d2 v2 → rdL w γ (d1 ++ d2) (v1 ++ v2) := by
      intro d1
      induction d1 with
      | nil => intro d2 v1 v2 h1 h2; cases v1 with
        | nil => simpa using h2
        | cons _ _ => simp [rdL] at h1
      | cons d d1 ih => intro d2 v1 v2 h1 h2; cases v1 with
        | nil => simp [rdL] at h1
        | cons v v1 => simp only [rdL] at h1; simp only [List.cons_append, rdL]; exact ⟨h1.1, ih h1.2 h2⟩
    exact app ho2 hn2
  have hone : ∀ u ∈ news, u.oneCell' = true := fun u hu' => scalar_one (rdL_scalar hn2 u hu')
  have run_of : ∀ v w', (Builtin.append_ #[t, t] o.type #[.slice hd.A hd.n hd.c, .slice A' ys.length c']).run E.P w = .ok v w' → (execOp a.eval o).run E.P w = .ok (.value v) w' := by
    intro v w' hrun
    simp [execOp, hop, resolve, hc, hargs, invoke, builtin, hd2, hyA, hat, hrun]
  have finish : ∀ (h' : Hdr) (ob : Option Nat) (w' : World), (execOp a.eval o).run E.P w = .ok (.value (.slice h'.A h'.n h'.c)) w' → Sees γ w (γ.app (dstOf o) k h' ob) w' → Below γ.base w w' →
      (∀ b, b < γ.base → ob ≠ some b) → Sim (γ.app (dstOf o) k h' ob) { st with dead := k :: st.dead } C a w' → h'.sz = e.size → h'.n = (xs ++ ys).length → h'.n ≤ h'.c →
      (∀ i (hi : i < (xs ++ ys).length), ∃ b p, h'.A = some ⟨b, p, none⟩ ∧ rdTs w' (γ.app (dstOf o) k h' ob) e (xs ++ ys)[i] b (p + i * e.size)) → Goes E.P o γ st' C a w := by
    intro h' ob w' hrun hsees hlow hob hsim hsz hlen hle hrows next Q hnx
    unfold Oper.wp
    rw [hrun]
    simp only [Oper.upon]
    refine hnx (.slice h'.A h'.n h'.c) (γ.app (dstOf o) k h' ob) w' ⟨fun _ _ q => q, rfl, hlow.size, hsees.cells, hlow, fun b hb => by simp only [Gh.app]; rw [if_neg (hob b hb)]⟩ (Sim.put (hsim.more (C' := addC o.dst C) fun t ht => ?_) hp fun t ht => ?_)
    · cases hdd : o.dst with
      | none => exact ht
      | some u => exact List.mem_cons_of_mem _ ht
    · have hdst := dstOf_some ht
      refine ⟨?_, ?_⟩
      · simp only [rdR, rdD, rdT]
        exact ⟨h'.A, h'.c, by rw [hlen], by rw [← hlen]; exact hle, hrows⟩
      · simp only [tkR, tkD]
        refine ⟨.inr ⟨h', by simp [Gh.app], rfl, hsz⟩, fun t' ht' => ?_⟩
        cases ht'
        rw [ht]
        simp [addC, hdst]
  have hoth0 : ∀ k' h' b, k' ≠ k → γ.ow k' = some h' → h'.c ≠ 0 → h'.A = some ⟨b, 0, none⟩ → b < w.heap.size ∧ (∀ b2 : Nat, hd.c ≠ 0 → hd.A = some ⟨b2, 0, none⟩ → b ≠ b2) := by
    intro k' h' b hne hk' hc' hA
    obtain ⟨b2, arr2, ty2, g1, g2, _⟩ := (h.own.own k' h' hk').2 hc'
    have : b2 = b := by rw [g1] at hA; simpa using hA
    subst this
    exact ⟨heap_lt_of g2, fun b3 h3 hA3 => h.own.inj k' k h' hd hk' hd1 hne hc' h3 b2 b3 hA hA3⟩
  have hboxlt : ∀ b, b ∈ γ.bx → b < w.heap.size := by
    intro b hb
    obtain ⟨i, hi, he⟩ := List.mem_iff_getElem.1 hb
    exact h.heap.lt i b (by rw [List.getElem?_eq_getElem hi]; exact congrArg some he)
  by_cases hneed : xs.length + ys.length ≤ hd.c
  · by_cases hc0 : hd.c = 0
    · -- nothing, and no room
      have hx0 : xs = [] := List.eq_nil_of_length_eq_zero (by omega)
      have hy0 : ys = [] := List.eq_nil_of_length_eq_zero (by omega)
      subst hx0
      subst hy0
      have hn0 : hd.n = 0 := by omega
      have hrun := run_of _ _ (by rw [hc0, hn0]; exact run_append_zero (P := E.P) (w := w) t o.type et info hu hinfo hd.A A' c')
      refine finish ⟨hd.A, 0, 0, e.size⟩ none w hrun ⟨fun b i u q1 q2 => ⟨q2, q1⟩⟩ (Below.refl _ _) (fun _ _ => by simp) ?_ rfl rfl (Nat.le_refl _) (fun i hi => by simp at hi)
      refine Sim.append h hC ⟨fun b i u q1 q2 => ⟨q2, q1⟩⟩ (Below.refl _ _) (fun b hb => h.fresh b hb) (fun b _ => ⟨rfl, by simp⟩) (fun k' h' b hne hk' hc' hA => ⟨rfl, by simp, fun hh => absurd rfl hh⟩) ⟨Nat.le_refl _, fun hh => absurd rfl hh⟩
    · -- in place
      obtain ⟨b, arr, bty, g1, g2, g3, g4, g5, g6⟩ := hown2 hc0
      have hbl := heap_lt_of g2
      have hfit : hd.n * info.size + news.length ≤ arr.size := by
        rw [g3, hn1, hisz, hd3, ← Nat.add_mul]
        exact Nat.mul_le_mul_right _ (by omega)
      have hr1 := run_append_room' (P := E.P) (w := w) t o.type et bty info hu hinfo b hd.n hd.c arr g2 A' ys.length c' news (by rw [hn1, hisz]) (fun hp => by
        obtain ⟨b', o', q1, _, q3⟩ := hn3 hp
        exact ⟨b', o', q1, fun j v hj => (q3 j v hj).1⟩) hone (by omega) hfit
      generalize hnew : (arr.toList.take (hd.n * info.size) ++ news ++ arr.toList.drop (hd.n * info.size + news.length)) = newl at hr1
      have hget : ∀ p : Nat, newl[p]? = if hd.n * info.size ≤ p ∧ p < hd.n * info.size + news.length then news[p - hd.n * info.size]? else arr.toList[p]? := fun p => by
        rw [← hnew]; exact put_get (by simpa using hfit) p
      have hrun := run_of _ _ (by rw [g1]; exact hr1)
      have hcell : ∀ j : Nat, (w.setRow b newl.toArray).cell? ⟨b, j, none⟩ = newl[j]? := fun j => by
        rw [cell_setRow_same w b j arr newl.toArray bty _ g2]; simp
      have hsz' : hd.n * info.size = xs.length * e.size := by rw [hisz, hn]
      have hsees : Sees γ w (γ.app (dstOf o) k ⟨some ⟨b, 0, none⟩, hd.n + ys.length, hd.c, e.size⟩ (some b)) (w.setRow b newl.toArray) := ⟨fun b' i u q1 q2 => by
        by_cases hbb : b' = b
        · subst hbb
          simp only [Gh.may, g4] at q1
          rw [hd3] at q1
          have hi : ¬ (hd.n * info.size ≤ i ∧ i < hd.n * info.size + news.length) := by rw [hisz]; omega
          refine ⟨?_, ?_⟩
          · rw [hcell, hget i, if_neg hi]
            simp only [World.cell?, g2] at q2
            simpa using q2
          · simp only [Gh.may, Gh.app, if_true, Nat.add_mul]
            omega
        · refine ⟨(cell_block (setRow_other w b b' _ hbb)).trans q2, ?_⟩
          have : ¬ (some b = some b') := fun e => hbb (by cases e; rfl)
          simp only [Gh.may, Gh.app, if_neg this]
          exact q1⟩
      have hlow : Below γ.base w (w.setRow b newl.toArray) := ⟨rfl, rfl, rfl, by simp, fun k hk => setRow_other w b k _ (by omega)⟩
      refine finish ⟨some ⟨b, 0, none⟩, hd.n + ys.length, hd.c, e.size⟩ (some b) _ (by simpa using hrun) hsees hlow (fun b' hb' => by simp; omega) ?_ rfl (by simp [hn]) (by show hd.n + ys.length ≤ hd.c; omega) ?_
      · refine Sim.append h hC hsees hlow (fun b' hb' => ?_) (fun b' hb' => ?_) (fun k' h' b' hne hk' hc' hA => ?_) ⟨by show hd.n + ys.length ≤ hd.c; omega, fun _ => ⟨b, newl.toArray, bty, rfl, setRow_heap w b arr _ bty _ g2, ?_, by simp [Gh.app], g5, g6⟩⟩
        · simp at hb'
          simp only [Gh.app]
          rw [if_neg (by simp; omega)]
          exact h.fresh b' hb'
        · have : b' ≠ b := fun e => g6 (e ▸ hb')
          exact ⟨setRow_other w b b' _ this, by simp; exact fun e => this e.symm⟩
        · obtain ⟨_, q⟩ := hoth0 k' h' b' hne hk' hc' hA
          have : b' ≠ b := q b hc0 g1
          exact ⟨setRow_other w b b' _ this, by simp; exact fun e => this e.symm, fun _ b2 hb2 => by cases hb2; exact this⟩
        · have : newl.length = arr.size := by
            rw [← hnew]
            simp
            omega
          simp [this, g3, hd3]
      · have hrc : rdC (w.setRow b newl.toArray) (γ.app (dstOf o) k ⟨some ⟨b, 0, none⟩, hd.n + ys.length, hd.c, e.size⟩ (some b)) (flat e (xs ++ ys)) b 0 := by
          refine rdC_of_cells fun j dj hj => ?_
          have hjl : j < (xs ++ ys).length * e.size := by
            have := (List.getElem?_eq_some_iff.1 hj).1
            rwa [flat_length] at this
          simp only [List.length_append, Nat.add_mul] at hjl
          have hmay : (γ.app (dstOf o) k ⟨some ⟨b, 0, none⟩, hd.n + ys.length, hd.c, e.size⟩ (some b)).may b (0 + j) := by
            simp only [Gh.may, Gh.app, if_true, Nat.add_mul, hn]
            omega
          obtain ⟨v, q1, q2⟩ := rdL_get hall hj
          refine ⟨v, ?_, hmay, rdD_mono hsees (fun _ _ x => x) dj v q2⟩
          rw [Nat.zero_add, hcell, hget j]
          by_cases hjx : j < olds.length
          · have hjx' : j < xs.length * e.size := by rw [← hn, ← ho1]; exact hjx
            rw [if_neg (by rw [hsz']; omega)]
            rw [List.getElem?_append_left hjx] at q1
            have hpos' : 0 < hd.n := by
              rcases Nat.eq_zero_or_pos hd.n with h0 | h0
              · rw [h0] at ho1; simp at ho1; rw [ho1] at hjx; simp at hjx
              · exact h0
            obtain ⟨b3, o3, r1, _, r3⟩ := ho3 hpos'
            rw [g1] at r1
            cases r1
            have := (r3 j v q1).1
            rw [Nat.zero_add] at this
            simp only [World.cell?, g2] at this
            simpa using this
          · rw [List.getElem?_append_right (by omega)] at q1
            rw [if_pos (by rw [hsz', hn1]; rw [ho1, hn] at hjx; omega)]
            rw [show j - hd.n * info.size = j - olds.length by rw [ho1, hisz]]
            exact q1
        exact fun i hi => ⟨b, 0, rfl, rdC_rows e hrc i hi⟩
  · -- a new block
    have hcap : hd.c < hd.n + ys.length := by omega
    have hyp : 0 < ys.length := by omega
    obtain ⟨b', o', q1, q2, q3⟩ := hn3 hyp
    have hmax : hd.n + ys.length ≤ 2147483648 := by simp only [maxL] at hm; omega
    have hfitb : (hd.n + ys.length) * info.bytes ≤ 140737488355328 := by
      have : (hd.n + ys.length) * info.bytes ≤ 2147483648 * 65536 := Nat.mul_le_mul hmax hby
      omega
    have hnl : news.length = ys.length * info.size := by rw [hn1, hisz]
    have hnews : ∀ (j : Nat) v, news[j]? = some v → w.cell? ((⟨b', o', none⟩ : Addr).add j) = some v := fun j v hj => by rw [add_none]; exact (q3 j v hj).1
    obtain ⟨cap, hcapge, rest, hrest, hrun0⟩ : ∃ cap, hd.n + ys.length ≤ cap ∧ ∃ rest : List Value, rest.length = (cap - (hd.n + ys.length)) * e.size ∧
        (Builtin.append_ #[t, t] o.type #[.slice hd.A hd.n hd.c, .slice A' ys.length c']).run E.P w = .ok (.slice (some ⟨w.heap.size, 0, none⟩) (hd.n + ys.length) cap) (w.drew.alloc (.cells (olds ++ news ++ rest).toArray et)) := by
      rw [q1]
      have hge := grownCap_ge w (hd.n + ys.length) hd.c et
      refine ⟨grownCap w (hd.n + ys.length) hd.c et, hge, (Builtin.zeroCells z.cells (grownCap w (hd.n + ys.length) hd.c et - (hd.n + ys.length))).toList, by simp [size_zeroCells, hzs], ?_⟩
      cases hA : hd.A with
      | none =>
        have hc0 : hd.c = 0 := by
          by_cases hc : hd.c = 0
          · exact hc
          · obtain ⟨b, arr, bty, g1, _⟩ := hown2 hc
            rw [hA] at g1
            cases g1
        have hn0 : hd.n = 0 := by omega
        have ho0 : olds = [] := List.eq_nil_of_length_eq_zero (by rw [ho1, hn0]; simp)
        rw [hc0, hn0, ho0]
        have := run_append_nil (P := E.P) w t o.type et info z hu hinfo hz ⟨b', o', none⟩ ys.length c' news hnl hnews hyp (by omega) (by
          have : ys.length * info.bytes ≤ (hd.n + ys.length) * info.bytes := Nat.mul_le_mul_right _ (by omega)
          omega)
        simp only [Nat.zero_add] at this ⊢
        rw [this]
        congr 2
        congr 1
        apply Array.ext'
        simp
      | some ad =>
        have holds : ∀ (j : Nat) v, olds[j]? = some v → w.cell? (ad.add j) = some v := by
          intro j v hj
          have hpos' : 0 < hd.n := by
            rcases Nat.eq_zero_or_pos hd.n with h0 | h0
            · rw [h0] at ho1; simp at ho1; rw [ho1] at hj; simp at hj
            · exact h0
          obtain ⟨b3, o3, r1, _, r3⟩ := ho3 hpos'
          rw [hA] at r1
          cases r1
          rw [add_none]
          exact (r3 j v hj).1
        have := run_append_grow (P := E.P) w t o.type et info z hu hinfo hz ad hd.n hd.c olds (by rw [ho1, hisz]) holds ⟨b', o', none⟩ ys.length c' news hnl hnews hcap (by omega) (growslice_fits (by omega) hfitb)
        rw [this]
        congr 2
        congr 1
        apply Array.ext'
        simp
    have hrun := run_of _ _ hrun0
    have hsees : Sees γ w (γ.app (dstOf o) k ⟨some ⟨w.heap.size, 0, none⟩, hd.n + ys.length, cap, e.size⟩ (some w.heap.size)) (w.drew.alloc (.cells (olds ++ news ++ rest).toArray et)) := ⟨fun b i u r1 r2 => by
      have hlt := cell_lt r2
      refine ⟨by rw [World.cell?_alloc_lt _ _ _ (by simpa using hlt)]; exact r2, ?_⟩
      have : ¬ (some w.heap.size = some b) := fun e => by cases e; omega
      simp only [Gh.may, Gh.app, if_neg this]
      exact r1⟩
    have hheap : ∀ b, b < w.heap.size → (w.drew.alloc (.cells (olds ++ news ++ rest).toArray et)).heap[b]? = w.heap[b]? := fun b hb => Below.heap_alloc w.drew _ b (by simpa using hb)
    have hlow : Below γ.base w (w.drew.alloc (.cells (olds ++ news ++ rest).toArray et)) := ⟨rfl, rfl, rfl, by simp, fun b hb => hheap b (Nat.lt_of_lt_of_le hb h.base)⟩
    refine finish ⟨some ⟨w.heap.size, 0, none⟩, hd.n + ys.length, cap, e.size⟩ (some w.heap.size) _ hrun hsees hlow (fun b hb => by have := h.base; simp; omega) ?_ rfl (by simp [hn]) hcapge ?_
    · refine Sim.append h hC hsees hlow (fun b hb => ?_) (fun b hb => ?_) (fun k' h' b hne hk' hc' hA => ?_) ⟨hcapge, fun _ => ⟨w.heap.size, _, et, rfl, heap_alloc_new w.drew _, ?_, by simp [Gh.app], h.base, fun hm => by have := hboxlt _ hm; omega⟩⟩
      · simp at hb
        simp only [Gh.app]
        rw [if_neg (by simp; omega)]
        exact h.fresh b (by omega)
      · have := hboxlt b hb
        exact ⟨hheap b this, by simp; omega⟩
      · obtain ⟨hlt, _⟩ := hoth0 k' h' b hne hk' hc' hA
        exact ⟨hheap b hlt, by simp; omega, fun _ b2 hb2 => by cases hb2; omega⟩
      · simp only [List.size_toArray, List.length_append, ho1, hn1, hrest, ← Nat.add_mul]
        congr 1
        omega
    · have hrc : rdC (w.drew.alloc (.cells (olds ++ news ++ rest).toArray et)) (γ.app (dstOf o) k ⟨some ⟨w.heap.size, 0, none⟩, hd.n + ys.length, cap, e.size⟩ (some w.heap.size)) (flat e (xs ++ ys)) w.heap.size 0 := by
        refine rdC_of_cells fun j dj hj => ?_
        have hjl : j < (xs ++ ys).length * e.size := by
          have := (List.getElem?_eq_some_iff.1 hj).1
          rwa [flat_length] at this
        simp only [List.length_append, Nat.add_mul] at hjl
        obtain ⟨v, r1, r2⟩ := rdL_get hall hj
        refine ⟨v, ?_, ?_, rdD_mono hsees (fun _ _ x => x) dj v r2⟩
        · have e1 : (w.drew.alloc (.cells (olds ++ news ++ rest).toArray et)).cell? ⟨w.heap.size, 0 + j, none⟩ = (olds ++ news ++ rest).toArray[0 + j]? := World.cell?_alloc_new w.drew _ _ _
          rw [e1]
          have hlt := (List.getElem?_eq_some_iff.1 r1).1
          simp only [Nat.zero_add, List.getElem?_toArray]
          rw [List.getElem?_append_left hlt]
          exact r1
        · simp only [Gh.may, Gh.app, if_true, Nat.add_mul, hn]
          omega
      exact fun i hi => ⟨w.heap.size, 0, rfl, rdC_rows e hrc i hi⟩
end
end Go.V
