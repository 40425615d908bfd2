/- Operations that may run in any order: neighbours change places. -/
import Derived.Test.YtelfooangijedaaDraw
namespace Go.V
open Go.RowKit
set_option linter.unusedVariables false
section
variable {E : Env} {f : Nat} {cp : CallP} {all : List Oper}

theorem look_doit {dst : Option Nat} {e : Eff} {st : St} {s : Nat} : look (doit dst e st).regs s = if dst = some s then some e.r else look st.regs s := by
  cases dst with
  | none => simp [doit]
  | some t =>
    simp only [doit, look_setR, Option.some.injEq]
    by_cases h : s = t
    · subst h; simp
    · rw [if_neg h, if_neg (Ne.symm h)]
theorem mem_reads {o : Oper} {t : Nat} (h : Operand.tmp t ∈ o.op.operands.toList) : t ∈ readsOf all o := by
  unfold readsOf
  exact List.mem_append_right _ (List.mem_flatMap.2 ⟨_, h, by simp [Operand.slot]⟩)
theorem guardV_local {o : Oper} {lk lk' : Nat → Option R} (hl : ∀ t ∈ readsOf all o, lk' t = lk t) : guardV all o lk' = guardV all o lk := by
  unfold guardV
  cases hg : o.guard with
  | none => rfl
  | some p =>
    obtain ⟨i, v⟩ := p
    simp only
    cases ht : (all[i]?).bind (·.dst) with
    | none => rfl
    | some t =>
      simp only
      rw [hl t (by unfold readsOf; simp [hg, ht])]
theorem evalS_local {o : Oper} {lk lk' : Nat → Option R} {h h' : Heap} {e : Eff} (he : evalS E f cp all o lk h = some e) (hl : ∀ t ∈ readsOf all o, lk' t = lk t) (hr : ∀ b ∈ e.rd, h'[b]? = h[b]?)
    (hp : e.push.isSome = true → h'.length = h.length) : evalS E f cp all o lk' h' = some e := by
  unfold evalS at he ⊢
  rw [guardV_local hl]
  split at he
  · rename_i hg
    rw [effK_lk (lk := lk') (lk' := lk) fun x hx t ht => hl t (mem_reads (ht ▸ hx))]
    exact effK_heap he hr hp
  · exact he
  · cases he

def Step (E : Env) (f : Nat) (cp : CallP) (all : List Oper) (o : Oper) (st st' : St) (fp : Fp) : Prop :=
  ∃ e, evalS E f cp all o (look st.regs) st.heap = some e ∧ fp = e.fp st.heap.length ∧ Can o.dst e st ∧ Eqv (doit o.dst e st) st'
theorem Can.eqv {dst : Option Nat} {e : Eff} {a b : St} (h : Can dst e a) (q : Eqv a b) : Can dst e b := ⟨fun t ht => q.nt ▸ h.slot t ht, fun k hk => q.dead ▸ h.die k hk, h.one⟩
theorem doit_eqv {dst : Option Nat} {e : Eff} {a b : St} (q : Eqv a b) : Eqv (doit dst e a) (doit dst e b) :=
  ⟨fun s => by rw [look_doit, look_doit, q.regs s], by simp [doit, q.heap], by simp [doit, q.dead], by simp [doit, q.nt]⟩
theorem Step.left {o : Oper} {a b st' : St} {fp : Fp} (h : Step E f cp all o a st' fp) (q : Eqv a b) : Step E f cp all o b st' fp := by
  obtain ⟨e, h1, h2, h3, h4⟩ := h
  exact ⟨e, by rw [← q.look, ← q.heap]; exact h1, by rw [← q.heap]; exact h2, h3.eqv q, (doit_eqv q.symm).trans h4⟩

theorem slotApart_spec {a b : Oper} (h : slotApart all a b = true) : (∀ x y, a.dst = some x → b.dst = some y → x ≠ y) ∧ (∀ x, a.dst = some x → x ∉ readsOf all b) ∧ (∀ y, b.dst = some y → y ∉ readsOf all a) := by
  unfold slotApart at h
  cases ha : a.dst <;> cases hb : b.dst <;> simp only [ha, hb, Bool.and_eq_true, Bool.not_eq_true', nbeq_false, mem_no] at h <;> simp_all
theorem apart_spec {a b : Fp} (h : a.apart b = true) : (∀ x ∈ a.wr, x ∉ b.rd) ∧ (∀ x ∈ a.wr, x ∉ b.wr) ∧ (∀ x ∈ b.wr, x ∉ a.rd) ∧ (a.push = false ∨ b.push = false) ∧ (a.die = false ∨ b.die = false) := by
  unfold Fp.apart at h
  simp only [Bool.and_eq_true, Bool.not_eq_true', meets_no, Bool.and_eq_false_iff] at h
  exact ⟨h.1.1.1.1, h.1.1.1.2, h.1.1.2, h.1.2, h.2⟩
theorem fp_len {e : Eff} {n m : Nat} (h : e.push.isSome = true → n = m) : e.fp n = e.fp m := by
  cases hp : e.push with
  | none => cases hw : e.wr <;> simp [Eff.fp, hp, hw]
  | some _ => rw [h (by simp [hp])]
theorem swap {A B : Oper} {st s1 s2 : St} {fa fb : Fp} (hs : slotApart all A B = true) (hf : fa.apart fb = true) (h1 : Step E f cp all A st s1 fa) (h2 : Step E f cp all B s1 s2 fb) :
    ∃ s1', Step E f cp all B st s1' fb ∧ Step E f cp all A s1' s2 fa := by
  obtain ⟨d1, d2, d3⟩ := slotApart_spec hs
  obtain ⟨f1, f2, f3, f4, f5⟩ := apart_spec hf
  obtain ⟨ea, a1, rfl, a3, a4⟩ := h1
  obtain ⟨eb, b1, hfb, b3, b4⟩ := h2
  have hheap : s1.heap = updH ea st.heap := a4.heap.symm
  have hdead : s1.dead = updD ea st.dead := a4.dead.symm
  have hnt : s1.nt = st.nt := a4.nt.symm
  have hlook : ∀ s, look s1.regs s = if A.dst = some s then some ea.r else look st.regs s := fun s => by rw [← a4.regs s, look_doit]
  have hpush : ea.push.isSome = false ∨ eb.push.isSome = false := by rw [hfb] at f4; exact f4
  have hdie : ea.die.isSome = false ∨ eb.die.isSome = false := by rw [hfb] at f5; exact f5
  have hlen : eb.push.isSome = true → s1.heap.length = st.heap.length := fun hp => by
    rw [hheap, updH_len]
    rcases hpush with h | h
    · exact h
    · rw [hp] at h; cases h
  have hfb' : fb = eb.fp st.heap.length := hfb.trans (fp_len hlen)
  rw [hfb'] at f1 f2 f3
  have hb1 : evalS E f cp all B (look st.regs) st.heap = some eb := by
    refine evalS_local b1 (fun t ht => ?_) (fun b hb => ?_) fun hp => (hlen hp).symm
    · rw [hlook, if_neg fun e => d2 t e ht]
    · rw [hheap, updH_get fun hm => f1 b hm hb]
  refine ⟨doit B.dst eb st, ⟨eb, hb1, hfb', ⟨fun t ht => hnt ▸ b3.slot t ht, fun k hk => ?_, b3.one⟩, Eqv.refl _⟩, ea, ?_, ?_, ?_, ?_⟩
  · have := b3.die k hk
    rw [hdead] at this
    rcases hdie with h | h
    · cases hd : ea.die with
      | none => simpa [updD, hd] using this
      | some _ => rw [hd] at h; cases h
    · rw [hk] at h; cases h
  · refine evalS_local a1 (fun t ht => ?_) (fun b hb => ?_) fun hp => ?_
    · rw [look_doit, if_neg fun e => d3 t e ht]
    · exact updH_get fun hm => f3 b hm hb
    · exact updH_len (hpush.resolve_left (by rw [hp]; simp))
  · exact fp_len fun hp => (updH_len (hpush.resolve_left (by rw [hp]; simp))).symm
  · refine ⟨fun t ht => a3.slot t ht, fun k hk => ?_, a3.one⟩
    have h := hdie.resolve_left (by rw [hk]; simp)
    cases hd : eb.die with
    | none => simpa [doit, updD, hd] using a3.die k hk
    | some _ => rw [hd] at h; cases h
  · refine Eqv.trans ⟨fun s => ?_, ?_, ?_, ?_⟩ b4
    · rw [look_doit, look_doit, look_doit, hlook]
      by_cases h1 : A.dst = some s
      · rw [if_pos h1, if_pos h1, if_neg fun h2 => d1 s s h1 h2 rfl]
      · rw [if_neg h1, if_neg h1]
    · show updH ea (updH eb st.heap) = updH eb s1.heap
      rw [hheap]
      exact (updH_comm f2 hpush).symm
    · show updD ea (updD eb st.dead) = updD eb s1.dead
      rw [hdead]
      rcases hdie with h | h
      · cases hd : ea.die with
        | none => simp [updD, hd]
        | some _ => rw [hd] at h; cases h
      · cases hd : eb.die with
        | none => simp [updD, hd]
        | some _ => rw [hd] at h; cases h
    · exact hnt.symm

/-! ### Runs along a list of places -/
def RunL (E : Env) (f : Nat) (cp : CallP) (all : List Oper) : List (Nat × Fp) → St → St → Prop
  | [], st, st' => Eqv st st'
  | (i, fp) :: l, st, st' => ∃ o s, all[i]? = some o ∧ Step E f cp all o st s fp ∧ RunL E f cp all l s st'
theorem RunL.front {i : Nat} {fi : Fp} {o : Oper} {l2 : List (Nat × Fp)} (ho : all[i]? = some o) : ∀ {l1 : List (Nat × Fp)} {st st' : St}, RunL E f cp all (l1 ++ (i, fi) :: l2) st st' →
    (∀ x ∈ l1, ∀ ox, all[x.1]? = some ox → slotApart all ox o = true ∧ x.2.apart fi = true) → ∃ s, Step E f cp all o st s fi ∧ RunL E f cp all (l1 ++ l2) s st'
  | [], st, st', h, _ => by
    obtain ⟨o', s, h1, h2, h3⟩ := h
    rw [ho] at h1
    cases h1
    exact ⟨s, h2, h3⟩
  | (x, fx) :: l1, st, st', h, hx => by
    obtain ⟨ox, sx, h1, h2, h3⟩ := h
    obtain ⟨s, h4, h5⟩ := RunL.front ho h3 fun y hy => hx y (List.mem_cons_of_mem _ hy)
    obtain ⟨k1, k2⟩ := hx (x, fx) (by simp) ox h1
    obtain ⟨s', h6, h7⟩ := swap k1 k2 h2 h4
    exact ⟨s', h6, ox, s, h1, h7, h5⟩

def ixs : Nat → List Fp → List (Nat × Fp)
  | _, [] => []
  | i, x :: l => (i, x) :: ixs (i + 1) l
theorem mem_ixs : ∀ {l : List Fp} {i j : Nat} {x : Fp}, (j, x) ∈ ixs i l → i ≤ j ∧ l[j - i]? = some x
  | [], i, j, x, h => by simp [ixs] at h
  | y :: l, i, j, x, h => by
    simp only [ixs, List.mem_cons, Prod.mk.injEq] at h
    rcases h with ⟨rfl, rfl⟩ | h
    · simp
    · obtain ⟨h1, h2⟩ := mem_ixs h
      refine ⟨by omega, ?_⟩
      rw [show j - i = (j - (i + 1)) + 1 by omega]
      simpa using h2
theorem ixs_mem : ∀ {l : List Fp} {i j : Nat} {x : Fp}, l[j]? = some x → (i + j, x) ∈ ixs i l
  | [], i, j, x, h => by simp at h
  | y :: l, i, 0, x, h => by simp at h; simp [ixs, h]
  | y :: l, i, j + 1, x, h => by
    simp only [ixs, List.mem_cons]
    right
    have := ixs_mem (i := i + 1) (l := l) (j := j) (by simpa using h)
    rwa [show i + (j + 1) = i + 1 + j by omega]
theorem ixs_sorted : ∀ {l : List Fp} {i : Nat}, (ixs i l).Pairwise fun x y => x.1 < y.1
  | [], _ => List.Pairwise.nil
  | y :: l, i => List.Pairwise.cons (fun x hx => by have := (mem_ixs (x := x.2) (j := x.1) hx).1; simp only; omega) ixs_sorted
theorem ixs_length : ∀ {l : List Fp} {i : Nat}, (ixs i l).length = l.length
  | [], _ => rfl
  | y :: l, i => by simp [ixs, ixs_length (l := l)]

theorem opsK_run {α : Type} {k : St → List Fp → Option α} {res : α} : ∀ {os : List Oper} {j : Nat} {st : St} {fs : List Fp}, (∀ m, os[m]? = all[j + m]?) → opsK E f cp all os st fs k = some res →
    ∃ fl st', fl.length = os.length ∧ RunL E f cp all (ixs j fl) st st' ∧ k st' (fl.reverse ++ fs) = some res
  | [], j, st, fs, _, h => ⟨[], st, rfl, Eqv.refl st, h⟩
  | o :: os, j, st, fs, hm, h => by
    have ho : all[j]? = some o := by simpa using (hm 0).symm
    have hm' : ∀ m, os[m]? = all[j + 1 + m]? := fun m => by have := hm (m + 1); rw [show j + 1 + m = j + (m + 1) by omega, ← this]; simp
    simp only [opsK] at h
    obtain ⟨st0, q, h | h⟩ := guardK_some h
    · obtain ⟨hg, h⟩ := h
      rw [effK_bind] at h
      obtain ⟨e, he, h⟩ := Option.bind_eq_some_iff.1 h
      split at h
      · rename_i s1 hs
        obtain ⟨hc, rfl⟩ := app_iff.1 hs
        obtain ⟨fl, st', h1, h2, h3⟩ := opsK_run hm' h
        refine ⟨e.fp st0.heap.length :: fl, st', by simp [h1], ⟨o, _, ho, Step.left ⟨e, ?_, rfl, hc, Eqv.refl _⟩ q, h2⟩, by simpa using h3⟩
        unfold evalS
        rw [q.look, hg, ← q.look]
        exact he
      · cases h
    · obtain ⟨hg, h⟩ := h
      split at h
      · rename_i s1 hs
        have hs' : st0.app o.dst { r := .skip } = some s1 := hs
        obtain ⟨hc, rfl⟩ := app_iff.1 hs'
        obtain ⟨fl, st', h1, h2, h3⟩ := opsK_run hm' h
        refine ⟨_ :: fl, st', by simp [h1], ⟨o, _, ho, Step.left ⟨{ r := .skip }, ?_, rfl, hc, Eqv.refl _⟩ q, h2⟩, by simpa [Eff.fp] using h3⟩
        unfold evalS
        rw [q.look, hg]
      · cases h
end
end Go.V
