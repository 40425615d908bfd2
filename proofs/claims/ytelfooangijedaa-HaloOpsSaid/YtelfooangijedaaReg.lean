/- The end of a region: what lives, names; guards; a region in the order of its text. -/
import Derived.Test.YtelfooangijedaaEff
namespace Go.V
set_option linter.unusedVariables false
open Go.RowKit
section
variable {E : Env} {f : Nat} {cp : CallP} {ce : CallE} {γ : Gh} {C : List Nat} {a : Act} {w : World} {st st' : St}

/-! ### Names -/
theorem look_mapRegs {g : D → D} : ∀ {l : List (Nat × R)} {s : Nat} {r : R}, look (mapRegs g l) s = some r → ∃ q, look l s = some q ∧ r = q.map g
  | [], s, r, h => by simp [mapRegs, look] at h
  | (t, q) :: l, s, r, h => by
    simp only [mapRegs, look] at h ⊢
    cases hb : Nat.beq t s with
    | true => rw [hb] at h; cases h; exact ⟨q, rfl, rfl⟩
    | false => rw [hb] at h; exact look_mapRegs h
theorem mapHeap_get {g : D → D} : ∀ {h : Heap} {i : Nat} {ds : List D}, (mapHeap g h)[i]? = some ds → ∃ es, h[i]? = some es ∧ ds = es.map g
  | [], i, ds, h => by simp [mapHeap] at h
  | x :: h, 0, ds, hh => by simp [mapHeap] at hh; exact ⟨x, rfl, hh.symm⟩
  | x :: h, i + 1, ds, hh => by simp only [mapHeap, List.getElem?_cons_succ] at hh ⊢; exact mapHeap_get hh
theorem mapHeap_length {g : D → D} : ∀ {h : Heap}, (mapHeap g h).length = h.length
  | [] => rfl
  | _ :: h => by simp [mapHeap, mapHeap_length (h := h)]
theorem tkL_map {g : D → D} {γ' : Gh} {dead dead' : List Tok} {C' : List Nat} (hg : ∀ d v, tkD γ dead C d v → tkD γ' dead' C' (g d) v) : ∀ {ds : List D} {vs : List Value}, tkL γ dead C ds vs → tkL γ' dead' C' (ds.map g) vs
  | d :: ds, v :: vs, h => by
    simp only [tkL] at h
    simp only [List.map_cons, tkL]
    exact ⟨hg d v h.1, tkL_map hg h.2⟩
  | [], _, _ => by simp only [List.map_nil, tkL]
  | _ :: _, [], _ => by simp only [List.map_cons, tkL]
mutual
theorem tkR_map {g : D → D} {γ' : Gh} {dead dead' : List Tok} {C' : List Nat} (hg : ∀ d v, tkD γ dead C d v → tkD γ' dead' C' (g d) v) : (r : R) → (v : Value) → tkR γ dead C r v → tkR γ' dead' C' (r.map g) v
  | .one d, v, h => by simp only [tkR] at h; simp only [R.map, tkR]; exact hg d v h
  | .agg ds, v, h => by simp only [R.map, tkR]
  | .tup rs, v, h => by
    simp only [R.map]
    cases v <;> simp only [tkR] at h ⊢
    exact tkRs_map hg rs _ h
  | .undef, v, h => by simp only [R.map, tkR]
  | .skip, v, h => by simp only [R.map, tkR]
theorem tkRs_map {g : D → D} {γ' : Gh} {dead dead' : List Tok} {C' : List Nat} (hg : ∀ d v, tkD γ dead C d v → tkD γ' dead' C' (g d) v) : (rs : List R) → (vs : List Value) → tkRs γ dead C rs vs → tkRs γ' dead' C' (R.mapL g rs) vs
  | r :: rs, v :: vs, h => by
    simp only [tkRs] at h
    simp only [R.mapL, tkRs]
    exact ⟨tkR_map hg r v h.1, tkRs_map hg rs vs h.2⟩
  | [], _, _ => by simp only [R.mapL, tkRs]
  | _ :: _, [], _ => by simp only [R.mapL, tkRs]
end
/-- names alone turn, and what is noted of them -/
theorem Sim.remap {g : D → D} {γ' : Gh} {dead' : List Tok} {C' : List Nat} (h : Sim γ st C a w) (hn : NameOnly g) (hbx : γ'.bx = γ.bx) (hrd : γ'.rd = γ.rd) (hbase : γ'.base = γ.base)
    (hg : ∀ d v, tkD γ st.dead C d v → tkD γ' dead' C' (g d) v) (ho : OwOK γ' w) : Sim γ' { st.mapD g with dead := dead' } C' a w := by
  have hs : Sees γ w γ' w := ⟨fun b i u h1 h2 => ⟨h2, (may_congr (congrFun hrd b)).2 h1⟩⟩
  have hb : ∀ (i b : Nat), γ.bx[i]? = some b → γ'.bx[i]? = some b := fun i b hi => by rw [hbx]; exact hi
  refine ⟨h.dfr, h.sz, fun s r hr => ?_, ⟨by simp only [St.mapD, mapHeap_length]; rw [hbx]; exact h.heap.len, fun i ds b hi hb' => ?_, by rw [hbx]; exact h.heap.nodup⟩, ho, fun b hb => by rw [hrd]; exact h.fresh b hb, by rw [hbase]; exact h.base⟩
  · obtain ⟨q, hq, rfl⟩ := look_mapRegs hr
    obtain ⟨h1, h2⟩ := h.regs s q hq
    exact ⟨(rdR_map hn q _).2 (rdR_mono hs hb q _ h1), tkR_map hg q _ h2⟩
  · obtain ⟨es, hes, rfl⟩ := mapHeap_get hi
    rw [hbx] at hb'
    rcases h.heap.box i es b hes hb' with ⟨⟨arr, ty, e1, e2, e3⟩, e4, e5⟩ | ⟨g1, g2, g3⟩
    case inr => exact .inr ⟨by rw [g1]; rfl, by rw [hbase]; exact g2, g3⟩
    exact .inl ⟨⟨arr, ty, e1, (rdL_map hn).2 (rdL_mono hs hb _ _ e2), tkL_map hg e3⟩, by rw [hrd]; exact e4, by rw [hbase]; exact e5⟩
theorem Sim.kill (h : Sim γ st C a w) : Sim γ { St.mapD (D.kill st.dead) st with dead := [] } C a w :=
  h.remap (nameOnly_kill _) rfl rfl rfl (fun d v hd => by
    cases d <;> try (simp only [D.kill, tkD]; done)
    case ow e xs k =>
      simp only [tkD] at hd
      simp only [D.kill]
      cases hk : tokIn k st.dead with
      | true => simp only [cond_true, tkD]
      | false =>
        rw [hk] at hd
        simp only [cond_false, tkD]
        simpa [tokIn] using hd) h.own
theorem Sim.noS (h : Sim γ st C a w) (hd : st.dead = []) : Sim γ (st.mapD D.noS) [] a w := by
  have := h.remap (g := D.noS) (γ' := γ) (dead' := []) (C' := []) nameOnly_noS rfl rfl rfl (fun d v hd' => by
    cases d <;> try (simp only [D.noS, tkD]; done)
    case ow e xs k =>
      rw [hd] at hd'
      cases k with
      | s t => simp only [D.noS, tkD]
      | v t => simp only [tkD] at hd'; simp only [D.noS, tkD]; exact ⟨hd'.1, fun t ht => by cases ht⟩
      | h i o => simp only [tkD] at hd'; simp only [D.noS, tkD]; exact ⟨hd'.1, fun t ht => by cases ht⟩) h.own
  have e : { st.mapD D.noS with dead := [] } = st.mapD D.noS := by
    cases st
    simp only at hd
    subst hd
    rfl
  rw [e] at this
  exact this
def Gh.ren (γ : Gh) (x y : Tok) : Gh := { γ with ow := fun k => if k = y then γ.ow x else if k = x then none else γ.ow k }
theorem Sim.rename {x y : Tok} (h : Sim γ st C a w) (hd : st.dead = []) (hxy : x ≠ y) (hy : ∀ t, y ≠ .s t) : Sim (γ.ren x y) (st.mapD (D.rename x y)) C a w := by
  have hown : OwOK (γ.ren x y) w := by
    refine ⟨fun k hd' hk => ?_, fun k k' hd1 hd2 hk hk' hne => ?_⟩
    · simp only [Gh.ren] at hk
      split at hk
      · exact (h.own.own x hd' hk).keep rfl rfl fun _ _ _ _ => ⟨rfl, rfl⟩
      · split at hk
        · cases hk
        · exact (h.own.own k hd' hk).keep rfl rfl fun _ _ _ _ => ⟨rfl, rfl⟩
    · simp only [Gh.ren] at hk hk'
      split at hk
      · split at hk'
        · rename_i e1 e2; exact absurd (e1.trans e2.symm) hne
        · split at hk'
          · cases hk'
          · rename_i e1 e2; exact h.own.inj x k' hd1 hd2 hk hk' (fun e => e2 e.symm)
      · split at hk
        · cases hk
        · rename_i e1 e2
          split at hk'
          · exact h.own.inj k x hd1 hd2 hk hk' e2
          · split at hk'
            · cases hk'
            · exact h.own.inj k k' hd1 hd2 hk hk' hne
  have := h.remap (g := D.rename x y) (γ' := γ.ren x y) (dead' := []) (C' := C) (nameOnly_rename x y) rfl rfl rfl (fun d v hd' => by
    cases d <;> try (simp only [D.rename, tkD]; done)
    case ow e xs k =>
      rw [hd] at hd'
      simp only [tkD, tokIn, Bool.false_eq_true, false_or] at hd'
      obtain ⟨⟨hdr, h1, h2, h3⟩, h4⟩ := hd'
      simp only [D.rename]
      cases hkx : Tok.beq k x with
      | true =>
        obtain rfl := tok_beq.1 hkx
        simp only [cond_true, tkD, tokIn, Bool.false_eq_true, false_or]
        exact ⟨⟨hdr, by simp [Gh.ren, h1], h2, h3⟩, fun t ht => absurd ht (hy t)⟩
      | false =>
        have hkx' : k ≠ x := fun e => by rw [tok_beq.2 e] at hkx; cases hkx
        simp only [cond_false]
        cases hky : Tok.beq k y with
        | true => simp only [cond_true, tkD]
        | false =>
          have hky' : k ≠ y := fun e => by rw [tok_beq.2 e] at hky; cases hky
          simp only [cond_false, tkD, tokIn, Bool.false_eq_true, false_or]
          exact ⟨⟨hdr, by simp [Gh.ren, hkx', hky', h1], h2, h3⟩, h4⟩) hown
  have e : { st.mapD (D.rename x y) with dead := [] } = st.mapD (D.rename x y) := by
    cases st
    simp only at hd
    subst hd
    rfl
  rw [e] at this
  exact this
/-- what is kept by naming: boxes, readings, the base, the count of slots -/
def Named (γ γ' : Gh) : Prop := γ'.bx = γ.bx ∧ γ'.rd = γ.rd ∧ γ'.base = γ.base
theorem Named.refl (γ : Gh) : Named γ γ := ⟨rfl, rfl, rfl⟩
theorem Named.trans {γ γ1 γ2 : Gh} (h : Named γ γ1) (k : Named γ1 γ2) : Named γ γ2 := ⟨k.1.trans h.1, k.2.1.trans h.2.1, k.2.2.trans h.2.2⟩
theorem Named.ext {γ γ' : Gh} (h : Named γ γ') (w : World) : Ext γ w γ' w :=
  ⟨fun i b hi => by rw [h.1]; exact hi, h.2.2, Nat.le_refl _, fun b i u h1 h2 => ⟨h2, (may_congr (congrFun h.2.1 b)).2 h1⟩, Below.refl _ _, fun b _ => congrFun h.2.1 b⟩
def Renamed (st st' : St) (γ : Gh) (C : List Nat) (a : Act) (w : World) : Prop := st'.dead = [] ∧ ∃ γ', Named γ γ' ∧ Sim γ' st' C a w
theorem renamed_leaf {loc : Tok} {d : D} (h : Sim γ st C a w) (hd : st.dead = []) (hl : ∀ t, loc ≠ .s t) : Renamed st (nameLeaf loc st d) γ C a w := by
  unfold nameLeaf
  split
  · rename_i t
    exact ⟨hd, γ.ren (.s t) loc, ⟨rfl, rfl, rfl⟩, h.rename hd (fun e => hl t e.symm) hl⟩
  · exact ⟨hd, γ, Named.refl γ, h⟩
theorem renamed_at {i off : Nat} (h : Sim γ st C a w) (hd : st.dead = []) : Renamed st (nameHeapAt i off st) γ C a w := by
  unfold nameHeapAt
  split
  · split
    · exact renamed_leaf h hd (fun t e => by cases e)
    · exact ⟨hd, γ, Named.refl γ, h⟩
  · exact ⟨hd, γ, Named.refl γ, h⟩
theorem renamed_box {i : Nat} (h : Sim γ st C a w) (hd : st.dead = []) : ∀ n, Renamed st (nameBox i n st) γ C a w
  | 0 => ⟨hd, γ, Named.refl γ, h⟩
  | n + 1 => by
    obtain ⟨h1, γ1, h2, h3⟩ := renamed_box h hd n
    obtain ⟨h4, γ2, h5, h6⟩ := renamed_at (i := i) (off := n) h3 h1
    exact ⟨h4, γ2, h2.trans h5, h6⟩
theorem renamed_heap (h : Sim γ st C a w) (hd : st.dead = []) : ∀ n, Renamed st (nameHeap n st) γ C a w
  | 0 => ⟨hd, γ, Named.refl γ, h⟩
  | n + 1 => by
    obtain ⟨h1, γ1, h2, h3⟩ := renamed_heap h hd n
    obtain ⟨h4, γ2, h5, h6⟩ := renamed_box (i := n) h3 h1 ((st.heap[n]?.map List.length).getD 0)
    exact ⟨h4, γ2, h2.trans h5, h6⟩
theorem renamed_slot {s : Nat} (h : Sim γ st C a w) (hd : st.dead = []) : Renamed st (nameSlot s st) γ C a w := by
  unfold nameSlot
  split
  · exact renamed_leaf h hd (fun t e => by cases e)
  · exact ⟨hd, γ, Named.refl γ, h⟩
theorem renamed_slots : ∀ (l : List (Nat × R)) {γ : Gh} {st : St}, Sim γ st C a w → st.dead = [] → Renamed st (nameSlots l st) γ C a w
  | [], γ, st, h, hd => ⟨hd, γ, Named.refl γ, h⟩
  | (s, r) :: l, γ, st, h, hd => by
    obtain ⟨h1, γ1, h2, h3⟩ := renamed_slot (s := s) h hd
    obtain ⟨h4, γ2, h5, h6⟩ := renamed_slots l h3 h1
    exact ⟨h4, γ2, h2.trans h5, h6⟩
theorem tkD_noOw {γ' : Gh} {dead dead' : List Tok} {C' : List Nat} {d : D} {v : Value} (h : d.isOw = false) : tkD γ' dead' C' d v := by
  cases d <;> first | (simp only [tkD]; done) | cases h
theorem tkL_noOw {γ' : Gh} {dead' : List Tok} {C' : List Nat} : ∀ {ds : List D} {vs : List Value}, anyOwD ds = false → tkL γ' dead' C' ds vs
  | d :: ds, v :: vs, h => by
    simp only [anyOwD, Bool.or_eq_false_iff] at h
    simp only [tkL]
    exact ⟨tkD_noOw (dead := []) h.1, tkL_noOw h.2⟩
  | [], _, _ => by simp only [tkL]
  | _ :: _, [], _ => by simp only [tkL]
mutual
theorem tkR_noOw {γ' : Gh} {dead' : List Tok} {C' : List Nat} : (r : R) → (v : Value) → r.hasOw = false → tkR γ' dead' C' r v
  | .one d, v, h => by simp only [R.hasOw] at h; simp only [tkR]; exact tkD_noOw (dead := []) h
  | .tup rs, v, h => by
    simp only [R.hasOw] at h
    cases v <;> simp only [tkR]
    exact tkRs_noOw rs _ h
  | .agg _, _, _ => by simp only [tkR]
  | .undef, _, _ => by simp only [tkR]
  | .skip, _, _ => by simp only [tkR]
theorem tkRs_noOw {γ' : Gh} {dead' : List Tok} {C' : List Nat} : (rs : List R) → (vs : List Value) → R.hasOwL rs = false → tkRs γ' dead' C' rs vs
  | r :: rs, v :: vs, h => by
    simp only [R.hasOwL, Bool.or_eq_false_iff] at h
    simp only [tkRs]
    exact ⟨tkR_noOw r v h.1, tkRs_noOw rs vs h.2⟩
  | [], _, _ => by simp only [tkRs]
  | _ :: _, [], _ => by simp only [tkRs]
end
theorem regsOw_look : ∀ {l : List (Nat × R)} {s : Nat} {r : R}, regsOw l = false → look l s = some r → r.hasOw = false
  | [], s, r, _, h => by simp [look] at h
  | (t, q) :: l, s, r, h, hl => by
    simp only [regsOw, Bool.or_eq_false_iff] at h
    simp only [look] at hl
    cases hb : Nat.beq t s with
    | true => rw [hb] at hl; cases hl; exact h.1
    | false => rw [hb] at hl; exact regsOw_look h.2 hl
theorem heapOw_get : ∀ {h : Heap} {i : Nat} {ds : List D}, heapOw h = false → h[i]? = some ds → anyOwD ds = false
  | [], i, ds, _, h => by simp at h
  | x :: h, 0, ds, hh, hi => by
    simp only [heapOw, Bool.or_eq_false_iff] at hh
    simp at hi
    exact hi ▸ hh.1
  | x :: h, i + 1, ds, hh, hi => by
    simp only [heapOw, Bool.or_eq_false_iff] at hh
    exact heapOw_get hh.2 (by simpa using hi)
theorem look_keep {l : List Nat} : ∀ {rs : List (Nat × R)} {s : Nat} {r : R}, look (keepRegs l rs) s = some r → ∃ q, look rs s = some q ∧ q = r
  | [], s, r, h => by simp [keepRegs, look] at h
  | (t, q) :: rs, s, r, h => by
    simp only [keepRegs] at h
    simp only [look]
    cases hm : mem t l with
    | true =>
      rw [hm] at h
      simp only [cond_true, look] at h
      cases hb : Nat.beq t s with
      | true => rw [hb] at h; cases h; exact ⟨_, rfl, rfl⟩
      | false => rw [hb] at h; exact look_keep h
    | false =>
      rw [hm] at h
      simp only [cond_false] at h
      cases hb : Nat.beq t s with
      | true =>
        obtain rfl := nbeq.1 hb
        exfalso
        have : ∀ {rs : List (Nat × R)}, look (keepRegs l rs) t = none := by
          intro rs
          induction rs with
          | nil => rfl
          | cons x rs ih =>
            obtain ⟨u, p⟩ := x
            simp only [keepRegs]
            cases hu : mem u l with
            | true =>
              simp only [cond_true, look]
              have : Nat.beq u t = false := nbeq_false.2 fun e => by subst e; rw [hm] at hu; cases hu
              rw [this]
              exact ih
            | false => simpa using ih
        rw [this] at h
        cases h
      | false => exact look_keep h
theorem Sim.keep (h : Sim γ st C a w) (id : Nat) : Sim γ (st.keep E f id) C a w := by
  unfold St.keep
  split
  · exact ⟨h.dfr, h.sz, fun s r hr => by obtain ⟨q, h1, rfl⟩ := look_keep hr; exact h.regs s q h1, h.heap, h.own, h.fresh, h.base⟩
  · exact h
theorem HeapOK.give {hp : Heap} {dead : List Tok} (h : HeapOK γ hp dead C w) (i : Nat) : HeapOK γ (setAt hp i []) dead C w := by
  obtain ⟨s1, s2⟩ := setAt_spec (h := hp) (i := i) (ds := [])
  refine ⟨by rw [s1]; exact h.len, fun j ds b hj hb => ?_, h.nodup⟩
  rw [s2 j] at hj
  by_cases hji : j = i ∧ i < hp.length
  · rw [if_pos hji] at hj
    cases hj
    have hlt : j < hp.length := by rw [hji.1]; exact hji.2
    rcases h.box j _ b (List.getElem?_eq_getElem hlt) hb with ⟨⟨arr, ty, e1, _⟩, _, e5⟩ | ⟨_, g2, g3⟩
    · exact .inr ⟨rfl, e5, heap_lt_of e1⟩
    · exact .inr ⟨rfl, g2, g3⟩
  · rw [if_neg hji] at hj
    exact h.box j ds b hj hb
theorem HeapOK.giveUp {regs : List (Nat × R)} {dead : List Tok} : ∀ (l : List Nat) {hp : Heap}, HeapOK γ hp dead C w → HeapOK γ (giveUp regs l hp) dead C w
  | [], hp, h => h
  | s :: l, hp, h => by
    simp only [V.giveUp]
    split
    · exact HeapOK.giveUp l (h.give _)
    · exact HeapOK.giveUp l h
theorem look_soft {l : List Nat} : ∀ {rs : List (Nat × R)} {s : Nat} {r : R}, look (softR l rs) s = some r → ∃ q, look rs s = some q ∧ (r = q ∨ r = q.map D.strip)
  | [], s, r, h => by simp [softR, look] at h
  | (t, q) :: rs, s, r, h => by
    simp only [softR, look] at h ⊢
    cases hb : Nat.beq t s with
    | true =>
      rw [hb] at h
      cases h
      refine ⟨q, rfl, ?_⟩
      cases mem t l <;> simp
    | false => rw [hb] at h; exact look_soft h
theorem Sim.ease (h : Sim γ st C a w) (id : Nat) : Sim γ (st.ease E f id) C a w := by
  refine ⟨h.dfr, h.sz, fun s r hr => ?_, h.heap.giveUp _, h.own, h.fresh, h.base⟩
  have : ∃ q, look st.regs s = some q ∧ (r = q ∨ r = q.map D.strip) := by
    simp only [St.ease, softRegs] at hr
    split at hr
    · exact ⟨r, hr, .inl rfl⟩
    · exact look_soft hr
  obtain ⟨q, hq, hrq⟩ := this
  obtain ⟨h1, h2⟩ := h.regs s q hq
  rcases hrq with rfl | rfl
  · exact ⟨h1, h2⟩
  · exact ⟨(rdR_map nameOnly_strip q _).2 h1, tkR_map (fun d v _ => tkD_strip d v) q _ h2⟩
theorem Sim.norm (h : Sim γ st C a w) (id : Nat) : ∃ γ', Named γ γ' ∧ Sim γ' (st.norm E f id) [] a w ∧ (st.norm E f id).dead = [] := by
  have h0 := (h.ease (E := E) (f := f) id).keep (E := E) (f := f) id
  unfold St.norm St.names
  generalize (st.ease E f id).keep E f id = st at *
  cases hb : (regsOw st.regs || heapOw st.heap) with
  | true =>
    simp only [cond_true]
    obtain ⟨h1, γ1, h2, h3⟩ := renamed_heap h0.kill rfl { St.mapD (D.kill st.dead) st with dead := [] }.heap.length
    obtain ⟨h4, γ2, h5, h6⟩ := renamed_slots (nameHeap { St.mapD (D.kill st.dead) st with dead := [] }.heap.length { St.mapD (D.kill st.dead) st with dead := [] }).regs h3 h1
    exact ⟨γ2, h2.trans h5, h6.noS h4, h4⟩
  | false =>
    simp only [Bool.or_eq_false_iff] at hb
    refine ⟨γ, Named.refl γ, ⟨h0.dfr, h0.sz, fun s r hr => ⟨(h0.regs s r hr).1, tkR_noOw r _ (regsOw_look hb.1 hr)⟩, ⟨h0.heap.len, fun i ds b hi hb' => ?_, h0.heap.nodup⟩, h0.own, h0.fresh, h0.base⟩, rfl⟩
    rcases h0.heap.box i ds b hi hb' with ⟨⟨arr, ty, e1, e2, _⟩, e4, e5⟩ | g
    case inr => exact .inr g
    exact .inl ⟨⟨arr, ty, e1, e2, tkL_noOw (heapOw_get hb.2 hi)⟩, e4, e5⟩
end
end Go.V
