/- A slice of an array in a box: the box is written no more. -/
import Derived.Test.YtelfooangijedaaOps8
namespace Go.V
open Go.RowKit

section
variable {E : Env} {P : Program} {γ : Gh} {dead : List Tok} {C : List Nat} {a : Act} {w : World} {dst : Nat} {st st' : St}

theorem chunks_spec {ts : Ts} : ∀ {n : Nat} {ds : List D} {xs : List ts.den}, chunks ts n ds = some xs → xs.length = n ∧ flat ts xs = ds.map D.strip
  | 0, [], xs, h => by simp only [chunks, Option.some.injEq] at h; subst h; exact ⟨rfl, rfl⟩
  | 0, _ :: _, xs, h => by simp [chunks] at h
  | n + 1, ds, xs, h => by
    simp only [chunks] at h
    split at h
    · rename_i x hx
      split at h
      · rename_i ys hys
        cases h
        obtain ⟨h1, h2⟩ := chunks_spec hys
        refine ⟨by simp [h1], ?_⟩
        have h3 := unleaves_spec hx
        have e : flat ts (x :: ys) = ts.leaves x ++ flat ts ys := by simp [flat]
        rw [e, h3, h2, ← List.map_append, List.take_append_drop]
      · cases h
    · cases h
/-- the box lies open to be read, for good -/
def Gh.thaw (γ : Gh) (b : Nat) : Gh := { γ with rd := fun i => if i = b then none else γ.rd i }
theorem thaw_sees {b : Nat} : Sees γ w (γ.thaw b) w := ⟨fun b' i u h1 h2 => by
  refine ⟨h2, ?_⟩
  unfold Gh.may Gh.thaw at *
  simp only
  by_cases hb : b' = b
  · simp [hb]
  · simp only [hb, if_false]; exact h1⟩
theorem Goes.sliceArr {o : Oper} {t et n bi ty : Nat} {ti te : TI} {x : Operand} {lo hi : Option Operand} {ts : Ts} {c : List D} {xs : List ts.den} {l u : Int} (hE : EnvOK E) (h : Sim γ st C a w) (hC : dstOf o ∉ C) (hop : o.op = .slice t x lo hi none)
    (ht : E.ti t = some ti) (hd : ti.d = .array n et) (hte : E.ti et = some te) (hsz : te.size = ts.size) (hx : evalO E ty (look st.regs) x = some (.one (.ref bi 0))) (hc : st.heap[bi]? = some c) (hch : chunks ts n c = some xs) (hnz : 0 < c.length)
    (h1 : effK.sliceLo lo (look st.regs) E = some l) (h2 : effK.sliceHi n hi (look st.regs) E = some u) (h0 : 0 ≤ l) (hlu : l ≤ u) (hu : u ≤ n)
    (hp : St.put { st with heap := setAt st.heap bi [] } o.dst (.one (.g (.sl ts) ((xs.take u.toNat).drop l.toNat))) = some st') : Goes E.P o γ st' C a w := by
  intro next Q hn'
  have hlk : LkOK (look st.regs) γ st.dead C a w := h.regs
  have hx1 := evalO_one hlk hx
  simp only [rdD] at hx1
  obtain ⟨b, hb, hxv⟩ := hx1
  obtain ⟨hlen, hflat⟩ := chunks_spec hch
  have htd := (hE.ti _ _ ht).desc
  rw [hd] at htd
  obtain ⟨hun, hnt⟩ := htd
  obtain ⟨info, hinfo, hisz, _⟩ := (hE.ti _ _ hte).info (hnt te hte)
  rcases h.heap.box bi c b hc hb with ⟨⟨arr, bty, e1, e2, e3⟩, e4, e5⟩ | ⟨g1, _, _⟩
  case inr => subst g1; simp at hnz
  have hes : (sizeOf et).run E.P w = .ok ts.size w := by simp [sizeOf, typeInfo, hinfo, hisz, hsz]
  have hbr : ∀ (vlo vhi : Option Value), (vlo = none ∧ l = 0 ∨ ∃ k, vlo = some (.int k l)) → (vhi = none ∧ u = n ∨ ∃ k, vhi = some (.int k u)) →
      (Instr.sliceBounds false n n vlo vhi none).run E.P w = .ok (l.toNat, u.toNat, n) w := by
    rintro vlo vhi (⟨rfl, rfl⟩ | ⟨k, rfl⟩) (⟨rfl, rfl⟩ | ⟨k', rfl⟩)
    · simp [Instr.sliceBounds]
    · simp [Instr.sliceBounds, Instr.sliceBound, asIntOf, hlu, hu]
    · have : l ≤ (n : Int) := by omega
      simp [Instr.sliceBounds, Instr.sliceBound, asIntOf, h0, this]
    · have c2 : 0 ≤ u := by omega
      have c4 : l ≤ max u 0 := by omega
      simp [Instr.sliceBounds, Instr.sliceBound, asIntOf, h0, hu, c2, c4]
  have hlo := slLo_sound hlk h1
  have hhi := slHi_sound hlk h2
  have hbr := hbr (lo.map a.eval) (hi.map a.eval) (by
    rcases hlo with ⟨rfl, rfl⟩ | ⟨y, k, rfl, hy⟩
    · exact .inl ⟨rfl, rfl⟩
    · exact .inr ⟨k, by simp [hy]⟩) (by
    rcases hhi with ⟨rfl, rfl⟩ | ⟨y, k, rfl, hy⟩
    · exact .inl ⟨rfl, rfl⟩
    · exact .inr ⟨k, by simp [hy]⟩)
  have hrun : (execOp a.eval o).run E.P w = .ok (.value (.slice (some (if n = l.toNat then ⟨b, 0, none⟩ else Addr.add ⟨b, 0, none⟩ (l.toNat * ts.size))) (u.toNat - l.toNat) (n - l.toNat))) w := by
    simp [execOp, hop, hxv, Instr.sliceAt, run_underlying hun, Instr.sureAddr, hbr, hes]
  unfold Oper.wp
  rw [hrun]
  simp only [Oper.upon]
  -- what is read
  have hrl : rdL w (γ.thaw b) (flat ts xs) arr.toList := by
    rw [hflat]
    exact (rdL_map nameOnly_strip).2 (rdL_mono thaw_sees (fun _ _ h => h) _ _ e2)
  have hrc : rdC w (γ.thaw b) (flat ts xs) b 0 := rdC_of_cells fun j d hj => by
    obtain ⟨v, hv, hdv⟩ := rdL_get hrl hj
    have hv' : arr[j]? = some v := by simpa using hv
    refine ⟨v, by simp [World.cell?, e1, hv'], by simp [Gh.may, Gh.thaw], hdv⟩
  have hrows := rdC_rows ts hrc
  have hrd := sub_rdT (w := w) (γ := γ.thaw b) (A := some ⟨b, 0, none⟩) (A' := some (if n = l.toNat then ⟨b, 0, none⟩ else Addr.add ⟨b, 0, none⟩ (l.toNat * ts.size))) (l := l.toNat) (u := u.toNat) (c := n) (xs := xs)
    (fun i hi => ⟨b, 0, rfl, hrows i hi⟩) (by omega) (by omega) (by omega) (by
      intro hne
      have : ¬ n = l.toNat := by omega
      rw [if_neg this]
      rfl)
  have hblt := heap_lt_of e1
  have hext : Ext γ w (γ.thaw b) w := ⟨fun _ _ q => q, rfl, Nat.le_refl _, thaw_sees.cells, Below.refl _ _, fun b' hb' => by simp only [Gh.thaw]; rw [if_neg (by omega)]⟩
  obtain ⟨s1, s2⟩ := setAt_spec (h := st.heap) (i := bi) (ds := [])
  have hbi : bi < st.heap.length := (List.getElem?_eq_some_iff.1 hc).1
  have hsim : Sim (γ.thaw b) { st with heap := setAt st.heap bi [] } C a w := by
    refine ⟨h.dfr, h.sz, fun s q hq => ?_, ⟨by rw [s1]; exact h.heap.len, fun i es b' hi hb' => ?_, h.heap.nodup⟩, ⟨fun k hd hk => ?_, h.own.inj⟩, fun b' hb' => ?_, h.base⟩
    · obtain ⟨q1, q2⟩ := h.regs s q hq
      exact ⟨rdR_mono thaw_sees (fun _ _ x => x) q _ q1, tkR_mono (γ := γ) (γ' := γ.thaw b) (dead := st.dead) (dead' := st.dead) (fun _ x => x) (fun _ x => x) (fun k _ _ => .inr rfl) q _ q2⟩
    · rw [s2 i] at hi
      by_cases hib : i = bi
      · subst hib
        rw [if_pos ⟨rfl, hbi⟩] at hi
        cases hi
        rw [show (γ.thaw b).bx = γ.bx from rfl, hb] at hb'
        cases hb'
        exact .inr ⟨rfl, e5, hblt⟩
      · rw [if_neg (by omega)] at hi
        have hne : b' ≠ b := fun e => by
          subst e
          exact hib (nodup_inj h.heap.nodup hb' hb)
        rcases h.heap.box i es b' hi hb' with ⟨⟨arr', ty', g1, g2, g3⟩, g4, g5⟩ | g
        · exact .inl ⟨⟨arr', ty', g1, rdL_mono thaw_sees (fun _ _ x => x) _ _ g2, tkL_mono (γ := γ) (γ' := γ.thaw b) (dead := st.dead) (dead' := st.dead) (fun _ x => x) (fun _ x => x) (fun k _ _ => .inr rfl) g3⟩, by simp only [Gh.thaw]; rw [if_neg hne]; exact g4, g5⟩
        · exact .inr g
    · refine (h.own.own k hd hk).keep rfl rfl fun b' hc' hA _ => ?_
      obtain ⟨b2, arr2, ty2, g1, g2, _, _, _, g6⟩ := (h.own.own k hd hk).2 hc'
      have hb2 : b2 = b' := by rw [g1] at hA; simpa using hA
      have hne : b' ≠ b := fun e => by
        subst e
        subst hb2
        exact g6 (List.mem_of_getElem? hb)
      exact ⟨rfl, by simp only [Gh.thaw]; rw [if_neg hne]⟩
    · simp only [Gh.thaw]
      rw [if_neg (by omega)]
      exact h.fresh b' hb'
  refine hn' _ _ _ hext (Sim.put (hsim.more (C' := addC o.dst C) fun t ht => ?_) hp fun t ht => ?_)
  · cases hdd : o.dst with
    | none => exact ht
    | some u => exact List.mem_cons_of_mem _ ht
  · exact ⟨by simp only [rdR, rdD]; exact hrd, by simp only [tkR, tkD]⟩
end
end Go.V
