/- Contracts of the semaphores of layer 10: calls that are handed a box that counts, or hand one back. -/
import Derived.Test.YtaehdmelnmajnaaSpEnv
import Derived.Test.YtaehdmelnmajnaaHSem
namespace Go.V.P
open Go Go.RowKit Go.V Go.Proofs
set_option linter.unusedVariables false
set_option linter.unusedSimpArgs false
def semWaitL (cs : List Int) (i : Int) : Int × List Int := bif semIn i then (bif gt cs i 0 == 0 then (20, cs) else (0, cs.set i.toNat (gt cs i 0 - 1))) else (1, cs)
def semSignalL (cs : List Int) (i : Int) : Int × List Int := bif semIn i then (bif gt cs i 0 == 15 then (22, cs) else (0, cs.set i.toNat (gt cs i 0 + 1))) else (1, cs)
def semNew : Option (List Int) := some [0, 0, 0, 0, 0, 0, 0, 0]
def semWait (cs : List Int) (i : Int) : Option (Int × List Int) := some (semWaitL cs i)
def semSignal (cs : List Int) (i : Int) : Option (Int × List Int) := some (semSignalL cs i)
def semCount (cs : List Int) (i : Int) : Option Int := some (bif semIn i then gt cs i 0 else 0)
def semAll (cs : List Int) : Option (List Int) := some cs
def boxSem (h : Heap) (i : Nat) : Option (List Int) := match h[i]? with
  | some [.sem cs] => some cs
  | _ => none
def semE : CallE := fun α g args h k =>
  bif Nat.beq 9 g then (match args with
    | [] => semNew.bind fun y => k (.one (.ref h.length 0)) (h ++ [[.sem y]])
    | _ => none)
  else bif Nat.beq 10 g then (match args with
    | [.one (.ref i 0), .one (.g (.int .i64) x)] => (match boxSem h i with
      | some cs => (semSignal cs x).bind fun y => k (.one (.g (.int .i64) y.1)) (setAt h i [.sem y.2])
      | none => none)
    | _ => none)
  else bif Nat.beq 11 g then (match args with
    | [.one (.ref i 0), .one (.g (.int .i64) x)] => (match boxSem h i with
      | some cs => (semWait cs x).bind fun y => k (.one (.g (.int .i64) y.1)) (setAt h i [.sem y.2])
      | none => none)
    | _ => none)
  else bif Nat.beq 12 g then (match args with
    | [.one (.ref i 0), .one (.g (.int .i64) x)] => (match boxSem h i with
      | some cs => (semCount cs x).bind fun y => k (.one (.g (.int .i64) y)) h
      | none => none)
    | _ => none)
  else bif Nat.beq 14 g then (match args with
    | [.one (.ref i 0)] => (match boxSem h i with
      | some cs => (semAll cs).bind fun y => k (.one (.g (.sl (.one (.int .i64))) y)) h
      | none => none)
    | _ => none)
  else none
theorem boxSem_some {h : Heap} {i : Nat} {cs : List Int} (e : boxSem h i = some cs) : h[i]? = some [.sem cs] := by
  unfold boxSem at e
  split at e
  · rename_i cs' hi
    cases e
    exact hi
  · cases e
section
variable {γ : Gh} {w w' : World} {h : Heap}
/-- a box of channels is changed: nothing else is -/
theorem sem_ends {α : Type} {k : R → Heap → Option α} {res : α} {i b : Nat} {cs cs' : List Int} {n : Int} (hh : HeapOK γ h [] [] w) (ho : OwOK γ w) (hf : ∀ b, w.heap.size ≤ b → γ.rd b = none) (hbase : γ.base ≤ w.heap.size)
    (hi : h[i]? = some [.sem cs]) (hb : γ.bx[i]? = some b) (hs' : SemAt w' b cs') (hsz : w'.heap.size = w.heap.size) (hlow : Below b w w') (hsame : ∀ b2, (∀ j : Nat, j < 8 → b2 ≠ b + 1 + j) → w'.heap[b2]? = w.heap[b2]?)
    (hk : k (.one (.g (.int .i64) n)) (setAt h i [.sem cs']) = some res) : EndsOK k res γ w (.returned (.int .i64 n)) w' := by
  obtain ⟨hbb, hs⟩ := sem_at hh hi hb
  have hcell : ∀ (b2 : Nat) (arr : Array Value) (ty : TypeId) (kk : Nat × Nat), w.heap[b2]? = some (Obj.cells arr ty kk) → w'.heap[b2]? = some (Obj.cells arr ty kk) := fun b2 arr ty kk e => by
    refine (hsame b2 fun j hj e2 => ?_).trans e
    obtain ⟨buf, s, r, _, _, e3⟩ := hs.2.2 j hj
    rw [e2, e3] at e
    cases e
  have hsees : Sees γ w γ w' := ⟨fun b2 o u h1 h2 => by
    refine ⟨?_, h1⟩
    simp only [World.cell?] at h2 ⊢
    split at h2
    · rename_i c _ _ he
      rw [hcell _ _ _ _ he]
      exact h2
    · cases h2⟩
  have hapart : ∀ (i2 b2 : Nat) (cs2 : List Int), i2 ≠ i → γ.bx[i2]? = some b2 → SemAt w b2 cs2 → SemAt w' b2 cs2 := fun i2 b2 cs2 hne hb2 h2 => by
    have hbne : b2 ≠ b := fun e => hne (nodup_inj hh.nodup (e ▸ hb2) hb)
    obtain ⟨ty1, c1⟩ := hs.2.1
    obtain ⟨ty2, c2⟩ := h2.2.1
    have hout : ∀ j : Nat, j < 8 → b2 ≠ b + 1 + j := fun j hj e => by
      obtain ⟨buf, s, r, _, _, e3⟩ := hs.2.2 j hj
      rw [e, e3] at c2
      cases c2
    have hout2 : ∀ j : Nat, j < 8 → b ≠ b2 + 1 + j := fun j hj e => by
      obtain ⟨buf, s, r, _, _, e3⟩ := h2.2.2 j hj
      rw [e, e3] at c1
      cases c1
    have hfar : b2 + 9 ≤ b ∨ b + 9 ≤ b2 := by
      by_cases hlt : b2 < b
      · left
        by_cases hq : b2 + 9 ≤ b
        · exact hq
        · exact absurd (show b = b2 + 1 + (b - b2 - 1) by omega) (hout2 (b - b2 - 1) (by omega))
      · right
        by_cases hq : b + 9 ≤ b2
        · exact hq
        · exact absurd (show b2 = b + 1 + (b2 - b - 1) by omega) (hout (b2 - b - 1) (by omega))
    refine ⟨h2.1, ⟨ty2, hcell _ _ _ _ c2⟩, fun j hj => ?_⟩
    obtain ⟨buf, s, r, a1, a2, a3⟩ := h2.2.2 j hj
    exact ⟨buf, s, r, a1, a2, (hsame _ fun j2 hj2 => by omega).trans a3⟩
  have hblt : b < w.heap.size := by obtain ⟨ty, c⟩ := hs.2.1; exact heap_lt_of c
  refine ⟨_, _, _, γ, rfl, hk, ⟨fun _ _ _ x => x, rfl, by omega, hsees.cells, hlow.mono hbb, fun _ _ => rfl, rfl⟩, ⟨?_, fun i2 ds b2 hi2 hb2 => ?_, hh.nodup⟩, ⟨fun kk hd hk2 => ?_, ho.inj⟩, fun b2 hb2 => hf b2 (by omega), by omega, by simp only [rdR, rdD, rdT], by simp only [tkR, tkD], fun _ _ x => x⟩
  · rw [setAt_spec.1]; exact hh.len
  · rw [setAt_spec.2] at hi2
    by_cases e : i2 = i
    · subst e
      have hil : i2 < h.length := (List.getElem?_eq_some_iff.1 hi).1
      rw [if_pos ⟨rfl, hil⟩] at hi2
      cases hi2
      rw [hb] at hb2
      cases hb2
      exact .inr ⟨hbb, by omega, .inr ⟨cs', rfl, hs'⟩⟩
    · rw [if_neg (fun q => e q.1)] at hi2
      rcases hh.box i2 ds b2 hi2 hb2 with ⟨⟨arr, ty, e1, e2, e3⟩, e4, e5⟩ | ⟨g1, g2, g3⟩
      · exact .inl ⟨⟨arr, ty, hcell _ _ _ _ e1, rdL_mono hsees (fun _ _ x => x) _ _ e2, e3⟩, e4, e5⟩
      · rcases g3 with g3 | ⟨cs2, g3, g4⟩
        · exact .inr ⟨g1, by omega, .inl g3⟩
        · exact .inr ⟨g1, by omega, .inr ⟨cs2, g3, hapart i2 b2 cs2 e hb2 g4⟩⟩
  · obtain ⟨o1, o2⟩ := ho.own kk hd hk2
    refine ⟨o1, fun hc => ?_⟩
    obtain ⟨b2, arr, ty, a1, a2, a3, a4, a5, a6⟩ := o2 hc
    exact ⟨b2, arr, ty, a1, hcell _ _ _ _ a2, a3, a4, a5, a6⟩
theorem setChan_other (w : World) {c b2 : Nat} (hne : b2 ≠ c) (cap : Nat) (buf : Array Value) (cl : Bool) (s r : Nat) (tm : Bool) : (w.setChan c cap buf cl s r tm).heap[b2]? = w.heap[b2]? := by
  simp only [World.setChan]
  rw [Array.getElem?_setIfInBounds_ne (fun e => hne e.symm)]
theorem sem_set {b j : Nat} {cs : List Int} {buf : Array Value} {s r : Nat} (hs : SemAt w b cs) (hj : j < 8) (hle : buf.size ≤ 15) : SemAt (w.setChan (b + 1 + j) 15 buf false s r false) b (cs.set j (buf.size : Int)) := by
  obtain ⟨h1, ⟨ty, h2⟩, h3⟩ := hs
  refine ⟨by simp [h1], ⟨ty, (setChan_other w (by omega) _ _ _ _ _ _).trans h2⟩, fun j2 hj2 => ?_⟩
  by_cases e : j2 = j
  · subst e
    obtain ⟨_, _, _, _, _, e3⟩ := h3 j2 hj2
    exact ⟨buf, s, r, by rw [List.getD_eq_getElem?_getD, List.getElem?_set, if_pos rfl, if_pos (by omega)]; rfl, hle, Go.Conc.heap_setChan _ _ _ _ _ _ _ _ (heap_lt_of e3)⟩
  · obtain ⟨b2, s2, r2, e1, e2, e3⟩ := h3 j2 hj2
    exact ⟨b2, s2, r2, by rw [List.getD_eq_getElem?_getD, List.getElem?_set, if_neg (fun q => e q.symm), ← List.getD_eq_getElem?_getD]; exact e1, e2, (setChan_other w (by omega) _ _ _ _ _ _).trans e3⟩
theorem gt_int {cs : List Int} {j : Nat} : gt cs (j : Int) 0 = cs.getD j 0 := by unfold gt; rw [show ((j : Int).toNat) = j by omega]
theorem set_self {cs : List Int} {j : Nat} : cs.set j (cs.getD j 0) = cs := by
  apply List.ext_getElem?
  intro m
  rw [List.getElem?_set]
  by_cases e : j = m
  · subst e
    rw [if_pos rfl]
    split
    · rename_i hlt
      rw [List.getD_eq_getElem?_getD, List.getElem?_eq_getElem hlt]; rfl
    · rename_i hlt
      rw [List.getElem?_eq_none (by omega)]
  · rw [if_neg e]
end
theorem args2 {γ : Gh} {w : World} {i : Nat} {x : Int} {vs : List Value} (h : rdRs w γ [.one (.ref i 0), .one (.g (.int .i64) x)] vs) : ∃ b, γ.bx[i]? = some b ∧ vs = [.pointer (some ⟨b, 0, none⟩), .int .i64 x] := by
  cases vs with
  | nil => simp only [rdRs] at h
  | cons v vs =>
    cases vs with
    | nil => simp only [rdRs] at h; exact h.2.elim
    | cons u us =>
      cases us with
      | nil =>
        simp only [rdRs, rdR, rdD, rdT] at h
        obtain ⟨⟨b, h1, rfl⟩, rfl, _⟩ := h
        exact ⟨b, h1, rfl⟩
      | cons _ _ => simp only [rdRs] at h; exact h.2.2.elim
theorem semE_ok : EffOK E semE := by
  intro α g args h k res hr
  unfold semE at hr
  cases h9 : Nat.beq 9 g with
  | true =>
    obtain rfl := nbeq.1 h9
    simp only [h9, cond_true] at hr
    split at hr
    · refine ⟨⟨_, Try.func9, rfl⟩, fun γ w vs hrd htk hh ho hf hbase => ?_⟩
      cases vs with
      | cons _ _ => simp only [rdRs] at hrd
      | nil =>
      refine (new_walk w).mono fun e w' he => ?_
      obtain ⟨rfl, hlow, hsz, hs⟩ := he
      simp only [semNew, Option.bind_some] at hr
      have hlt := hh.lt
      have hnb : w.heap.size ∉ γ.bx := fun hm => by
        obtain ⟨i, hi⟩ := List.mem_iff_getElem?.1 hm
        exact absurd (hlt i _ hi) (Nat.lt_irrefl _)
      have hget : ∀ (i b : Nat), γ.bx[i]? = some b → (γ.bx ++ [w.heap.size])[i]? = some b := fun i b hi => by
        rw [List.getElem?_append_left (List.getElem?_eq_some_iff.1 hi).1]; exact hi
      have hsees : Sees γ w { γ with bx := γ.bx ++ [w.heap.size] } w' := ⟨fun b i u h1 h2 => ⟨(cell_block (hlow.block b (cell_lt h2))).trans h2, h1⟩⟩
      refine ⟨_, _, _, { γ with bx := γ.bx ++ [w.heap.size] }, rfl, hr, ⟨fun i b _ q => hget i b q, rfl, hlow.size, hsees.cells, hlow.mono hbase, fun _ _ => rfl, rfl⟩, ⟨by simp [hh.len], fun i ds b hi hb => ?_, ?_⟩, ⟨fun kk hd hk => ?_, ho.inj⟩, fun b hb => hf b (by omega), by show γ.base ≤ _; omega, ?_, by simp only [tkR, tkD], hget⟩
      · by_cases hil : i < h.length
        · rw [List.getElem?_append_left hil] at hi
          simp only at hb
          rw [List.getElem?_append_left (by rw [← hh.len]; exact hil)] at hb
          rcases hh.box i ds b hi hb with ⟨⟨arr, ty, e1, e2, e3⟩, e4, e5⟩ | g
          · exact .inl ⟨⟨arr, ty, (hlow.block b (heap_lt_of e1)).trans e1, rdL_mono hsees hget _ _ e2, tkL_mono (γ := γ) (γ' := { γ with bx := γ.bx ++ [w.heap.size] }) (dead := []) (dead' := []) (fun _ x => x) (fun _ x => x) (fun k _ _ => .inr rfl) e3⟩, e4, e5⟩
          · exact .inr (g.keep (Nat.le_refl _) hlow.size fun b2 o ho2 _ => (hlow.block b2 (heap_lt_of ho2)).trans ho2)
        · have hie : i = h.length := by
            have := (List.getElem?_eq_some_iff.1 hi).1
            simp at this
            omega
          subst hie
          rw [List.getElem?_append_right (Nat.le_refl _), Nat.sub_self] at hi
          simp only at hb
          rw [hh.len, List.getElem?_append_right (Nat.le_refl _), Nat.sub_self] at hb
          simp only [List.getElem?_cons_zero, Option.some.injEq] at hi hb
          subst hi hb
          exact .inr ⟨hbase, by omega, .inr ⟨_, rfl, hs⟩⟩
      · refine List.nodup_append.2 ⟨hh.nodup, by simp, fun a ha b hb e => ?_⟩
        simp only [List.mem_singleton] at hb
        rw [e, hb] at ha
        exact hnb ha
      · obtain ⟨o1, o2⟩ := ho.own kk hd hk
        refine ⟨o1, fun hc => ?_⟩
        obtain ⟨b, arr, ty, a1, a2, a3, a4, a5, a6⟩ := o2 hc
        refine ⟨b, arr, ty, a1, (hlow.block b (heap_lt_of a2)).trans a2, a3, a4, a5, fun hm => ?_⟩
        rcases List.mem_append.1 hm with q | q
        · exact a6 q
        · simp only [List.mem_singleton] at q
          rw [q] at a2
          exact absurd (heap_lt_of a2) (Nat.lt_irrefl _)
      · simp only [rdR, rdD]
        exact ⟨w.heap.size, by rw [hh.len, List.getElem?_append_right (Nat.le_refl _), Nat.sub_self]; rfl, rfl⟩
    · cases hr
  | false =>
  cases h10 : Nat.beq 10 g with
  | true =>
    obtain rfl := nbeq.1 h10
    simp only [h9, h10, cond_true, cond_false] at hr
    split at hr
    · rename_i i x0
      obtain ⟨x, hx0⟩ : ∃ z : Int, z = x0 := ⟨x0, rfl⟩
      subst hx0
      split at hr
      · rename_i cs hbx
        have hi := boxSem_some hbx
        refine ⟨⟨_, Try.func10, rfl⟩, fun γ w vs hrd htk hh ho hf hbase => ?_⟩
        obtain ⟨b, hb, rfl⟩ := args2 hrd
        obtain ⟨hbb, hs⟩ := sem_at hh hi hb
        simp only [semSignal, Option.bind_some, semSignalL] at hr
        by_cases hin : 0 ≤ x ∧ x < 8
        · rw [show semIn x = true from decide_eq_true hin] at hr
          obtain ⟨j, rfl⟩ : ∃ j : Nat, x = (j : Int) := ⟨x.toNat, by omega⟩
          rw [gt_int] at hr
          refine (signal_in b j cs w hs (by omega)).mono fun e w' he => ?_
          rcases he with ⟨rfl, h0, rfl⟩ | ⟨rfl, buf, s, r, ⟨h1, h2⟩, rfl⟩
          · rw [show (cs.getD j 0 == 15) = true by simpa using h0] at hr
            exact sem_ends hh ho hf hbase hi hb hs rfl (Below.refl _ _) (fun _ _ => rfl) hr
          · obtain ⟨b0, _, _, q1, q2, q3⟩ := hs.2.2 j (by omega)
            by_cases h15 : cs.getD j 0 = 15
            · omega
            · rw [show (cs.getD j 0 == 15) = false by simpa using h15] at hr
              have hs2 := sem_set (buf := buf) (s := s) (r := r) hs (j := j) (by omega) h2
              rw [h1] at hs2
              exact sem_ends hh ho hf hbase hi hb hs2 (Go.Conc.size_setChan _ _ _ _ _ _ _ _) (Go.Conc.below_setChan (Below.refl _ _) (by omega) _ _ _ _ _ _) (fun b2 hb2 => setChan_other _ (hb2 j (by omega)) _ _ _ _ _ _) hr
        · rw [show semIn x = false from decide_eq_false hin] at hr
          refine (signal_out b x w hin).mono fun e w' he => ?_
          obtain ⟨rfl, rfl⟩ := he
          exact sem_ends hh ho hf hbase hi hb hs rfl (Below.refl _ _) (fun _ _ => rfl) hr
      · cases hr
    · cases hr
  | false =>
  cases h11 : Nat.beq 11 g with
  | true =>
    obtain rfl := nbeq.1 h11
    simp only [h9, h10, h11, cond_true, cond_false] at hr
    split at hr
    · rename_i i x0
      obtain ⟨x, hx0⟩ : ∃ z : Int, z = x0 := ⟨x0, rfl⟩
      subst hx0
      split at hr
      · rename_i cs hbx
        have hi := boxSem_some hbx
        refine ⟨⟨_, Try.func11, rfl⟩, fun γ w vs hrd htk hh ho hf hbase => ?_⟩
        obtain ⟨b, hb, rfl⟩ := args2 hrd
        obtain ⟨hbb, hs⟩ := sem_at hh hi hb
        simp only [semWait, Option.bind_some, semWaitL] at hr
        by_cases hin : 0 ≤ x ∧ x < 8
        · rw [show semIn x = true from decide_eq_true hin] at hr
          obtain ⟨j, rfl⟩ : ∃ j : Nat, x = (j : Int) := ⟨x.toNat, by omega⟩
          rw [gt_int] at hr
          refine (wait_in b j cs w hs (by omega)).mono fun e w' he => ?_
          rcases he with ⟨rfl, h0, rfl⟩ | ⟨rfl, buf, s, r, h1, rfl⟩
          · rw [show (cs.getD j 0 == 0) = true by simpa using h0] at hr
            exact sem_ends hh ho hf hbase hi hb hs rfl (Below.refl _ _) (fun _ _ => rfl) hr
          · obtain ⟨b0, _, _, q1, q2, q3⟩ := hs.2.2 j (by omega)
            by_cases h15 : cs.getD j 0 = 0
            · omega
            · rw [show (cs.getD j 0 == 0) = false by simpa using h15] at hr
              have hs2 := sem_set (buf := buf) (s := s) (r := r) hs (j := j) (by omega) (by omega)
              rw [show (buf.size : Int) = cs.getD j 0 - 1 by omega] at hs2
              exact sem_ends hh ho hf hbase hi hb hs2 (Go.Conc.size_setChan _ _ _ _ _ _ _ _) (Go.Conc.below_setChan (Below.refl _ _) (by omega) _ _ _ _ _ _) (fun b2 hb2 => setChan_other _ (hb2 j (by omega)) _ _ _ _ _ _) hr
        · rw [show semIn x = false from decide_eq_false hin] at hr
          refine (wait_out b x w hin).mono fun e w' he => ?_
          obtain ⟨rfl, rfl⟩ := he
          exact sem_ends hh ho hf hbase hi hb hs rfl (Below.refl _ _) (fun _ _ => rfl) hr
      · cases hr
    · cases hr
  | false =>
  cases h12 : Nat.beq 12 g with
  | true =>
    obtain rfl := nbeq.1 h12
    simp only [h9, h10, h11, h12, cond_true, cond_false] at hr
    split at hr
    · rename_i i x0
      obtain ⟨x, hx0⟩ : ∃ z : Int, z = x0 := ⟨x0, rfl⟩
      subst hx0
      split at hr
      · rename_i cs hbx
        have hi := boxSem_some hbx
        refine ⟨⟨_, Try.func12, rfl⟩, fun γ w vs hrd htk hh ho hf hbase => ?_⟩
        obtain ⟨b, hb, rfl⟩ := args2 hrd
        obtain ⟨hbb, hs⟩ := sem_at hh hi hb
        simp only [semCount, Option.bind_some] at hr
        have done : ∀ n : Int, k (.one (.g (.int .i64) n)) h = some res → EndsOK k res γ w (.returned (.int .i64 n)) w := fun n hk => ⟨_, _, _, γ, rfl, hk, Ext.refl _ _, hh, ho, hf, hbase, by simp only [rdR, rdD, rdT], by simp only [tkR, tkD], fun _ _ x => x⟩
        by_cases hin : 0 ≤ x ∧ x < 8
        · rw [show semIn x = true from decide_eq_true hin] at hr
          obtain ⟨j, rfl⟩ : ∃ j : Nat, x = (j : Int) := ⟨x.toNat, by omega⟩
          rw [gt_int] at hr
          refine (count_in b j cs w hs (by omega)).mono fun e w' he => ?_
          obtain ⟨rfl, rfl⟩ := he
          exact done _ hr
        · rw [show semIn x = false from decide_eq_false hin] at hr
          refine (count_out b x w hin).mono fun e w' he => ?_
          obtain ⟨rfl, rfl⟩ := he
          exact done _ hr
      · cases hr
    · cases hr
  | false =>
  cases h14 : Nat.beq 14 g with
  | true =>
    obtain rfl := nbeq.1 h14
    simp only [h9, h10, h11, h12, h14, cond_true, cond_false] at hr
    split at hr
    · rename_i i
      split at hr
      · rename_i cs hbx
        have hi := boxSem_some hbx
        refine ⟨⟨_, Try.func14, rfl⟩, fun γ w vs hrd htk hh ho hf hbase => ?_⟩
        obtain ⟨b, hb, rfl⟩ : ∃ b, γ.bx[i]? = some b ∧ vs = [.pointer (some ⟨b, 0, none⟩)] := by
          cases vs with
          | nil => simp only [rdRs] at hrd
          | cons v vs =>
            cases vs with
            | nil =>
              simp only [rdRs, rdR, rdD] at hrd
              obtain ⟨⟨b, h1, rfl⟩, _⟩ := hrd
              exact ⟨b, h1, rfl⟩
            | cons _ _ => simp only [rdRs] at hrd; exact hrd.2.elim
        obtain ⟨hbb, hs⟩ := sem_at hh hi hb
        simp only [semAll, Option.bind_some] at hr
        refine (all_walk b cs w hs).mono fun e w' he => ?_
        obtain ⟨v, rfl, hlow, hown⟩ := he
        have hsees : Sees γ w γ w' := ⟨fun b i u h1 h2 => ⟨(cell_block (hlow.block b (cell_lt h2))).trans h2, h1⟩⟩
        refine ⟨_, _, _, γ, rfl, hr, ⟨fun _ _ _ x => x, rfl, hlow.size, hsees.cells, hlow.mono hbase, fun _ _ => rfl, rfl⟩, ⟨hh.len, fun i ds b hi hb => ?_, hh.nodup⟩, ⟨fun kk hd hk => ?_, ho.inj⟩, fun b hb => hf b (by have := hlow.size; omega), by have := hlow.size; omega, ?_, by simp only [tkR, tkD], fun _ _ x => x⟩
        · rcases hh.box i ds b hi hb with ⟨⟨arr, ty, e1, e2, e3⟩, e4, e5⟩ | g
          · exact .inl ⟨⟨arr, ty, (hlow.block b (heap_lt_of e1)).trans e1, rdL_mono hsees (fun _ _ x => x) _ _ e2, e3⟩, e4, e5⟩
          · exact .inr (g.keep (Nat.le_refl _) hlow.size fun b2 o ho2 _ => (hlow.block b2 (heap_lt_of ho2)).trans ho2)
        · obtain ⟨o1, o2⟩ := ho.own kk hd hk
          refine ⟨o1, fun hc => ?_⟩
          obtain ⟨b2, arr, ty, a1, a2, a3, a4, a5, a6⟩ := o2 hc
          exact ⟨b2, arr, ty, a1, (hlow.block b2 (heap_lt_of a2)).trans a2, a3, a4, a5, a6⟩
        · obtain ⟨q1, q2⟩ := hown
          rcases q2 with ⟨_, q2⟩ | ⟨g, cap, cur, rfl, hg, hcur, hn, hcap, hsz, htk⟩
          · cases q2
          · have hl8 : cs.length = 8 := hs.1
            simp only [rdR, rdD, rdT]
            refine ⟨some ⟨g, 0, none⟩, cap, by rw [hl8], by omega, fun i hi => ⟨g, 0, rfl, ?_⟩⟩
            have hcell : w'.cell? ⟨g, 0 + i * 1, none⟩ = some (.int .i64 (cs[i]'hi)) := by
              simp only [World.cell?, hcur]
              have e1 : (cur.toList.take 8)[i]? = (cs.map (Value.int .i64))[i]? := by rw [← htk]
              rw [List.getElem?_take, if_pos (by omega), List.getElem?_map, List.getElem?_eq_getElem hi] at e1
              rw [show 0 + i * 1 = i by omega, ← Array.getElem?_toList]
              exact e1
            refine ⟨_, hcell, ?_, rfl⟩
            simp only [Gh.may, hf g (by omega)]
      · cases hr
    · cases hr
  | false =>
    simp only [h9, h10, h11, h12, h14, cond_false, reduceCtorEq] at hr
end Go.V.P
