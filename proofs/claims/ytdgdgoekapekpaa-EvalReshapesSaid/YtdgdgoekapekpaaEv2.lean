/- What functions compute. -/
import Derived.Test.YtdgdgoekapekpaaEv1
namespace Go.V.P
open Go.RowKit Go.V Go.Proofs
set_option linter.unusedVariables false
set_option maxRecDepth 100000
section
variable {α : Type} (g_ : Graph) (y60 : ((List I4) × Int)) (s347 : ((List I4) × Int × Int)) (y353 : ((List I4) × Bool)) (y354 : (I4 × Int)) (y355 : Int) (y356 : ((List I4) × Int × Int)) (k : St → Option α) (q : Kont α)
noncomputable abbrev C37 := codeOf E.P 19
noncomputable abbrev P37 := @preK α E 19 cp37 noE
noncomputable abbrev R37 := @runCode α E 19 cp37 noE
abbrev S37_0 : St := ⟨[(1, rC a01 g_), (4, rO tsI4 y60.1 4), (5, ri y60.2)], [], [], 70⟩
theorem c5d : P37 2 C37 ⟨[(0, rA a01 g_)], [], [], 70⟩ k = Option.bind (a70 g_) fun y60 : ((List I4) × Int) => k (S37_0 g_ y60) := by kernel_rfl
theorem b54 : P37 1 C37.r.r.l (S37_0 g_ y60) k = k ⟨[(1, rC a01 g_), (4, rO tsI4 y60.1 4), (5, ri y60.2), (21, rb (y60.2 != 0))], [], [], 70⟩ := by kernel_rfl
theorem c5a : P37 1 C37.r.r.l.r.t (S37_0 g_ y60) k = k ⟨[(2, .one (.ow tsI4 [] (.v 2))), (3, ri y60.2)], [], [], 70⟩ := by kernel_rfl
abbrev S37_1 : St := ⟨[(1, rC a01 g_), (4, rO tsI4 y60.1 4)], [], [], 70⟩
abbrev S37_2 : St := ⟨[(1, rC a01 g_), (4, rO tsI4 y60.1 4), (6, ri 0)], [], [], 70⟩
theorem c58 : P37 1 C37.r.r.r (S37_1 g_ y60) k = k (S37_2 g_ y60) := by kernel_rfl
abbrev S37_3 : St := ⟨[(1, rC a01 g_), (4, rO tsI4 y60.1 4), (6, ri 0), (24, rl a00 g_.2.1), (25, ri (g_.2.1.length : Int)), (26, ri 0)], [], [], 70⟩
theorem c59 : P37 1 C37.r.r.r.r.l (S37_2 g_ y60) k = k (S37_3 g_ y60) := by kernel_rfl
abbrev S37_4 : St := ⟨[(1, rC a01 g_), (4, rO tsI4 s347.1 4), (6, ri s347.2.1), (24, rl a00 g_.2.1), (25, ri (g_.2.1.length : Int)), (26, ri s347.2.2)], [], [], 70⟩
theorem b9r : P37 1 C37.r.r.r.r.l.r.b.b (S37_4 g_ s347) k = k ⟨[(1, rC a01 g_), (4, rO tsI4 s347.1 4), (6, ri s347.2.1), (24, rl a00 g_.2.1), (25, ri (g_.2.1.length : Int)), (26, ri s347.2.2), (27, rb (decide (s347.2.2 < (g_.2.1.length : Int))))], [], [], 70⟩ := by kernel_rfl
def a9r : Option Unit := (bif (decide ((0 : Int) ≤ s347.2.2)) then (bif (decide (s347.2.2 < (g_.2.1.length : Int))) then (some ()) else none) else none)
abbrev S37_5 : St := ⟨[(1, rC a01 g_), (4, rO tsI4 s347.1 4), (6, ri s347.2.1), (8, rF 0), (24, rl a00 g_.2.1), (25, ri (g_.2.1.length : Int)), (26, ri s347.2.2)], [(a00.leaves (gt g_.2.1 s347.2.2 dNode))], [], 70⟩
theorem c5e : P37 1 C37.r.r.r.r.l.r.b.b.r.r.l.b (S37_4 g_ s347) k = Option.bind (a9r g_ s347) (fun y352 : Unit => k (S37_5 g_ s347)) := .trans (by kernel_rfl) (bif_b (bif_b some_b none_b) none_b)
abbrev S37_6 : St := ⟨[(1, rC a01 g_), (4, rO tsI4 s347.1 4), (6, ri s347.2.1), (8, rF 0), (9, rO tsI4 y353.1 9), (10, rb y353.2), (24, rl a00 g_.2.1), (25, ri (g_.2.1.length : Int)), (26, ri s347.2.2)], [(a00.leaves (gt g_.2.1 s347.2.2 dNode))], [], 70⟩
theorem c5f : P37 1 C37.r.r.r.r.l.r.b.b.r.r.l.b.r (S37_5 g_ s347) k = Option.bind (a2u s347.1 ((gt g_.2.1 s347.2.2 dNode).2.1)) fun y353 : ((List I4) × Bool) => k (S37_6 g_ s347 y353) := by kernel_rfl
theorem b55 : P37 1 C37.r.r.r.r.l.r.b.b.r.r.l.b.r.r.l (S37_6 g_ s347 y353) k = k ⟨[(1, rC a01 g_), (4, rO tsI4 s347.1 4), (6, ri s347.2.1), (8, rF 0), (9, rO tsI4 y353.1 9), (24, rl a00 g_.2.1), (25, ri (g_.2.1.length : Int)), (26, ri s347.2.2), (38, rb (!y353.2))], [(a00.leaves (gt g_.2.1 s347.2.2 dNode))], [], 70⟩ := by kernel_rfl
abbrev S37_7 : St := ⟨[(1, rC a01 g_), (4, rO tsI4 s347.1 4), (6, ri s347.2.1), (8, rF 0), (9, rO tsI4 y353.1 9), (24, rl a00 g_.2.1), (25, ri (g_.2.1.length : Int)), (26, ri s347.2.2)], [(a00.leaves (gt g_.2.1 s347.2.2 dNode))], [], 70⟩
abbrev S37_8 : St := ⟨[(2, .one (.ow tsI4 [] (.v 2))), (3, ri 13)], [[]], [], 70⟩
theorem b9s : P37 1 C37.r.r.r.r.l.r.b.b.r.r.l.b.r.r.l.r.t (S37_7 g_ s347 y353) k = k S37_8 := by kernel_rfl
abbrev S37_9 : St := ⟨[(1, rC a01 g_), (4, rO tsI4 s347.1 4), (6, ri s347.2.1), (8, rF 0), (11, rF 1), (12, ri y354.2), (24, rl a00 g_.2.1), (25, ri (g_.2.1.length : Int)), (26, ri s347.2.2)], [(a00.leaves (gt g_.2.1 s347.2.2 dNode)), (tsI4.leaves y354.1)], [], 70⟩
theorem c2c : P37 1 C37.r.r.r.r.l.r.b.b.r.r.l.b.r.r.r (S37_7 g_ s347 y353) k = Option.bind (a1d (gt g_.2.1 s347.2.2 dNode) y353.1) fun y354 : (I4 × Int) => k (S37_9 g_ s347 y354) := by kernel_rfl
theorem b56 : P37 1 C37.r.r.r.r.l.r.b.b.r.r.l.b.r.r.r.r.l (S37_9 g_ s347 y354) k = k ⟨[(1, rC a01 g_), (4, rO tsI4 s347.1 4), (6, ri s347.2.1), (8, rF 0), (11, rF 1), (12, ri y354.2), (24, rl a00 g_.2.1), (25, ri (g_.2.1.length : Int)), (26, ri s347.2.2), (46, rb (y354.2 != 0))], [(a00.leaves (gt g_.2.1 s347.2.2 dNode)), (tsI4.leaves y354.1)], [], 70⟩ := by kernel_rfl
theorem b9t : P37 1 C37.r.r.r.r.l.r.b.b.r.r.l.b.r.r.r.r.l.r.t (S37_9 g_ s347 y354) k = k ⟨[(2, .one (.ow tsI4 [] (.v 2))), (3, ri y354.2)], [[], []], [], 70⟩ := by kernel_rfl
def a8w : Option Int := (bif (decide (s347.1.length + ([y354.1] : List I4).length ≤ maxL)) then (some (IntKind.wrap .i64 (s347.2.1 + (((gt g_.2.1 s347.2.2 dNode).2.2.2.2.2.2.2.2.2.2.2.2.1).length : Int)))) else none)
abbrev e2g : St := ⟨[(1, rC a01 g_), (4, rO tsI4 s347.1 4), (6, ri s347.2.1), (8, rF 0), (11, rF 1), (24, rl a00 g_.2.1), (25, ri (g_.2.1.length : Int)), (26, ri s347.2.2)], [(a00.leaves (gt g_.2.1 s347.2.2 dNode)), (tsI4.leaves y354.1)], [], 70⟩
abbrev d6j : St := ⟨[(1, rC a01 g_), (4, .one (.ow tsI4 (s347.1 ++ [y354.1]) (.v 4))), (6, ri y355), (24, rl a00 g_.2.1), (25, ri (g_.2.1.length : Int)), (26, ri s347.2.2)], [[], []], [], 70⟩
theorem c2d : R37 C37.r.r.r.r.l.r.b.b.r.r.l.b.r.r.r.r.r (e2g g_ s347 y354) q = Option.bind (a8w g_ s347 y354) (fun y355 : Int => q .normal (d6j g_ s347 y354 y355)) := .trans (by kernel_rfl) (bif_b some_b none_b)
theorem c2e : R37 C37.r.r.r.r.l.r.b.b.r.r.r (d6j g_ s347 y354 y355) q = q .normal ⟨[(1, rC a01 g_), (4, .one (.ow tsI4 (s347.1 ++ [y354.1]) (.v 4))), (6, ri y355), (24, rl a00 g_.2.1), (25, ri (g_.2.1.length : Int)), (26, ri (IntKind.wrap .i64 (s347.2.2 + 1)))], [[], []], [], 70⟩ := by kernel_rfl
def a59 : Option (((List I4) × Int × Int) ⊕ (((List I4) × Int × Int) ⊕ (Unit ⊕ Int))) := (bif (decide (s347.2.2 < (g_.2.1.length : Int))) then (Option.bind (a9r g_ s347) (fun y352 : Unit => (Option.bind (a2u s347.1 ((gt g_.2.1 s347.2.2 dNode).2.1)) (fun y353 : ((List I4) × Bool) => (bif (!y353.2) then (some (Sum.inr (Sum.inr (Sum.inl ())))) else (Option.bind (a1d (gt g_.2.1 s347.2.2 dNode) y353.1) (fun y354 : (I4 × Int) => (bif (y354.2 != 0) then (some (Sum.inr (Sum.inr (Sum.inr y354.2)))) else (Option.bind (a8w g_ s347 y354) (fun y355 : Int => (some (Sum.inl ((s347.1 ++ [y354.1]), y355, (IntKind.wrap .i64 (s347.2.2 + 1))))))))))))))) else (some (Sum.inr (Sum.inl s347))))
abbrev d6k : St := ⟨[(1, rC a01 g_), (4, rO tsI4 y356.1 4), (6, ri y356.2.1), (24, rl a00 g_.2.1), (25, ri (g_.2.1.length : Int)), (26, ri y356.2.2)], [], [], 70⟩
abbrev d6l (y358 : Int) : St := ⟨[(2, .one (.ow tsI4 [] (.v 2))), (3, ri y358)], [[], []], [], 70⟩
theorem b9x : R37 C37.r.r.r.r.l.r.b.b (S37_4 g_ s347) (loopKont 0 q) = Option.bind (a59 g_ s347) (either (fun y : ((List I4) × Int × Int) => q .normal ⟨[(1, rC a01 g_), (4, rO tsI4 y.1 4), (6, ri y.2.1), (24, rl a00 g_.2.1), (25, ri (g_.2.1.length : Int)), (26, ri y.2.2)], [], [], 70⟩) (either (fun y356 : ((List I4) × Int × Int) => q (.exit 0) (d6k g_ y356)) (either (fun y357 : Unit => q .ret S37_8) (fun y358 : Int => q .ret (d6l y358))))) := by
  refine .trans ?_ (bif_b (bind_b fun y352 => (bind_b fun y353 => (bif_b e4_2 (bind_b fun y354 => (bif_b e4_3 (bind_b fun y355 => e4_0)))))) e4_1)
  refine (pre1 (b9r g_ s347 _)).trans ?_
  refine .trans seq_push ?_
  refine (cond_e (b := (decide (s347.2.2 < (g_.2.1.length : Int)))) (st' := (S37_4 g_ s347)) ).trans (bif_g ?_ ?_)
  · refine (skip_eq).trans ?_
    refine (seqC_normal (st' := (S37_4 g_ s347))).trans ?_
    refine .trans seq_push ?_
    refine (block_push (id := 1)).trans ?_
    refine (pre1 (c5e g_ s347 _)).trans (bind_g fun y352 => ?_)
    refine (pre1 (c5f g_ s347 _)).trans (bind_g fun y353 => ?_)
    refine .trans seq_push ?_
    refine (pre1 (b55 g_ s347 y353 _)).trans ?_
    refine (cond_e (b := (!y353.2)) (st' := (S37_7 g_ s347 y353)) ).trans (bif_g ?_ ?_)
    · refine (pre1 (b9s g_ s347 y353 _)).trans ?_
      refine (ret_eq).trans ?_
      refine seqC_ret.trans ?_
      refine block_ret.trans ?_
      refine seqC_ret.trans ?_
      kernel_rfl
    · refine (skip_eq).trans ?_
      refine (seqC_normal (st' := (S37_7 g_ s347 y353))).trans ?_
      refine (pre1 (c2c g_ s347 y353 _)).trans (bind_g fun y354 => ?_)
      refine .trans seq_push ?_
      refine (pre1 (b56 g_ s347 y354 _)).trans ?_
      refine (cond_e (b := (y354.2 != 0)) (st' := (S37_9 g_ s347 y354)) ).trans (bif_g ?_ ?_)
      · refine (pre1 (b9t g_ s347 y354 _)).trans ?_
        refine (ret_eq).trans ?_
        refine seqC_ret.trans ?_
        refine block_ret.trans ?_
        refine seqC_ret.trans ?_
        kernel_rfl
      · refine (skip_eq).trans ?_
        refine (seqC_normal (st' := (e2g g_ s347 y354))).trans ?_
        refine (c2d g_ s347 y354 _).trans (bind_g fun y355 => ?_)
        refine block_normal.trans ?_
        refine (seqC_normal (st' := (d6j g_ s347 y354 y355))).trans ?_
        refine (c2e g_ s347 y354 y355 _).trans ?_
        kernel_rfl
  · refine ((exit_eq (j := 0))).trans ?_
    refine seqC_exit.trans ?_
    kernel_rfl
theorem c5c : R37 C37.r.r.r.r.l.r.b (S37_3 g_ y60) q = Option.bind (iterN (a59 g_) LL (y60.1, (0 : Int), (0 : Int))) (either (fun y356 : ((List I4) × Int × Int) => q (.exit 0) (d6k g_ y356)) (either (fun y357 : Unit => q .ret S37_8) (fun y358 : Int => q .ret (d6l y358)))) :=
  Eq.trans (by kernel_rfl) (loop_iter3 (S := fun s347 : ((List I4) × Int × Int) => (S37_4 g_ s347)) (Y1 := fun y356 : ((List I4) × Int × Int) => ((.exit 0), (d6k g_ y356))) (Y2 := fun y357 : Unit => (.ret, S37_8)) (Y3 := fun y358 : Int => (.ret, (d6l y358))) (fun s q => b9x g_ s q) (fun z => rfl) (fun z => rfl) (fun z => rfl) LL (y60.1, (0 : Int), (0 : Int)))
abbrev e2h : St := ⟨[(1, rC a01 g_), (4, rO tsI4 y356.1 4), (6, ri y356.2.1)], [], [], 70⟩
theorem b57 : P37 1 C37.r.r.r.r.r.l (e2h g_ y356) k = k ⟨[(1, rC a01 g_), (4, rO tsI4 y356.1 4), (59, rb (decide (y356.2.1 > 4096)))], [], [], 70⟩ := by kernel_rfl
abbrev c4u : St := ⟨[(1, rC a01 g_), (4, rO tsI4 y356.1 4)], [], [], 70⟩
theorem b9u : P37 1 C37.r.r.r.r.r.l.r.t (c4u g_ y356) k = k ⟨[(2, .one (.ow tsI4 [] (.v 2))), (3, ri 3)], [], [], 70⟩ := by kernel_rfl
theorem c2f : P37 1 C37.r.r.r.r.r.r.l (c4u g_ y356) k = Option.bind (a2u y356.1 g_.2.2) fun y360 : ((List I4) × Bool) => k ⟨[(4, rO tsI4 y356.1 4), (14, rb y360.2)], [], [], 70⟩ := by kernel_rfl
theorem b58 (y360 : ((List I4) × Bool)) (k : St → Option α) : P37 1 C37.r.r.r.r.r.r.l.r ⟨[(4, rO tsI4 y356.1 4), (14, rb y360.2)], [], [], 70⟩ k = k ⟨[(4, rO tsI4 y356.1 4), (68, rb (!y360.2))], [], [], 70⟩ := by kernel_rfl
abbrev c4v : St := ⟨[(4, rO tsI4 y356.1 4)], [], [], 70⟩
theorem b9v : P37 1 C37.r.r.r.r.r.r.l.r.r.t (c4v y356) k = k ⟨[(2, .one (.ow tsI4 [] (.v 2))), (3, ri 13)], [], [], 70⟩ := by kernel_rfl
theorem b9w : P37 1 C37.r.r.r.r.r.r.r (c4v y356) k = k ⟨[(2, rO tsI4 y356.1 4), (3, ri 0)], [], [], 70⟩ := by kernel_rfl
/-- quilt/graph.Values -/
def a6y : Option ((List I4) × Int) := (Option.bind (a70 g_) (fun y60 : ((List I4) × Int) => (bif (y60.2 != 0) then (some ([], y60.2)) else (Option.bind (iterN (a59 g_) LL (y60.1, (0 : Int), (0 : Int))) (either (fun y356 : ((List I4) × Int × Int) => (bif (decide (y356.2.1 > 4096)) then (some ([], (3 : Int))) else (Option.bind (a2u y356.1 g_.2.2) (fun y360 : ((List I4) × Bool) => (bif (!y360.2) then (some ([], (13 : Int))) else (some (y356.1, (0 : Int)))))))) (either (fun y357 : Unit => (some ([], (13 : Int)))) (fun y358 : Int => (some ([], y358)))))))))
theorem c5b : stepO E cp37 noE 19 [rA a01 g_] = Option.bind (a6y g_) (fun y : ((List I4) × Int) => some (.tup [.one (.ow tsI4 y.1 (.s 0)), ri y.2] : R)) := by
  refine .trans ?_ (bind_b fun y60 => (bif_b some_b (bind_b (either_b (fun y356 => (bif_b some_b (bind_b fun y360 => (bif_b some_b some_b)))) (either_b (fun y357 => some_b) (fun y358 => some_b))))))
  refine (stepG_is (nt := 70) (regs := [(0, rA a01 g_)])).trans ?_
  refine (pre2 (c5d g_ _)).trans (bind_g fun y60 => ?_)
  refine .trans seq_push ?_
  refine (pre1 (b54 g_ y60 _)).trans ?_
  refine (cond_e (b := (y60.2 != 0)) (st' := (S37_0 g_ y60)) ).trans (bif_g ?_ ?_)
  · refine (pre1 (c5a g_ y60 _)).trans ?_
    refine (ret_eq).trans ?_
    refine seqC_ret.trans ?_
    kernel_rfl
  · refine (skip_eq).trans ?_
    refine (seqC_normal (st' := (S37_1 g_ y60))).trans ?_
    refine (pre1 (c58 g_ y60 _)).trans ?_
    refine .trans seq_push ?_
    refine (pre1 (c59 g_ y60 _)).trans ?_
    refine (block_push (id := 0)).trans ?_
    refine (c5c g_ y60 _).trans (bind_g (either_g (fun y356 => ?_) (either_g (fun y357 => ?_) (fun y358 => ?_))))
    · refine block_same.trans ?_
      refine (seqC_normal (st' := (e2h g_ y356))).trans ?_
      refine .trans seq_push ?_
      refine (pre1 (b57 g_ y356 _)).trans ?_
      refine (cond_e (b := (decide (y356.2.1 > 4096))) (st' := (c4u g_ y356)) ).trans (bif_g ?_ ?_)
      · refine (pre1 (b9u g_ y356 _)).trans ?_
        refine (ret_eq).trans ?_
        refine seqC_ret.trans ?_
        kernel_rfl
      · refine (skip_eq).trans ?_
        refine (seqC_normal (st' := (c4u g_ y356))).trans ?_
        refine .trans seq_push ?_
        refine (pre1 (c2f g_ y356 _)).trans (bind_g fun y360 => ?_)
        refine (pre1 (b58 y356 y360 _)).trans ?_
        refine (cond_e (b := (!y360.2)) (st' := (c4v y356)) ).trans (bif_g ?_ ?_)
        · refine (pre1 (b9v y356 _)).trans ?_
          refine (ret_eq).trans ?_
          refine seqC_ret.trans ?_
          kernel_rfl
        · refine (skip_eq).trans ?_
          refine (seqC_normal (st' := (c4v y356))).trans ?_
          refine (pre1 (b9w y356 _)).trans ?_
          refine (ret_eq).trans ?_
          kernel_rfl
    · refine block_ret.trans ?_
      refine seqC_ret.trans ?_
      kernel_rfl
    · refine block_ret.trans ?_
      refine seqC_ret.trans ?_
      kernel_rfl
noncomputable def cp38 : CallP := withC cp37 19 [(.agg a01)] (.tup [(.one (.ow tsI4)), pI]) (fun y : ((List I4) × Int) => (y.1, y.2, ())) (fun x => a6y x.1)
theorem e4u : PureOK E cp38 := conO eok e4t noE_ok fun x => Eq.mp (by kernel_rfl) (c5b x.1)
end
section
variable {α : Type} (v_ : I4) (l_ : (List Int)) (k : St → Option α)
noncomputable abbrev C38 := codeOf E.P 31
noncomputable abbrev P38 := @preK α E 31 cp38 noE
theorem c8w : P38 2 C38 ⟨[(0, rA tsI4 v_), (1, rl (.one (.int .i8)) l_)], [], [], 11⟩ k = Option.bind (a1s (v_.1, v_.2.1, v_.2.2.1)) fun y365 : Int => k ⟨[(4, rb (y365 == (l_.length : Int)))], [], [], 11⟩ := by kernel_rfl
/-- quilt/eval.fits$1 -/
def a8n : Option Bool := (Option.bind (a1s (v_.1, v_.2.1, v_.2.2.1)) (fun y365 : Int => (some (y365 == (l_.length : Int)))))
theorem c8v : stepS E cp38 noE 31 [rA tsI4 v_, rl (.one (.int .i8)) l_] = Option.bind (a8n v_ l_) (fun y : Bool => some (rb y : R)) := by
  refine .trans ?_ (bind_b fun y365 => some_b)
  refine (stepG_is (nt := 11) (regs := [(0, rA tsI4 v_), (1, rl (.one (.int .i8)) l_)])).trans ?_
  refine (pre2 (c8w v_ l_ _)).trans (bind_g fun y365 => ?_)
  refine (ret_eq).trans ?_
  kernel_rfl
noncomputable def cp39 : CallP := withC cp38 31 [(.agg tsI4), (.one (.g (.sl (.one (.int .i8)))))] (.one pB) (fun y : Bool => y) (fun x => a8n x.1 x.2.1)
theorem e4v : PureOK E cp39 := conS eok e4u noE_ok fun x => Eq.mp (by kernel_rfl) (c8v x.1 x.2.1)
end
section
variable {α : Type} (s1_ : (List I4)) (s2_ : (List (List Int))) (s386 : Int) (k : St → Option α) (q : Kont α)
noncomputable abbrev C39 := codeOf E.P 30
noncomputable abbrev P39 := @preK α E 30 cp39 noE
noncomputable abbrev R39 := @runCode α E 30 cp39 noE
abbrev S39_0 : St := ⟨[(0, rl tsI4 s1_), (1, rl (.one (.sl (.one (.int .i8)))) s2_), (2, .one (.fn 31 []))], [], [], 32⟩
theorem a20 : P39 1 C39 (S39_0 s1_ s2_) k = k (S39_0 s1_ s2_) := by kernel_rfl
theorem a1m : P39 1 C39.r.l (S39_0 s1_ s2_) k = k ⟨[(0, rl tsI4 s1_), (1, rl (.one (.sl (.one (.int .i8)))) s2_), (2, .one (.fn 31 [])), (14, rb ((s1_.length : Int) != (s2_.length : Int)))], [], [], 32⟩ := by kernel_rfl
theorem a22 : P39 1 C39.r.l.r.t (S39_0 s1_ s2_) k = k ⟨[(6, rb false)], [], [], 32⟩ := by kernel_rfl
abbrev S39_1 : St := ⟨[(1, rl (.one (.sl (.one (.int .i8)))) s2_), (2, .one (.fn 31 [])), (15, rl tsI4 s1_), (16, ri (s1_.length : Int)), (17, ri 0)], [], [], 32⟩
theorem a21 : P39 1 C39.r.r.l (S39_0 s1_ s2_) k = k (S39_1 s1_ s2_) := by kernel_rfl
abbrev S39_2 : St := ⟨[(1, rl (.one (.sl (.one (.int .i8)))) s2_), (2, .one (.fn 31 [])), (15, rl tsI4 s1_), (16, ri (s1_.length : Int)), (17, ri s386)], [], [], 32⟩
theorem a1t : P39 1 C39.r.r.l.r.b.b (S39_2 s1_ s2_ s386) k = k ⟨[(1, rl (.one (.sl (.one (.int .i8)))) s2_), (2, .one (.fn 31 [])), (15, rl tsI4 s1_), (16, ri (s1_.length : Int)), (17, ri s386), (18, rb (decide (s386 < (s1_.length : Int))))], [], [], 32⟩ := by kernel_rfl
def a0x : Option Unit := (bif (decide ((0 : Int) ≤ s386)) then (bif (decide (s386 < (s1_.length : Int))) then (some ()) else none) else none)
abbrev S39_3 : St := ⟨[(1, rl (.one (.sl (.one (.int .i8)))) s2_), (2, .one (.fn 31 [])), (7, ri s386), (8, rF 0), (15, rl tsI4 s1_), (16, ri (s1_.length : Int)), (17, ri s386)], [(tsI4.leaves (gt s1_ s386 dI4))], [], 32⟩
theorem a25 : P39 1 C39.r.r.l.r.b.b.r.r.l.b (S39_2 s1_ s2_ s386) k = Option.bind (a0x s1_ s386) (fun y390 : Unit => k (S39_3 s1_ s2_ s386)) := .trans (by kernel_rfl) (bif_b (bif_b some_b none_b) none_b)
def a0y : Option Unit := (bif (decide ((0 : Int) ≤ s386)) then (bif (decide (s386 < (s2_.length : Int))) then (some ()) else none) else none)
abbrev S39_4 : St := ⟨[(1, rl (.one (.sl (.one (.int .i8)))) s2_), (2, .one (.fn 31 [])), (8, rF 0), (9, rl (.one (.int .i8)) (gt s2_ s386 [])), (15, rl tsI4 s1_), (16, ri (s1_.length : Int)), (17, ri s386)], [(tsI4.leaves (gt s1_ s386 dI4))], [], 32⟩
theorem a26 : P39 1 C39.r.r.l.r.b.b.r.r.l.b.r (S39_3 s1_ s2_ s386) k = Option.bind (a0y s2_ s386) (fun y391 : Unit => k (S39_4 s1_ s2_ s386)) := .trans (by kernel_rfl) (bif_b (bif_b some_b none_b) none_b)
theorem a27 : P39 1 C39.r.r.l.r.b.b.r.r.l.b.r.r (S39_4 s1_ s2_ s386) k = Option.bind (a8n (gt s1_ s386 dI4) (gt s2_ s386 [])) fun y392 : Bool => k ⟨[(1, rl (.one (.sl (.one (.int .i8)))) s2_), (2, .one (.fn 31 [])), (15, rl tsI4 s1_), (16, ri (s1_.length : Int)), (17, ri s386), (30, rb (!y392))], [[]], [], 32⟩ := by kernel_rfl
abbrev S39_5 : St := ⟨[(1, rl (.one (.sl (.one (.int .i8)))) s2_), (2, .one (.fn 31 [])), (15, rl tsI4 s1_), (16, ri (s1_.length : Int)), (17, ri s386)], [[]], [], 32⟩
abbrev S39_6 : St := ⟨[(6, rb false)], [[]], [], 32⟩
theorem a1u : P39 1 C39.r.r.l.r.b.b.r.r.l.b.r.r.r.t (S39_5 s1_ s2_ s386) k = k S39_6 := by kernel_rfl
theorem a28 : R39 C39.r.r.l.r.b.b.r.r.r (S39_5 s1_ s2_ s386) q = q .normal ⟨[(1, rl (.one (.sl (.one (.int .i8)))) s2_), (2, .one (.fn 31 [])), (15, rl tsI4 s1_), (16, ri (s1_.length : Int)), (17, ri (IntKind.wrap .i64 (s386 + 1)))], [[]], [], 32⟩ := by kernel_rfl
def a0k : Option (Int ⊕ (Int ⊕ Unit)) := (bif (decide (s386 < (s1_.length : Int))) then (Option.bind (a0x s1_ s386) (fun y390 : Unit => (Option.bind (a0y s2_ s386) (fun y391 : Unit => (Option.bind (a8n (gt s1_ s386 dI4) (gt s2_ s386 [])) (fun y392 : Bool => (bif (!y392) then (some (Sum.inr (Sum.inr ()))) else (some (Sum.inl (IntKind.wrap .i64 (s386 + 1))))))))))) else (some (Sum.inr (Sum.inl s386))))
abbrev S39_7 (y393 : Int) : St := ⟨[(1, rl (.one (.sl (.one (.int .i8)))) s2_), (2, .one (.fn 31 [])), (15, rl tsI4 s1_), (16, ri (s1_.length : Int)), (17, ri y393)], [], [], 32⟩
theorem a1w : R39 C39.r.r.l.r.b.b (S39_2 s1_ s2_ s386) (loopKont 0 q) = Option.bind (a0k s1_ s2_ s386) (either (fun y : Int => q .normal ⟨[(1, rl (.one (.sl (.one (.int .i8)))) s2_), (2, .one (.fn 31 [])), (15, rl tsI4 s1_), (16, ri (s1_.length : Int)), (17, ri y)], [], [], 32⟩) (either (fun y393 : Int => q (.exit 0) (S39_7 s1_ s2_ y393)) (fun y394 : Unit => q .ret S39_6))) := by
  refine .trans ?_ (bif_b (bind_b fun y390 => (bind_b fun y391 => (bind_b fun y392 => (bif_b e3_2 e3_0)))) e3_1)
  refine (pre1 (a1t s1_ s2_ s386 _)).trans ?_
  refine .trans seq_push ?_
  refine (cond_e (b := (decide (s386 < (s1_.length : Int)))) (st' := (S39_2 s1_ s2_ s386)) ).trans (bif_g ?_ ?_)
  · refine (skip_eq).trans ?_
    refine (seqC_normal (st' := (S39_2 s1_ s2_ s386))).trans ?_
    refine .trans seq_push ?_
    refine (block_push (id := 1)).trans ?_
    refine (pre1 (a25 s1_ s2_ s386 _)).trans (bind_g fun y390 => ?_)
    refine (pre1 (a26 s1_ s2_ s386 _)).trans (bind_g fun y391 => ?_)
    refine (pre1 (a27 s1_ s2_ s386 _)).trans (bind_g fun y392 => ?_)
    refine (cond_e (b := (!y392)) (st' := (S39_5 s1_ s2_ s386)) ).trans (bif_g ?_ ?_)
    · refine (pre1 (a1u s1_ s2_ s386 _)).trans ?_
      refine (ret_eq).trans ?_
      refine block_ret.trans ?_
      refine seqC_ret.trans ?_
      kernel_rfl
    · refine (skip_eq).trans ?_
      refine block_normal.trans ?_
      refine (seqC_normal (st' := (S39_5 s1_ s2_ s386))).trans ?_
      refine (a28 s1_ s2_ s386 _).trans ?_
      kernel_rfl
  · refine ((exit_eq (j := 0))).trans ?_
    refine seqC_exit.trans ?_
    kernel_rfl
theorem a24 : R39 C39.r.r.l.r.b (S39_1 s1_ s2_) q = Option.bind (iterN (a0k s1_ s2_) LL (0 : Int)) (either (fun y393 : Int => q (.exit 0) (S39_7 s1_ s2_ y393)) (fun y394 : Unit => q .ret S39_6)) :=
  Eq.trans (by kernel_rfl) (loop_iter2 (S := fun s386 : Int => (S39_2 s1_ s2_ s386)) (Y1 := fun y393 : Int => ((.exit 0), (S39_7 s1_ s2_ y393))) (Y2 := fun y394 : Unit => (.ret, S39_6)) (fun s q => a1w s1_ s2_ s q) (fun z => rfl) (fun z => rfl) LL (0 : Int))
theorem a1v : P39 1 C39.r.r.r ⟨[], [], [], 32⟩ k = k ⟨[(6, rb true)], [], [], 32⟩ := by kernel_rfl
/-- slices.EqualFunc[[]quilt/api.Value,[][]int8,quilt/api.Value,[]int8] -/
def a0f : Option Bool := (bif ((s1_.length : Int) != (s2_.length : Int)) then (some false) else (Option.bind (iterN (a0k s1_ s2_) LL (0 : Int)) (either (fun y393 : Int => (some true)) (fun y394 : Unit => (some false)))))
theorem a23 : stepS E cp39 noE 30 [rl tsI4 s1_, rl (.one (.sl (.one (.int .i8)))) s2_, .one (.fn 31 [])] = Option.bind (a0f s1_ s2_) (fun y : Bool => some (rb y : R)) := by
  refine .trans ?_ (bif_b some_b (bind_b (either_b (fun y393 => some_b) (fun y394 => some_b))))
  refine (stepG_is (nt := 32) (regs := [(0, rl tsI4 s1_), (1, rl (.one (.sl (.one (.int .i8)))) s2_), (2, .one (.fn 31 []))])).trans ?_
  refine (pre1 (a20 s1_ s2_ _)).trans ?_
  refine .trans seq_push ?_
  refine (pre1 (a1m s1_ s2_ _)).trans ?_
  refine (cond_e (b := ((s1_.length : Int) != (s2_.length : Int))) (st' := (S39_0 s1_ s2_)) ).trans (bif_g ?_ ?_)
  · refine (pre1 (a22 s1_ s2_ _)).trans ?_
    refine (ret_eq).trans ?_
    refine seqC_ret.trans ?_
    kernel_rfl
  · refine (skip_eq).trans ?_
    refine (seqC_normal (st' := (S39_0 s1_ s2_))).trans ?_
    refine .trans seq_push ?_
    refine (pre1 (a21 s1_ s2_ _)).trans ?_
    refine (block_push (id := 0)).trans ?_
    refine (a24 s1_ s2_ _).trans (bind_g (either_g (fun y393 => ?_) (fun y394 => ?_)))
    · refine block_same.trans ?_
      refine (seqC_normal (st' := ⟨[], [], [], 32⟩)).trans ?_
      refine (pre1 (a1v _)).trans ?_
      refine (ret_eq).trans ?_
      kernel_rfl
    · refine block_ret.trans ?_
      refine seqC_ret.trans ?_
      kernel_rfl
noncomputable def cp40 : CallP := withC cp39 30 [(pL tsI4), (.one (.g (.sl (.one (.sl (.one (.int .i8))))))), (.one (.fn 31 .nil))] (.one pB) (fun y : Bool => y) (fun x => a0f x.1 x.2.1)
theorem e4w : PureOK E cp40 := conS eok e4v noE_ok fun x => Eq.mp (by kernel_rfl) (a23 x.1 x.2.1)
end
section
variable {α : Type} (vals : (List I4)) (ins : (List (List Int))) (k : St → Option α)
noncomputable abbrev C40 := codeOf E.P 20
noncomputable abbrev P40 := @preK α E 20 cp40 noE
theorem d83 : P40 2 C40 ⟨[(0, rl tsI4 vals), (1, rl (.one (.sl (.one (.int .i8)))) ins)], [], [], 8⟩ k = Option.bind (a0f vals ins) fun y395 : Bool => k ⟨[(4, rb y395)], [], [], 8⟩ := by kernel_rfl
/-- quilt/eval.fits -/
def b30 : Option Bool := (Option.bind (a0f vals ins) (fun y395 : Bool => (some y395)))
theorem d82 : stepS E cp40 noE 20 [rl tsI4 vals, rl (.one (.sl (.one (.int .i8)))) ins] = Option.bind (b30 vals ins) (fun y : Bool => some (rb y : R)) := by
  refine .trans ?_ (bind_b fun y395 => some_b)
  refine (stepG_is (nt := 8) (regs := [(0, rl tsI4 vals), (1, rl (.one (.sl (.one (.int .i8)))) ins)])).trans ?_
  refine (pre2 (d83 vals ins _)).trans (bind_g fun y395 => ?_)
  refine (ret_eq).trans ?_
  kernel_rfl
noncomputable def cp41 : CallP := withC cp40 20 [(pL tsI4), (.one (.g (.sl (.one (.sl (.one (.int .i8)))))))] (.one pB) (fun y : Bool => y) (fun x => b30 x.1 x.2.1)
theorem e2b : PureOK E cp41 := conS eok e4w noE_ok fun x => Eq.mp (by kernel_rfl) (d82 x.1 x.2.1)
end
/-- slices.Clone -/
def a1o (s_ : (List Int)) : Option (List Int) := bif s_.isEmpty then some [] else bif decide (([] : (List Int)).length + s_.length ≤ maxL) then some ([] ++ s_) else none
theorem b2p (s_ : (List Int)) : stepO E cp41 noE 33 [.one (dl (.one (.int .i8)) s_)] = Option.bind (a1o s_) (fun y : (List Int) => some (.one (.ow (.one (.int .i8)) y (.s 0)))) := by
  cases s_ with
  | nil =>
    have h : stepO E cp41 noE 33 [.one (dl (.one (.int .i8)) [])] = both (some (.one (.ow (.one (.int .i8)) [] (.s 0)))) (some (.one (.ow (.one (.int .i8)) [] (.s 0)))) := by kernel_rfl
    exact h.trans (if_pos rfl)
  | cons x l =>
    have h : stepO E cp41 noE 33 [.one (dl (.one (.int .i8)) (x :: l))] = bif decide (([] : (List Int)).length + (x :: l).length ≤ maxL) then some (.one (.ow (.one (.int .i8)) ([] ++ (x :: l)) (.s 0))) else none := by kernel_rfl
    refine h.trans ?_
    show _ = Option.bind (bif decide (([] : (List Int)).length + (x :: l).length ≤ maxL) then some ([] ++ (x :: l)) else none) _
    cases decide (([] : (List Int)).length + (x :: l).length ≤ maxL) <;> rfl
theorem b2z (x : denL [(.one (.g (.sl (.one (.int .i8)))))]) : stepO E cp41 noE 33 (encL [(.one (.g (.sl (.one (.int .i8)))))] x) = (a1o x.1).bind fun y => some (Po.enc (.one (.one (.ow (.one (.int .i8))))) y) := Eq.mp (by kernel_rfl) (b2p x.1)
noncomputable def cp42 : CallP := withC cp41 33 [(.one (.g (.sl (.one (.int .i8)))))] (.one (.one (.ow (.one (.int .i8))))) (fun y => y) (fun x => a1o x.1)
theorem e4x : PureOK E cp42 := withC_ok e2b (stepO_ok eok e2b noE_ok) fun x => con_of (enc := fun y => Po.enc (.one (.one (.ow (.one (.int .i8))))) y) (b2z x)
section
variable {α : Type} (rows : (List (List Int))) (s416 : ((List (List Int)) × Int)) (y422 : (List (List Int))) (y423 : ((List (List Int)) × Int)) (k : St → Option α) (q : Kont α)
noncomputable abbrev C42 := codeOf E.P 21
noncomputable abbrev P42 := @preK α E 21 cp42 noE
noncomputable abbrev R42 := @runCode α E 21 cp42 noE
abbrev S42_0 : St := ⟨[(0, rl (.one (.sl (.one (.int .i8)))) rows), (3, .one (.ow (.one (.sl (.one (.int .i8)))) [] (.v 3)))], [], [], 19⟩
theorem c8n : P42 2 C42 ⟨[(0, rl (.one (.sl (.one (.int .i8)))) rows)], [], [], 19⟩ k = k (S42_0 rows) := by kernel_rfl
abbrev S42_1 : St := ⟨[(3, .one (.ow (.one (.sl (.one (.int .i8)))) [] (.v 3))), (6, rl (.one (.sl (.one (.int .i8)))) rows), (7, ri (rows.length : Int)), (8, ri 0)], [], [], 19⟩
theorem c8o : P42 1 C42.r.r.l (S42_0 rows) k = k (S42_1 rows) := by kernel_rfl
abbrev S42_2 : St := ⟨[(3, .one (.ow (.one (.sl (.one (.int .i8)))) s416.1 (.v 3))), (6, rl (.one (.sl (.one (.int .i8)))) rows), (7, ri (rows.length : Int)), (8, ri s416.2)], [], [], 19⟩
theorem c8p : P42 1 C42.r.r.l.r.b.b (S42_2 rows s416) k = k ⟨[(3, .one (.ow (.one (.sl (.one (.int .i8)))) s416.1 (.v 3))), (6, rl (.one (.sl (.one (.int .i8)))) rows), (7, ri (rows.length : Int)), (8, ri s416.2), (9, rb (decide (s416.2 < (rows.length : Int))))], [], [], 19⟩ := by kernel_rfl
def b0p : Option Unit := (bif (decide ((0 : Int) ≤ s416.2)) then (bif (decide (s416.2 < (rows.length : Int))) then (some ()) else none) else none)
abbrev S42_3 : St := ⟨[(3, .one (.ow (.one (.sl (.one (.int .i8)))) s416.1 (.v 3))), (5, rl (.one (.int .i8)) (gt rows s416.2 [])), (6, rl (.one (.sl (.one (.int .i8)))) rows), (7, ri (rows.length : Int)), (8, ri s416.2)], [], [], 19⟩
theorem c8s : P42 1 C42.r.r.l.r.b.b.r.r.l.b (S42_2 rows s416) k = Option.bind (b0p rows s416) (fun y420 : Unit => k (S42_3 rows s416)) := .trans (by kernel_rfl) (bif_b (bif_b some_b none_b) none_b)
def b0q : Option (List (List Int)) := (Option.bind (a1o (gt rows s416.2 [])) (fun y421 : (List Int) => (bif (decide (s416.1.length + ([y421] : List (List Int)).length ≤ maxL)) then (some (s416.1 ++ [y421])) else none)))
abbrev S42_4 : St := ⟨[(3, .one (.ow (.one (.sl (.one (.int .i8)))) y422 (.v 3))), (6, rl (.one (.sl (.one (.int .i8)))) rows), (7, ri (rows.length : Int)), (8, ri s416.2)], [], [], 19⟩
theorem c8t : R42 C42.r.r.l.r.b.b.r.r.l.b.r (S42_3 rows s416) q = Option.bind (b0q rows s416) (fun y422 : (List (List Int)) => q .normal (S42_4 rows s416 y422)) := .trans (by kernel_rfl) (bind_b fun y421 => (bif_b some_b none_b))
theorem c8u : R42 C42.r.r.l.r.b.b.r.r.r (S42_4 rows s416 y422) q = q .normal ⟨[(3, .one (.ow (.one (.sl (.one (.int .i8)))) y422 (.v 3))), (6, rl (.one (.sl (.one (.int .i8)))) rows), (7, ri (rows.length : Int)), (8, ri (IntKind.wrap .i64 (s416.2 + 1)))], [], [], 19⟩ := by kernel_rfl
def a5v : Option (((List (List Int)) × Int) ⊕ ((List (List Int)) × Int)) := (bif (decide (s416.2 < (rows.length : Int))) then (Option.bind (b0p rows s416) (fun y420 : Unit => (Option.bind (b0q rows s416) (fun y422 : (List (List Int)) => (some (Sum.inl (y422, (IntKind.wrap .i64 (s416.2 + 1))))))))) else (some (Sum.inr s416)))
abbrev S42_5 : St := ⟨[(3, .one (.ow (.one (.sl (.one (.int .i8)))) y423.1 (.v 3))), (6, rl (.one (.sl (.one (.int .i8)))) rows), (7, ri (rows.length : Int)), (8, ri y423.2)], [], [], 19⟩
theorem c1u : R42 C42.r.r.l.r.b.b (S42_2 rows s416) (loopKont 0 q) = Option.bind (a5v rows s416) (either (fun y : ((List (List Int)) × Int) => q .normal ⟨[(3, .one (.ow (.one (.sl (.one (.int .i8)))) y.1 (.v 3))), (6, rl (.one (.sl (.one (.int .i8)))) rows), (7, ri (rows.length : Int)), (8, ri y.2)], [], [], 19⟩) (fun y423 : ((List (List Int)) × Int) => q (.exit 0) (S42_5 rows y423))) := by
  refine .trans ?_ (bif_b (bind_b fun y420 => (bind_b fun y422 => e2_0)) e2_1)
  refine (pre1 (c8p rows s416 _)).trans ?_
  refine .trans seq_push ?_
  refine (cond_e (b := (decide (s416.2 < (rows.length : Int)))) (st' := (S42_2 rows s416)) ).trans (bif_g ?_ ?_)
  · refine (skip_eq).trans ?_
    refine (seqC_normal (st' := (S42_2 rows s416))).trans ?_
    refine .trans seq_push ?_
    refine (block_push (id := 1)).trans ?_
    refine (pre1 (c8s rows s416 _)).trans (bind_g fun y420 => ?_)
    refine (c8t rows s416 _).trans (bind_g fun y422 => ?_)
    refine block_normal.trans ?_
    refine (seqC_normal (st' := (S42_4 rows s416 y422))).trans ?_
    refine (c8u rows s416 y422 _).trans ?_
    kernel_rfl
  · refine ((exit_eq (j := 0))).trans ?_
    refine seqC_exit.trans ?_
    kernel_rfl
theorem c8r : R42 C42.r.r.l.r.b (S42_1 rows) q = Option.bind (iterN (a5v rows) LL ([], (0 : Int))) (fun y423 : ((List (List Int)) × Int) => q (.exit 0) (S42_5 rows y423)) :=
  Eq.trans (by kernel_rfl) (loop_iter1 (S := fun s416 : ((List (List Int)) × Int) => (S42_2 rows s416)) (Y1 := fun y423 : ((List (List Int)) × Int) => ((.exit 0), (S42_5 rows y423))) (fun s q => c1u rows s q) (fun z => rfl) LL ([], (0 : Int)))
abbrev S42_6 : St := ⟨[(3, .one (.ow (.one (.sl (.one (.int .i8)))) y423.1 (.v 3)))], [], [], 19⟩
theorem c1t : P42 1 C42.r.r.r (S42_6 y423) k = k ⟨[(2, .one (.ow (.one (.sl (.one (.int .i8)))) y423.1 (.v 3)))], [], [], 19⟩ := by kernel_rfl
/-- quilt/eval.copied[int8] -/
def a3r : Option (List (List Int)) := (Option.bind (iterN (a5v rows) LL ([], (0 : Int))) (fun y423 : ((List (List Int)) × Int) => (some y423.1)))
theorem c8q : stepO E cp42 noE 21 [rl (.one (.sl (.one (.int .i8)))) rows] = Option.bind (a3r rows) (fun y : (List (List Int)) => some (.one (.ow (.one (.sl (.one (.int .i8)))) y (.s 0)) : R)) := by
  refine .trans ?_ (bind_b fun y423 => some_b)
  refine (stepG_is (nt := 19) (regs := [(0, rl (.one (.sl (.one (.int .i8)))) rows)])).trans ?_
  refine (pre2 (c8n rows _)).trans ?_
  refine .trans seq_push ?_
  refine (pre1 (c8o rows _)).trans ?_
  refine (block_push (id := 0)).trans ?_
  refine (c8r rows _).trans (bind_g fun y423 => ?_)
  refine block_same.trans ?_
  refine (seqC_normal (st' := (S42_6 y423))).trans ?_
  refine (pre1 (c1t y423 _)).trans ?_
  refine (ret_eq).trans ?_
  kernel_rfl
noncomputable def cp43 : CallP := withC cp42 21 [(.one (.g (.sl (.one (.sl (.one (.int .i8)))))))] (.one (.one (.ow (.one (.sl (.one (.int .i8))))))) (fun y : (List (List Int)) => y) (fun x => a3r x.1)
theorem e4y : PureOK E cp43 := conO eok e4x noE_ok fun x => Eq.mp (by kernel_rfl) (c8q x.1)
end
section
variable {α β : Type} (first : Int) (rows : Int) (k_ : Int) (stride : Int) (pad : Int) (size : Int) (y487 : Int) (s506 : (Int × Int × Int)) (y511 : (Int × Int × Int)) (k : St → Option α) (q : Kont α)
noncomputable abbrev C43 := codeOf E.P 69
noncomputable abbrev P43 := @preK α E 69 cp43 noE
noncomputable abbrev R43 := @runCode α E 69 cp43 noE
noncomputable abbrev Q43 := @seqC α E 69 cp43 noE
abbrev S43_0 : St := ⟨[(0, ri first), (1, ri rows), (2, ri k_), (3, ri stride), (4, ri pad), (5, ri size)], [], [], 78⟩
theorem d2q : P43 2 C43 (S43_0 first rows k_ stride pad size) k = Option.bind (a6v size k_ stride pad) fun y487 : Int => k ⟨[(0, ri first), (1, ri rows), (2, ri k_), (3, ri stride), (4, ri pad), (5, ri size), (14, ri y487)], [], [], 78⟩ := by kernel_rfl
def b2m (K : Bool → β) : β := (bif (decide (first < 0)) then (K true) else (bif (decide (rows < 1)) then (K true) else (bif (decide (first > y487)) then (K true) else (K (decide (rows > (IntKind.wrap .i64 (y487 - first))))))))
def a3k : Bool := b2m first rows y487 (fun y => y)
theorem c4r (K : Bool → β) : b2m first rows y487 K = K (a3k first rows y487) := (bif_k K rfl (bif_k K rfl (bif_k K rfl rfl)))
theorem d2r : P43 1 C43.r.r.l ⟨[(0, ri first), (1, ri rows), (2, ri k_), (3, ri stride), (4, ri pad), (5, ri size), (14, ri y487)], [], [], 78⟩ k = k ⟨[(0, ri first), (1, ri rows), (2, ri k_), (3, ri stride), (4, ri pad), (5, ri size), (40, rb (a3k first rows y487))], [], [], 78⟩ := Eq.trans (by kernel_rfl) (c4r first rows y487 (fun y489 : Bool => k ⟨[(0, ri first), (1, ri rows), (2, ri k_), (3, ri stride), (4, ri pad), (5, ri size), (40, rb y489)], [], [], 78⟩))
abbrev S43_1 : St := ⟨[(12, ri 0), (13, ri 0)], [], [], 78⟩
theorem d2m : P43 1 C43.r.r.l.r.t (S43_0 first rows k_ stride pad size) k = k S43_1 := by kernel_rfl
abbrev S43_2 : St := ⟨[(0, ri first), (1, ri rows), (2, ri k_), (3, ri stride), (4, ri pad), (5, ri size), (12, ri size), (13, ri 0)], [], [], 78⟩
theorem d2k : P43 1 C43.r.r.r (S43_0 first rows k_ stride pad size) k = k (S43_2 first rows k_ stride pad size) := by kernel_rfl
abbrev S43_3 : St := ⟨[(0, ri first), (1, ri rows), (2, ri k_), (3, ri stride), (4, ri pad), (5, ri size), (12, ri size), (13, ri 0), (15, ri first)], [], [], 78⟩
theorem d2l : P43 1 C43.r.r.r.r.l (S43_2 first rows k_ stride pad size) k = k (S43_3 first rows k_ stride pad size) := by kernel_rfl
abbrev S43_4 : St := ⟨[(0, ri first), (1, ri rows), (2, ri k_), (3, ri stride), (4, ri pad), (5, ri size), (12, ri s506.1), (13, ri s506.2.1), (15, ri s506.2.2)], [], [], 78⟩
theorem c4m : P43 1 C43.r.r.r.r.l.r.b.b.l (S43_4 first rows k_ stride pad size s506) k = k ⟨[(0, ri first), (1, ri rows), (2, ri k_), (3, ri stride), (4, ri pad), (5, ri size), (12, ri s506.1), (13, ri s506.2.1), (15, ri s506.2.2), (47, rb (decide (s506.2.2 < (IntKind.wrap .i64 (first + rows)))))], [], [], 78⟩ := by kernel_rfl
def b2n (K : Int → β) : β := (K (min size (IntKind.wrap .i64 ((IntKind.wrap .i64 ((IntKind.wrap .i64 (s506.2.2 * stride)) - pad)) + k_))))
def a0z : Int := b2n k_ stride pad size s506 (fun y => y)
theorem c4s (K : Int → β) : b2n k_ stride pad size s506 K = K (a0z k_ stride pad size s506) := rfl
abbrev S43_5 : St := ⟨[(0, ri first), (1, ri rows), (2, ri k_), (3, ri stride), (4, ri pad), (5, ri size), (12, ri s506.1), (13, ri s506.2.1), (15, ri s506.2.2), (16, ri (max (0 : Int) (IntKind.wrap .i64 ((IntKind.wrap .i64 (s506.2.2 * stride)) - pad)))), (17, ri (a0z k_ stride pad size s506))], [], [], 78⟩
theorem d2t : P43 1 C43.r.r.r.r.l.r.b.b.r.l.b (S43_4 first rows k_ stride pad size s506) k = k (S43_5 first rows k_ stride pad size s506) := Eq.trans (by kernel_rfl) (c4s k_ stride pad size s506 (fun y507 : Int => k ⟨[(0, ri first), (1, ri rows), (2, ri k_), (3, ri stride), (4, ri pad), (5, ri size), (12, ri s506.1), (13, ri s506.2.1), (15, ri s506.2.2), (16, ri (max (0 : Int) (IntKind.wrap .i64 ((IntKind.wrap .i64 (s506.2.2 * stride)) - pad)))), (17, ri y507)], [], [], 78⟩))
def b2o (K : Bool → β) : β := (K (decide ((max (0 : Int) (IntKind.wrap .i64 ((IntKind.wrap .i64 (s506.2.2 * stride)) - pad))) < (a0z k_ stride pad size s506))))
def a3l : Bool := b2o k_ stride pad size s506 (fun y => y)
theorem c4t (K : Bool → β) : b2o k_ stride pad size s506 K = K (a3l k_ stride pad size s506) := rfl
theorem d2u : P43 1 C43.r.r.r.r.l.r.b.b.r.l.b.r (S43_5 first rows k_ stride pad size s506) k = k ⟨[(0, ri first), (1, ri rows), (2, ri k_), (3, ri stride), (4, ri pad), (5, ri size), (12, ri s506.1), (13, ri s506.2.1), (15, ri s506.2.2), (16, ri (max (0 : Int) (IntKind.wrap .i64 ((IntKind.wrap .i64 (s506.2.2 * stride)) - pad)))), (17, ri (a0z k_ stride pad size s506)), (67, rb (a3l k_ stride pad size s506))], [], [], 78⟩ := Eq.trans (by kernel_rfl) (c4t k_ stride pad size s506 (fun y508 : Bool => k ⟨[(0, ri first), (1, ri rows), (2, ri k_), (3, ri stride), (4, ri pad), (5, ri size), (12, ri s506.1), (13, ri s506.2.1), (15, ri s506.2.2), (16, ri (max (0 : Int) (IntKind.wrap .i64 ((IntKind.wrap .i64 (s506.2.2 * stride)) - pad)))), (17, ri (a0z k_ stride pad size s506)), (67, rb y508)], [], [], 78⟩))
def b0b (K : Int → β) : β := (K (min s506.1 (max (0 : Int) (IntKind.wrap .i64 ((IntKind.wrap .i64 (s506.2.2 * stride)) - pad)))))
def a5i : Int := b0b stride pad s506 (fun y => y)
theorem c1k (K : Int → β) : b0b stride pad s506 K = K (a5i stride pad s506) := rfl
abbrev S43_6 : St := ⟨[(0, ri first), (1, ri rows), (2, ri k_), (3, ri stride), (4, ri pad), (5, ri size), (12, ri (a5i stride pad s506)), (13, ri (max s506.2.1 (a0z k_ stride pad size s506))), (15, ri s506.2.2)], [], [], 78⟩
theorem c8f : R43 C43.r.r.r.r.l.r.b.b.r.l.b.r.r.t (S43_5 first rows k_ stride pad size s506) q = q .normal (S43_6 first rows k_ stride pad size s506) := Eq.trans (by kernel_rfl) (c1k stride pad s506 (fun y509 : Int => q .normal ⟨[(0, ri first), (1, ri rows), (2, ri k_), (3, ri stride), (4, ri pad), (5, ri size), (12, ri y509), (13, ri (max s506.2.1 (a0z k_ stride pad size s506))), (15, ri s506.2.2)], [], [], 78⟩))
def a6a (K : (Int × Int) → β) : β := (bif (a3l k_ stride pad size s506) then (K ((a5i stride pad s506), (max s506.2.1 (a0z k_ stride pad size s506)))) else (K (s506.1, s506.2.1)))
def a1a : (Int × Int) := a6a k_ stride pad size s506 (fun y => y)
theorem c4p (K : (Int × Int) → β) : a6a k_ stride pad size s506 K = K (a1a k_ stride pad size s506) := (bif_k K rfl rfl)
abbrev S43_7 : St := ⟨[(0, ri first), (1, ri rows), (2, ri k_), (3, ri stride), (4, ri pad), (5, ri size), (12, ri ((a1a k_ stride pad size s506).1)), (13, ri ((a1a k_ stride pad size s506).2)), (15, ri s506.2.2)], [], [], 78⟩
theorem d2o : R43 C43.r.r.r.r.l.r.b.b.r.l (S43_4 first rows k_ stride pad size s506) (Q43 C43.r.r.r.r.l.r.b.b.r.r q) = R43 C43.r.r.r.r.l.r.b.b.r.r (S43_7 first rows k_ stride pad size s506) q := by
  refine Eq.trans ?_ (c4p k_ stride pad size s506 (fun y510 : (Int × Int) => R43 C43.r.r.r.r.l.r.b.b.r.r ⟨[(0, ri first), (1, ri rows), (2, ri k_), (3, ri stride), (4, ri pad), (5, ri size), (12, ri y510.1), (13, ri y510.2), (15, ri s506.2.2)], [], [], 78⟩ q))
  unfold a6a
  refine (block_push (id := 1)).trans ?_
  refine (pre1 (d2t first rows k_ stride pad size s506 _)).trans ?_
  refine (pre1 (d2u first rows k_ stride pad size s506 _)).trans ?_
  refine (cond_e (b := (a3l k_ stride pad size s506)) (st' := (S43_5 first rows k_ stride pad size s506)) ).trans (bif_g ?_ ?_)
  · refine (c8f first rows k_ stride pad size s506 _).trans ?_
    refine block_normal.trans ?_
    refine (seqC_normal (st' := (S43_6 first rows k_ stride pad size s506))).trans ?_
    kernel_rfl
  · refine (skip_eq).trans ?_
    refine block_normal.trans ?_
    refine (seqC_normal (st' := (S43_4 first rows k_ stride pad size s506))).trans ?_
    kernel_rfl
theorem d2s : R43 C43.r.r.r.r.l.r.b.b.r.r (S43_7 first rows k_ stride pad size s506) q = q .normal ⟨[(0, ri first), (1, ri rows), (2, ri k_), (3, ri stride), (4, ri pad), (5, ri size), (12, ri ((a1a k_ stride pad size s506).1)), (13, ri ((a1a k_ stride pad size s506).2)), (15, ri (IntKind.wrap .i64 (s506.2.2 + 1)))], [], [], 78⟩ := by kernel_rfl
def a6b : Option ((Int × Int × Int) ⊕ (Int × Int × Int)) := (bif (decide (s506.2.2 < (IntKind.wrap .i64 (first + rows)))) then (some (Sum.inl ((a1a k_ stride pad size s506).1, (a1a k_ stride pad size s506).2, (IntKind.wrap .i64 (s506.2.2 + 1))))) else (some (Sum.inr s506)))
abbrev S43_8 : St := ⟨[(0, ri first), (1, ri rows), (2, ri k_), (3, ri stride), (4, ri pad), (5, ri size), (12, ri y511.1), (13, ri y511.2.1), (15, ri y511.2.2)], [], [], 78⟩
theorem c4q : R43 C43.r.r.r.r.l.r.b.b (S43_4 first rows k_ stride pad size s506) (loopKont 0 q) = Option.bind (a6b first rows k_ stride pad size s506) (either (fun y : (Int × Int × Int) => q .normal ⟨[(0, ri first), (1, ri rows), (2, ri k_), (3, ri stride), (4, ri pad), (5, ri size), (12, ri y.1), (13, ri y.2.1), (15, ri y.2.2)], [], [], 78⟩) (fun y511 : (Int × Int × Int) => q (.exit 0) (S43_8 first rows k_ stride pad size y511))) := by
  refine .trans ?_ (bif_b e2_0 e2_1)
  refine .trans seq_push ?_
  refine (pre1 (c4m first rows k_ stride pad size s506 _)).trans ?_
  refine (cond_e (b := (decide (s506.2.2 < (IntKind.wrap .i64 (first + rows))))) (st' := (S43_4 first rows k_ stride pad size s506)) ).trans (bif_g ?_ ?_)
  · refine (skip_eq).trans ?_
    refine (seqC_normal (st' := (S43_4 first rows k_ stride pad size s506))).trans ?_
    refine .trans seq_push ?_
    refine (d2o first rows k_ stride pad size s506 _).trans ?_
    refine (d2s first rows k_ stride pad size s506 _).trans ?_
    kernel_rfl
  · refine ((exit_eq (j := 0))).trans ?_
    refine seqC_exit.trans ?_
    kernel_rfl
theorem d2p : R43 C43.r.r.r.r.l.r.b (S43_3 first rows k_ stride pad size) q = Option.bind (iterN (a6b first rows k_ stride pad size) LL (size, (0 : Int), first)) (fun y511 : (Int × Int × Int) => q (.exit 0) (S43_8 first rows k_ stride pad size y511)) :=
  Eq.trans (by kernel_rfl) (loop_iter1 (S := fun s506 : (Int × Int × Int) => (S43_4 first rows k_ stride pad size s506)) (Y1 := fun y511 : (Int × Int × Int) => ((.exit 0), (S43_8 first rows k_ stride pad size y511))) (fun s q => c4q first rows k_ stride pad size s q) (fun z => rfl) LL (size, (0 : Int), first))
abbrev S43_9 : St := ⟨[(12, ri y511.1), (13, ri y511.2.1)], [], [], 78⟩
theorem b6r : P43 1 C43.r.r.r.r.r.l (S43_9 y511) k = k ⟨[(12, ri y511.1), (13, ri y511.2.1), (75, rb (y511.2.1 == 0))], [], [], 78⟩ := by kernel_rfl
theorem c4n : P43 1 C43.r.r.r.r.r.l.r.t (S43_9 y511) k = k S43_1 := by kernel_rfl
theorem c4o : P43 1 C43.r.r.r.r.r.r (S43_9 y511) k = k (S43_9 y511) := by kernel_rfl
/-- quilt/shape.Reach -/
def a8s : Option (Int × Int) := (Option.bind (a6v size k_ stride pad) (fun y487 : Int => (bif (a3k first rows y487) then (some ((0 : Int), (0 : Int))) else (Option.bind (iterN (a6b first rows k_ stride pad size) LL (size, (0 : Int), first)) (fun y511 : (Int × Int × Int) => (bif (y511.2.1 == 0) then (some ((0 : Int), (0 : Int))) else (some (y511.1, y511.2.1))))))))
theorem d2n : stepS E cp43 noE 69 [ri first, ri rows, ri k_, ri stride, ri pad, ri size] = Option.bind (a8s first rows k_ stride pad size) (fun y : (Int × Int) => some (.tup [ri y.1, ri y.2] : R)) := by
  refine .trans ?_ (bind_b fun y487 => (bif_b some_b (bind_b fun y511 => (bif_b some_b some_b))))
  refine (stepG_is (nt := 78) (regs := [(0, ri first), (1, ri rows), (2, ri k_), (3, ri stride), (4, ri pad), (5, ri size)])).trans ?_
  refine (pre2 (d2q first rows k_ stride pad size _)).trans (bind_g fun y487 => ?_)
  refine .trans seq_push ?_
  refine (pre1 (d2r first rows k_ stride pad size y487 _)).trans ?_
  refine (cond_e (b := (a3k first rows y487)) (st' := (S43_0 first rows k_ stride pad size)) ).trans (bif_g ?_ ?_)
  · refine (pre1 (d2m first rows k_ stride pad size _)).trans ?_
    refine (ret_eq).trans ?_
    refine seqC_ret.trans ?_
    kernel_rfl
  · refine (skip_eq).trans ?_
    refine (seqC_normal (st' := (S43_0 first rows k_ stride pad size))).trans ?_
    refine (pre1 (d2k first rows k_ stride pad size _)).trans ?_
    refine .trans seq_push ?_
    refine (pre1 (d2l first rows k_ stride pad size _)).trans ?_
    refine (block_push (id := 0)).trans ?_
    refine (d2p first rows k_ stride pad size _).trans (bind_g fun y511 => ?_)
    refine block_same.trans ?_
    refine (seqC_normal (st' := (S43_9 y511))).trans ?_
    refine .trans seq_push ?_
    refine (pre1 (b6r y511 _)).trans ?_
    refine (cond_e (b := (y511.2.1 == 0)) (st' := (S43_9 y511)) ).trans (bif_g ?_ ?_)
    · refine (pre1 (c4n y511 _)).trans ?_
      refine (ret_eq).trans ?_
      refine seqC_ret.trans ?_
      kernel_rfl
    · refine (skip_eq).trans ?_
      refine (seqC_normal (st' := (S43_9 y511))).trans ?_
      refine (pre1 (c4o y511 _)).trans ?_
      refine (ret_eq).trans ?_
      kernel_rfl
noncomputable def cp44 : CallP := withC cp43 69 [pI, pI, pI, pI, pI, pI] (.tup [pI, pI]) (fun y : (Int × Int) => (y.1, y.2, ())) (fun x => a8s x.1 x.2.1 x.2.2.1 x.2.2.2.1 x.2.2.2.2.1 x.2.2.2.2.2.1)
theorem e4z : PureOK E cp44 := conS eok e4y noE_ok fun x => Eq.mp (by kernel_rfl) (d2n x.1 x.2.1 x.2.2.1 x.2.2.2.1 x.2.2.2.2.1 x.2.2.2.2.2.1)
end
section
variable {α β : Type} (n_ : Node) (in_ : (List I4)) (first : Int) (rows : Int) (y481 : (I4 × Int)) (s557 : (Int × Int × Int × Int × Int)) (y567 : (Int × Int × Int × Int)) (y568 : (Int × Int × Int × Int × Int)) (k : St → Option α) (q : Kont α)
noncomputable abbrev C44 := codeOf E.P 49
noncomputable abbrev P44 := @preK α E 49 cp44 noE
noncomputable abbrev R44 := @runCode α E 49 cp44 noE
noncomputable abbrev Q44 := @seqC α E 49 cp44 noE
abbrev S44_0 : St := ⟨[(1, rl tsI4 in_), (2, ri first), (3, ri rows), (4, rC a00 n_), (8, rF 0), (9, ri y481.2), (10, rF 1)], [[di 0, di 0, di 0, di 0], (tsI4.leaves y481.1)], [], 116⟩
theorem d48 : P44 2 C44 ⟨[(0, rA a00 n_), (1, rl tsI4 in_), (2, ri first), (3, ri rows)], [], [], 116⟩ k = Option.bind (a1d n_ in_) fun y481 : (I4 × Int) => k (S44_0 n_ in_ first rows y481) := by kernel_rfl
theorem b78 : P44 1 C44.r.r.l.b (S44_0 n_ in_ first rows y481) k = k ⟨[(1, rl tsI4 in_), (2, ri first), (3, ri rows), (4, rC a00 n_), (8, rF 0), (9, ri y481.2), (10, rF 1), (19, rb (y481.2 != 0))], [[di 0, di 0, di 0, di 0], (tsI4.leaves y481.1)], [], 116⟩ := by kernel_rfl
theorem d44 : P44 1 C44.r.r.l.b.r.t (S44_0 n_ in_ first rows y481) k = k ⟨[(8, rF 0), (9, ri y481.2)], [[di 0, di 0, di 0, di 0], []], [], 116⟩ := by kernel_rfl
def b36 (K : Bool → β) : β := (bif (decide (first < 0)) then (K true) else (bif (decide (rows < 1)) then (K true) else (bif (decide (first > y481.1.1)) then (K true) else (K (decide (rows > (IntKind.wrap .i64 (y481.1.1 - first))))))))
def a47 : Bool := b36 first rows y481 (fun y => y)
theorem c6d (K : Bool → β) : b36 first rows y481 K = K (a47 first rows y481) := (bif_k K rfl (bif_k K rfl (bif_k K rfl rfl)))
theorem d49 : P44 1 C44.r.r.l.b.r.e (S44_0 n_ in_ first rows y481) k = k ⟨[(1, rl tsI4 in_), (2, ri first), (3, ri rows), (4, rC a00 n_), (8, rF 0), (24, rb (a47 first rows y481))], [[di 0, di 0, di 0, di 0], []], [], 116⟩ := Eq.trans (by kernel_rfl) (c6d first rows y481 (fun y483 : Bool => k ⟨[(1, rl tsI4 in_), (2, ri first), (3, ri rows), (4, rC a00 n_), (8, rF 0), (24, rb y483)], [[di 0, di 0, di 0, di 0], []], [], 116⟩))
abbrev S44_1 : St := ⟨[(1, rl tsI4 in_), (2, ri first), (3, ri rows), (4, rC a00 n_), (8, rF 0)], [[di 0, di 0, di 0, di 0], []], [], 116⟩
theorem c69 : P44 1 C44.r.r.l.b.r.e.r.t (S44_1 n_ in_ first rows) k = k ⟨[(8, rF 0), (9, ri 1)], [[di 0, di 0, di 0, di 0], []], [], 116⟩ := by kernel_rfl
abbrev S44_2 : St := ⟨[(1, rl tsI4 in_), (2, ri first), (3, ri rows), (4, rC a00 n_), (8, rF 0), (49, ri (in_.length : Int)), (50, ri 0)], [[di 0, di 0, di 0, di 0], []], [], 116⟩
theorem d43 : P44 1 C44.r.r.r.l (S44_1 n_ in_ first rows) k = k (S44_2 n_ in_ first rows) := by kernel_rfl
abbrev S44_3 : St := ⟨[(1, rl tsI4 in_), (2, ri first), (3, ri rows), (4, rC a00 n_), (8, rF 0), (49, ri (in_.length : Int)), (50, ri s557.1)], [(tsI4.leaves s557.2), []], [], 116⟩
theorem c6a : P44 1 C44.r.r.r.l.r.b.b (S44_3 n_ in_ first rows s557) k = k ⟨[(1, rl tsI4 in_), (2, ri first), (3, ri rows), (4, rC a00 n_), (8, rF 0), (49, ri (in_.length : Int)), (50, ri s557.1), (51, rb (decide (s557.1 < (in_.length : Int))))], [(tsI4.leaves s557.2), []], [], 116⟩ := by kernel_rfl
def b37 : Option Unit := (bif (decide ((0 : Int) ≤ s557.1)) then (bif (decide (s557.1 < (in_.length : Int))) then (some ()) else none) else none)
abbrev S44_4 : St := ⟨[(1, rl tsI4 in_), (2, ri first), (3, ri rows), (4, rC a00 n_), (8, rF 0), (11, ri s557.1), (12, ri ((gt in_ s557.1 dI4).1)), (49, ri (in_.length : Int)), (50, ri s557.1)], [(tsI4.leaves s557.2), []], [], 116⟩
theorem d4a : P44 2 C44.r.r.r.l.r.b.b.r.r.l.b (S44_3 n_ in_ first rows s557) k = Option.bind (b37 in_ s557) (fun y558 : Unit => k (S44_4 n_ in_ first rows s557)) := .trans (by kernel_rfl) (bif_b (bif_b some_b none_b) none_b)
abbrev S44_5 : St := ⟨[(1, rl tsI4 in_), (2, ri first), (3, ri rows), (4, rC a00 n_), (8, rF 0), (11, ri s557.1), (12, ri ((gt in_ s557.1 dI4).1)), (49, ri (in_.length : Int)), (50, ri s557.1), (60, ri n_.1)], [(tsI4.leaves s557.2), []], [], 116⟩
theorem c9k : P44 1 C44.r.r.r.l.r.b.b.r.r.l.b.r.r (S44_4 n_ in_ first rows s557) k = k (S44_5 n_ in_ first rows s557) := by kernel_rfl
abbrev S44_6 : St := ⟨[(1, rl tsI4 in_), (2, ri first), (3, ri rows), (4, rC a00 n_), (8, rF 0), (11, ri s557.1), (12, ri ((gt in_ s557.1 dI4).1)), (49, ri (in_.length : Int)), (50, ri s557.1), (60, ri n_.1), (68, rb (n_.1 == 1))], [(tsI4.leaves s557.2), []], [], 116⟩
theorem b7a : P44 1 C44.r.r.r.l.r.b.b.r.r.l.b.r.r.r.b.l (S44_5 n_ in_ first rows s557) k = k (S44_6 n_ in_ first rows s557) := by kernel_rfl
abbrev S44_7 : St := ⟨[(1, rl tsI4 in_), (2, ri first), (3, ri rows), (4, rC a00 n_), (8, rF 0), (11, ri s557.1), (12, ri ((gt in_ s557.1 dI4).1)), (49, ri (in_.length : Int)), (50, ri s557.1), (60, ri n_.1), (68, rb (n_.1 == 2))], [(tsI4.leaves s557.2), []], [], 116⟩
theorem b7b : P44 1 C44.r.r.r.l.r.b.b.r.r.l.b.r.r.r.b.l.r.e (S44_6 n_ in_ first rows s557) k = k (S44_7 n_ in_ first rows s557) := by kernel_rfl
abbrev S44_8 : St := ⟨[(1, rl tsI4 in_), (2, ri first), (3, ri rows), (4, rC a00 n_), (8, rF 0), (11, ri s557.1), (12, ri ((gt in_ s557.1 dI4).1)), (49, ri (in_.length : Int)), (50, ri s557.1), (60, ri n_.1), (68, rb (n_.1 == 4))], [(tsI4.leaves s557.2), []], [], 116⟩
theorem b7c : P44 1 C44.r.r.r.l.r.b.b.r.r.l.b.r.r.r.b.l.r.e.r.e (S44_7 n_ in_ first rows s557) k = k (S44_8 n_ in_ first rows s557) := by kernel_rfl
abbrev S44_9 : St := ⟨[(1, rl tsI4 in_), (2, ri first), (3, ri rows), (4, rC a00 n_), (8, rF 0), (11, ri s557.1), (12, ri ((gt in_ s557.1 dI4).1)), (49, ri (in_.length : Int)), (50, ri s557.1), (60, ri n_.1), (68, rb (n_.1 == 5))], [(tsI4.leaves s557.2), []], [], 116⟩
theorem c9o : R44 C44.r.r.r.l.r.b.b.r.r.l.b.r.r.r.b.l.r.e.r.e.r.e (S44_8 n_ in_ first rows s557) q = q .normal (S44_9 n_ in_ first rows s557) := by kernel_rfl
def a5y (K : Bool → β) : β := (bif (n_.1 == 1) then (K (n_.1 == 1)) else (bif (n_.1 == 2) then (K (n_.1 == 2)) else (bif (n_.1 == 4) then (K (n_.1 == 4)) else (K (n_.1 == 5)))))
def a3d : Bool := a5y n_ (fun y => y)
theorem c2k (K : Bool → β) : a5y n_ K = K (a3d n_) := (bif_k K rfl (bif_k K rfl (bif_k K rfl rfl)))
abbrev d6m : St := ⟨[(1, rl tsI4 in_), (2, ri first), (3, ri rows), (4, rC a00 n_), (8, rF 0), (11, ri s557.1), (12, ri ((gt in_ s557.1 dI4).1)), (49, ri (in_.length : Int)), (50, ri s557.1), (60, ri n_.1), (68, rb (a3d n_))], [(tsI4.leaves s557.2), []], [], 116⟩
theorem c9l : R44 C44.r.r.r.l.r.b.b.r.r.l.b.r.r.r.b.l (S44_5 n_ in_ first rows s557) (Q44 C44.r.r.r.l.r.b.b.r.r.l.b.r.r.r.b.r q) = R44 C44.r.r.r.l.r.b.b.r.r.l.b.r.r.r.b.r (d6m n_ in_ first rows s557) q := by
  refine Eq.trans ?_ (c2k n_ (fun y559 : Bool => R44 C44.r.r.r.l.r.b.b.r.r.l.b.r.r.r.b.r ⟨[(1, rl tsI4 in_), (2, ri first), (3, ri rows), (4, rC a00 n_), (8, rF 0), (11, ri s557.1), (12, ri ((gt in_ s557.1 dI4).1)), (49, ri (in_.length : Int)), (50, ri s557.1), (60, ri n_.1), (68, rb y559)], [(tsI4.leaves s557.2), []], [], 116⟩ q))
  unfold a5y
  refine (pre1 (b7a n_ in_ first rows s557 _)).trans ?_
  refine (cond_s (b := (n_.1 == 1)) ).trans (bif_g ?_ ?_)
  · refine (skip_eq).trans ?_
    refine (seqC_normal (st' := (S44_6 n_ in_ first rows s557))).trans ?_
    kernel_rfl
  · refine (pre1 (b7b n_ in_ first rows s557 _)).trans ?_
    refine (cond_s (b := (n_.1 == 2)) ).trans (bif_g ?_ ?_)
    · refine (skip_eq).trans ?_
      refine (seqC_normal (st' := (S44_7 n_ in_ first rows s557))).trans ?_
      kernel_rfl
    · refine (pre1 (b7c n_ in_ first rows s557 _)).trans ?_
      refine (cond_s (b := (n_.1 == 4)) ).trans (bif_g ?_ ?_)
      · refine (skip_eq).trans ?_
        refine (seqC_normal (st' := (S44_8 n_ in_ first rows s557))).trans ?_
        kernel_rfl
      · refine (c9o n_ in_ first rows s557 _).trans ?_
        refine (seqC_normal (st' := (S44_9 n_ in_ first rows s557))).trans ?_
        kernel_rfl
def b1c : Option (Int × Int × Int × Int) := (Option.bind (a8s first rows n_.2.2.1 n_.2.2.2.1 n_.2.2.2.2.1 ((gt in_ s557.1 dI4).1)) (fun y560 : (Int × Int) => (bif (s557.1 == 0) then (bif (s557.1 == 0) then (some (y560.1, y560.2, s557.2.2.2.1, s557.2.2.2.2)) else (bif (s557.1 == 1) then (some (y560.1, s557.2.2.1, s557.2.2.2.1, y560.2)) else none)) else (bif (s557.1 == 1) then (bif (s557.1 == 0) then (some (s557.2.1, y560.2, y560.1, s557.2.2.2.2)) else (bif (s557.1 == 1) then (some (s557.2.1, s557.2.2.1, y560.1, y560.2)) else none)) else none))))
abbrev e2i (y561 : (Int × Int × Int × Int)) : St := ⟨[(1, rl tsI4 in_), (2, ri first), (3, ri rows), (4, rC a00 n_), (8, rF 0), (49, ri (in_.length : Int)), (50, ri s557.1)], [(tsI4.leaves y561), []], [], 116⟩
theorem c9p : R44 C44.r.r.r.l.r.b.b.r.r.l.b.r.r.r.b.r.t (d6m n_ in_ first rows s557) q = Option.bind (b1c n_ in_ first rows s557) (fun y561 : (Int × Int × Int × Int) => q .normal (e2i n_ in_ first rows s557 y561)) := .trans (by kernel_rfl) (bind_b fun y560 => (bif_b (bif_b some_b (bif_b some_b none_b)) (bif_b (bif_b some_b (bif_b some_b none_b)) none_b)))
theorem b79 : P44 1 C44.r.r.r.l.r.b.b.r.r.l.b.r.r.r.b.r.e (d6m n_ in_ first rows s557) k = k ⟨[(1, rl tsI4 in_), (2, ri first), (3, ri rows), (4, rC a00 n_), (8, rF 0), (11, ri s557.1), (12, ri ((gt in_ s557.1 dI4).1)), (49, ri (in_.length : Int)), (50, ri s557.1), (60, ri n_.1), (92, rb (n_.1 == 9))], [(tsI4.leaves s557.2), []], [], 116⟩ := by kernel_rfl
def b1d : Option (Int × Int × Int × Int) := (Option.bind (a8s first rows (1 : Int) (1 : Int) (1 : Int) ((gt in_ s557.1 dI4).1)) (fun y562 : (Int × Int) => (bif (s557.1 == 0) then (bif (s557.1 == 0) then (some (y562.1, y562.2, s557.2.2.2.1, s557.2.2.2.2)) else (bif (s557.1 == 1) then (some (y562.1, s557.2.2.1, s557.2.2.2.1, y562.2)) else none)) else (bif (s557.1 == 1) then (bif (s557.1 == 0) then (some (s557.2.1, y562.2, y562.1, s557.2.2.2.2)) else (bif (s557.1 == 1) then (some (s557.2.1, s557.2.2.1, y562.1, y562.2)) else none)) else none))))
abbrev e2j (y563 : (Int × Int × Int × Int)) : St := ⟨[(1, rl tsI4 in_), (2, ri first), (3, ri rows), (4, rC a00 n_), (8, rF 0), (49, ri (in_.length : Int)), (50, ri s557.1)], [(tsI4.leaves y563), []], [], 116⟩
theorem c9q : R44 C44.r.r.r.l.r.b.b.r.r.l.b.r.r.r.b.r.e.r.t (S44_5 n_ in_ first rows s557) q = Option.bind (b1d in_ first rows s557) (fun y563 : (Int × Int × Int × Int) => q .normal (e2j n_ in_ first rows s557 y563)) := .trans (by kernel_rfl) (bind_b fun y562 => (bif_b (bif_b some_b (bif_b some_b none_b)) (bif_b (bif_b some_b (bif_b some_b none_b)) none_b)))
abbrev e2k : St := ⟨[(1, rl tsI4 in_), (2, ri first), (3, ri rows), (4, rC a00 n_), (8, rF 0), (11, ri s557.1), (12, ri ((gt in_ s557.1 dI4).1)), (49, ri (in_.length : Int)), (50, ri s557.1), (60, ri n_.1), (107, rb (n_.1 == 3))], [(tsI4.leaves s557.2), []], [], 116⟩
theorem b7d : P44 1 C44.r.r.r.l.r.b.b.r.r.l.b.r.r.r.b.r.e.r.e.l (S44_5 n_ in_ first rows s557) k = k (e2k n_ in_ first rows s557) := by kernel_rfl
abbrev e2l : St := ⟨[(1, rl tsI4 in_), (2, ri first), (3, ri rows), (4, rC a00 n_), (8, rF 0), (11, ri s557.1), (12, ri ((gt in_ s557.1 dI4).1)), (49, ri (in_.length : Int)), (50, ri s557.1), (107, rb (n_.1 == 11))], [(tsI4.leaves s557.2), []], [], 116⟩
theorem c9r : R44 C44.r.r.r.l.r.b.b.r.r.l.b.r.r.r.b.r.e.r.e.l.r.e (e2k n_ in_ first rows s557) q = q .normal (e2l n_ in_ first rows s557) := by kernel_rfl
def a5z (K : Bool → β) : β := (bif (n_.1 == 3) then (K (n_.1 == 3)) else (K (n_.1 == 11)))
def a3e : Bool := a5z n_ (fun y => y)
theorem c2l (K : Bool → β) : a5z n_ K = K (a3e n_) := (bif_k K rfl rfl)
abbrev d6n : St := ⟨[(1, rl tsI4 in_), (2, ri first), (3, ri rows), (4, rC a00 n_), (8, rF 0), (11, ri s557.1), (12, ri ((gt in_ s557.1 dI4).1)), (49, ri (in_.length : Int)), (50, ri s557.1), (107, rb (a3e n_))], [(tsI4.leaves s557.2), []], [], 116⟩
theorem c9m : R44 C44.r.r.r.l.r.b.b.r.r.l.b.r.r.r.b.r.e.r.e.l (S44_5 n_ in_ first rows s557) (Q44 C44.r.r.r.l.r.b.b.r.r.l.b.r.r.r.b.r.e.r.e.r q) = R44 C44.r.r.r.l.r.b.b.r.r.l.b.r.r.r.b.r.e.r.e.r (d6n n_ in_ first rows s557) q := by
  refine Eq.trans ?_ (c2l n_ (fun y564 : Bool => R44 C44.r.r.r.l.r.b.b.r.r.l.b.r.r.r.b.r.e.r.e.r ⟨[(1, rl tsI4 in_), (2, ri first), (3, ri rows), (4, rC a00 n_), (8, rF 0), (11, ri s557.1), (12, ri ((gt in_ s557.1 dI4).1)), (49, ri (in_.length : Int)), (50, ri s557.1), (107, rb y564)], [(tsI4.leaves s557.2), []], [], 116⟩ q))
  unfold a5z
  refine (pre1 (b7d n_ in_ first rows s557 _)).trans ?_
  refine (cond_s (b := (n_.1 == 3)) ).trans (bif_g ?_ ?_)
  · refine (skip_eq).trans ?_
    refine (seqC_normal (st' := ⟨[(1, rl tsI4 in_), (2, ri first), (3, ri rows), (4, rC a00 n_), (8, rF 0), (11, ri s557.1), (12, ri ((gt in_ s557.1 dI4).1)), (49, ri (in_.length : Int)), (50, ri s557.1), (107, rb (n_.1 == 3))], [(tsI4.leaves s557.2), []], [], 116⟩)).trans ?_
    kernel_rfl
  · refine (c9r n_ in_ first rows s557 _).trans ?_
    refine (seqC_normal (st' := (e2l n_ in_ first rows s557))).trans ?_
    kernel_rfl
def b1e : Option (Int × Int × Int × Int) := (bif (s557.1 == 0) then (some ((0 : Int), (gt in_ s557.1 dI4).1, s557.2.2.2.1, s557.2.2.2.2)) else (bif (s557.1 == 1) then (some (s557.2.1, s557.2.2.1, (0 : Int), (gt in_ s557.1 dI4).1)) else none))
abbrev e2m (y565 : (Int × Int × Int × Int)) : St := ⟨[(1, rl tsI4 in_), (2, ri first), (3, ri rows), (4, rC a00 n_), (8, rF 0), (49, ri (in_.length : Int)), (50, ri s557.1)], [(tsI4.leaves y565), []], [], 116⟩
theorem c9s : R44 C44.r.r.r.l.r.b.b.r.r.l.b.r.r.r.b.r.e.r.e.r.t (d6n n_ in_ first rows s557) q = Option.bind (b1e in_ s557) (fun y565 : (Int × Int × Int × Int) => q .normal (e2m n_ in_ first rows s557 y565)) := .trans (by kernel_rfl) (bif_b some_b (bif_b some_b none_b))
def b1b : Option (Int × Int × Int × Int) := (bif (s557.1 == 0) then (some (first, (IntKind.wrap .i64 (first + rows)), s557.2.2.2.1, s557.2.2.2.2)) else (bif (s557.1 == 1) then (some (s557.2.1, s557.2.2.1, first, (IntKind.wrap .i64 (first + rows)))) else none))
abbrev e2n (y566 : (Int × Int × Int × Int)) : St := ⟨[(1, rl tsI4 in_), (2, ri first), (3, ri rows), (4, rC a00 n_), (8, rF 0), (49, ri (in_.length : Int)), (50, ri s557.1)], [(tsI4.leaves y566), []], [], 116⟩
theorem c9n : R44 C44.r.r.r.l.r.b.b.r.r.l.b.r.r.r.b.r.e.r.e.r.e (d6n n_ in_ first rows s557) q = Option.bind (b1b first rows s557) (fun y566 : (Int × Int × Int × Int) => q .normal (e2n n_ in_ first rows s557 y566)) := .trans (by kernel_rfl) (bif_b some_b (bif_b some_b none_b))
def b35 : Option (Int × Int × Int × Int) := (Option.bind (b37 in_ s557) (fun y558 : Unit => (bif (a3d n_) then (Option.bind (b1c n_ in_ first rows s557) (fun y561 : (Int × Int × Int × Int) => (some y561))) else (bif (n_.1 == 9) then (Option.bind (b1d in_ first rows s557) (fun y563 : (Int × Int × Int × Int) => (some y563))) else (bif (a3e n_) then (Option.bind (b1e in_ s557) (fun y565 : (Int × Int × Int × Int) => (some y565))) else (Option.bind (b1b first rows s557) (fun y566 : (Int × Int × Int × Int) => (some y566))))))))
abbrev e2o : St := ⟨[(1, rl tsI4 in_), (2, ri first), (3, ri rows), (4, rC a00 n_), (8, rF 0), (49, ri (in_.length : Int)), (50, ri s557.1)], [(tsI4.leaves y567), []], [], 116⟩
theorem d46 : R44 C44.r.r.r.l.r.b.b.r.r.l (S44_3 n_ in_ first rows s557) (Q44 C44.r.r.r.l.r.b.b.r.r.r q) = Option.bind (b35 n_ in_ first rows s557) (fun y567 : (Int × Int × Int × Int) => R44 C44.r.r.r.l.r.b.b.r.r.r (e2o n_ in_ first rows s557 y567) q) := by
  refine .trans ?_ (bind_b fun y558 => (bif_b (bind_b fun y561 => some_b) (bif_b (bind_b fun y563 => some_b) (bif_b (bind_b fun y565 => some_b) (bind_b fun y566 => some_b)))))
  refine (block_push (id := 2)).trans ?_
  refine (pre2 (d4a n_ in_ first rows s557 _)).trans (bind_g fun y558 => ?_)
  refine (pre1 (c9k n_ in_ first rows s557 _)).trans ?_
  refine (block_push (id := 3)).trans ?_
  refine .trans seq_push ?_
  refine (c9l n_ in_ first rows s557 _).trans ?_
  refine (cond_s (b := (a3d n_)) ).trans (bif_g ?_ ?_)
  · refine (c9p n_ in_ first rows s557 _).trans (bind_g fun y561 => ?_)
    refine block_normal.trans ?_
    refine block_normal.trans ?_
    refine (seqC_normal (st' := (e2i n_ in_ first rows s557 y561))).trans ?_
    kernel_rfl
  · refine (pre1 (b79 n_ in_ first rows s557 _)).trans ?_
    refine (cond_e (b := (n_.1 == 9)) (st' := (S44_5 n_ in_ first rows s557)) ).trans (bif_g ?_ ?_)
    · refine (c9q n_ in_ first rows s557 _).trans (bind_g fun y563 => ?_)
      refine block_normal.trans ?_
      refine block_normal.trans ?_
      refine (seqC_normal (st' := (e2j n_ in_ first rows s557 y563))).trans ?_
      kernel_rfl
    · refine .trans seq_push ?_
      refine (c9m n_ in_ first rows s557 _).trans ?_
      refine (cond_s (b := (a3e n_)) ).trans (bif_g ?_ ?_)
      · refine (c9s n_ in_ first rows s557 _).trans (bind_g fun y565 => ?_)
        refine block_normal.trans ?_
        refine block_normal.trans ?_
        refine (seqC_normal (st' := (e2m n_ in_ first rows s557 y565))).trans ?_
        kernel_rfl
      · refine (c9n n_ in_ first rows s557 _).trans (bind_g fun y566 => ?_)
        refine block_normal.trans ?_
        refine block_normal.trans ?_
        refine (seqC_normal (st' := (e2n n_ in_ first rows s557 y566))).trans ?_
        kernel_rfl
theorem c9t : R44 C44.r.r.r.l.r.b.b.r.r.r (e2o n_ in_ first rows s557 y567) q = q .normal ⟨[(1, rl tsI4 in_), (2, ri first), (3, ri rows), (4, rC a00 n_), (8, rF 0), (49, ri (in_.length : Int)), (50, ri (IntKind.wrap .i64 (s557.1 + 1)))], [(tsI4.leaves y567), []], [], 116⟩ := by kernel_rfl
def a75 : Option ((Int × Int × Int × Int × Int) ⊕ (Int × Int × Int × Int × Int)) := (bif (decide (s557.1 < (in_.length : Int))) then (Option.bind (b35 n_ in_ first rows s557) (fun y567 : (Int × Int × Int × Int) => (some (Sum.inl ((IntKind.wrap .i64 (s557.1 + 1)), y567.1, y567.2.1, y567.2.2.1, y567.2.2.2))))) else (some (Sum.inr s557)))
abbrev d6o : St := ⟨[(1, rl tsI4 in_), (2, ri first), (3, ri rows), (4, rC a00 n_), (8, rF 0), (49, ri (in_.length : Int)), (50, ri y568.1)], [(tsI4.leaves y568.2), []], [], 116⟩
theorem c6c : R44 C44.r.r.r.l.r.b.b (S44_3 n_ in_ first rows s557) (loopKont 2 q) = Option.bind (a75 n_ in_ first rows s557) (either (fun y : (Int × Int × Int × Int × Int) => q .normal ⟨[(1, rl tsI4 in_), (2, ri first), (3, ri rows), (4, rC a00 n_), (8, rF 0), (49, ri (in_.length : Int)), (50, ri y.1)], [(tsI4.leaves y.2), []], [], 116⟩) (fun y568 : (Int × Int × Int × Int × Int) => q (.exit 1) (d6o n_ in_ first rows y568))) := by
  refine .trans ?_ (bif_b (bind_b fun y567 => e2_0) e2_1)
  refine (pre1 (c6a n_ in_ first rows s557 _)).trans ?_
  refine .trans seq_push ?_
  refine (cond_e (b := (decide (s557.1 < (in_.length : Int)))) (st' := (S44_3 n_ in_ first rows s557)) ).trans (bif_g ?_ ?_)
  · refine (skip_eq).trans ?_
    refine (seqC_normal (st' := (S44_3 n_ in_ first rows s557))).trans ?_
    refine .trans seq_push ?_
    refine (d46 n_ in_ first rows s557 _).trans (bind_g fun y567 => ?_)
    refine (c9t n_ in_ first rows s557 y567 _).trans ?_
    kernel_rfl
  · refine ((exit_eq (j := 1))).trans ?_
    refine seqC_exit.trans ?_
    kernel_rfl
theorem d47 : R44 C44.r.r.r.l.r.b (S44_2 n_ in_ first rows) q = Option.bind (iterN (a75 n_ in_ first rows) LL ((0 : Int), (0 : Int), (0 : Int), (0 : Int), (0 : Int))) (fun y568 : (Int × Int × Int × Int × Int) => q (.exit 1) (d6o n_ in_ first rows y568)) :=
  Eq.trans (by kernel_rfl) (loop_iter1 (S := fun s557 : (Int × Int × Int × Int × Int) => (S44_3 n_ in_ first rows s557)) (Y1 := fun y568 : (Int × Int × Int × Int × Int) => ((.exit 1), (d6o n_ in_ first rows y568))) (fun s q => c6c n_ in_ first rows s q) (fun z => rfl) LL ((0 : Int), (0 : Int), (0 : Int), (0 : Int), (0 : Int)))
theorem c6b : P44 1 C44.r.r.r.r ⟨[(8, rF 0)], [(tsI4.leaves y568.2), []], [], 116⟩ k = k ⟨[(8, rF 0), (9, ri 0)], [(tsI4.leaves y568.2), []], [], 116⟩ := by kernel_rfl
/-- quilt/kern.Needs -/
def b0j : Option (I4 × Int) := (Option.bind (a1d n_ in_) (fun y481 : (I4 × Int) => (bif (y481.2 != 0) then (some (((0 : Int), (0 : Int), (0 : Int), (0 : Int)), y481.2)) else (bif (a47 first rows y481) then (some (((0 : Int), (0 : Int), (0 : Int), (0 : Int)), (1 : Int))) else (Option.bind (iterN (a75 n_ in_ first rows) LL ((0 : Int), (0 : Int), (0 : Int), (0 : Int), (0 : Int))) (fun y568 : (Int × Int × Int × Int × Int) => (some (y568.2, (0 : Int)))))))))
theorem d45 : stepS E cp44 noE 49 [rA a00 n_, rl tsI4 in_, ri first, ri rows] = Option.bind (b0j n_ in_ first rows) (fun y : (I4 × Int) => some (.tup [rA tsI4 y.1, ri y.2] : R)) := by
  refine .trans ?_ (bind_b fun y481 => (bif_b some_b (bif_b some_b (bind_b fun y568 => some_b))))
  refine (stepG_is (nt := 116) (regs := [(0, rA a00 n_), (1, rl tsI4 in_), (2, ri first), (3, ri rows)])).trans ?_
  refine (pre2 (d48 n_ in_ first rows _)).trans (bind_g fun y481 => ?_)
  refine .trans seq_push ?_
  refine (block_push (id := 0)).trans ?_
  refine (pre1 (b78 n_ in_ first rows y481 _)).trans ?_
  refine (cond_e (b := (y481.2 != 0)) (st' := (S44_0 n_ in_ first rows y481)) ).trans (bif_g ?_ ?_)
  · refine (pre1 (d44 n_ in_ first rows y481 _)).trans ?_
    refine (ret_eq).trans ?_
    refine block_ret.trans ?_
    refine seqC_ret.trans ?_
    kernel_rfl
  · refine (pre1 (d49 n_ in_ first rows y481 _)).trans ?_
    refine (cond_e (b := (a47 first rows y481)) (st' := (S44_1 n_ in_ first rows)) ).trans (bif_g ?_ ?_)
    · refine (pre1 (c69 n_ in_ first rows _)).trans ?_
      refine (ret_eq).trans ?_
      refine block_ret.trans ?_
      refine seqC_ret.trans ?_
      kernel_rfl
    · refine (skip_eq).trans ?_
      refine block_normal.trans ?_
      refine (seqC_normal (st' := (S44_1 n_ in_ first rows))).trans ?_
      refine .trans seq_push ?_
      refine (pre1 (d43 n_ in_ first rows _)).trans ?_
      refine (block_push (id := 1)).trans ?_
      refine (d47 n_ in_ first rows _).trans (bind_g fun y568 => ?_)
      refine block_same.trans ?_
      refine (seqC_normal (st' := ⟨[(8, rF 0)], [(tsI4.leaves y568.2), []], [], 116⟩)).trans ?_
      refine (pre1 (c6b y568 _)).trans ?_
      refine (ret_eq).trans ?_
      kernel_rfl
noncomputable def cp45 : CallP := withC cp44 49 [(.agg a00), (pL tsI4), pI, pI] (.tup [(.agg tsI4), pI]) (fun y : (I4 × Int) => (y.1, y.2, ())) (fun x => b0j x.1 x.2.1 x.2.2.1 x.2.2.2.1)
theorem e50 : PureOK E cp45 := conS eok e4z noE_ok fun x => Eq.mp (by kernel_rfl) (d45 x.1 x.2.1 x.2.2.1 x.2.2.2.1)
end
section
variable {α β : Type} (v_ : I4) (w_ : d7j) (need : I2) (k : St → Option α)
noncomputable abbrev C45 := codeOf E.P 50
noncomputable abbrev P45 := @preK α E 50 cp45 noE
abbrev S45_0 : St := ⟨[(3, rC tsI4 v_), (4, rC a3p w_), (5, rC tsI2 need), (7, ri v_.1)], [], [], 68⟩
theorem d9j : P45 2 C45 ⟨[(0, rA tsI4 v_), (1, rA a3p w_), (2, rA tsI2 need)], [], [], 68⟩ k = k (S45_0 v_ w_ need) := by kernel_rfl
def b5e : Option Bool := (bif (decide (w_.1 < 0)) then (some true) else (bif (decide (w_.2.1 < 0)) then (some true) else (bif (decide (w_.1 > v_.1)) then (some true) else (bif (decide (w_.2.1 > (IntKind.wrap .i64 (v_.1 - w_.1)))) then (some true) else (Option.bind (a9f (v_.1, v_.2.1, v_.2.2.1)) (fun y574 : Int => (some ((w_.2.2.length : Int) != (IntKind.wrap .i64 (w_.2.1 * y574))))))))))
theorem d9m : P45 1 C45.r.r.l (S45_0 v_ w_ need) k = Option.bind (b5e v_ w_) (fun y575 : Bool => k ⟨[(4, rC a3p w_), (5, rC tsI2 need), (45, rb y575)], [], [], 68⟩) := .trans (by kernel_rfl) (bif_b some_b (bif_b some_b (bif_b some_b (bif_b some_b (bind_b fun y574 => some_b)))))
abbrev S45_1 : St := ⟨[(4, rC a3p w_), (5, rC tsI2 need)], [], [], 68⟩
theorem d9k : P45 1 C45.r.r.l.r.t (S45_1 w_ need) k = k ⟨[(6, rb false)], [], [], 68⟩ := by kernel_rfl
def b5f (K : Bool → β) : β := (bif (need.1 == need.2) then (K true) else (bif (decide (w_.1 ≤ need.1)) then (K (decide (need.2 ≤ (IntKind.wrap .i64 (w_.1 + w_.2.1))))) else (K false)))
def a8g : Bool := b5f w_ need (fun y => y)
theorem d01 (K : Bool → β) : b5f w_ need K = K (a8g w_ need) := (bif_k K rfl (bif_k K rfl rfl))
theorem d9n : P45 1 C45.r.r.r (S45_1 w_ need) k = k ⟨[(6, rb (a8g w_ need))], [], [], 68⟩ := Eq.trans (by kernel_rfl) (d01 w_ need (fun y576 : Bool => k ⟨[(6, rb y576)], [], [], 68⟩))
/-- quilt/kern.fits -/
def a6g : Option Bool := (Option.bind (b5e v_ w_) (fun y575 : Bool => (bif y575 then (some false) else (some (a8g w_ need)))))
theorem d9l : stepS E cp45 noE 50 [rA tsI4 v_, rA a3p w_, rA tsI2 need] = Option.bind (a6g v_ w_ need) (fun y : Bool => some (rb y : R)) := by
  refine .trans ?_ (bind_b fun y575 => (bif_b some_b some_b))
  refine (stepG_is (nt := 68) (regs := [(0, rA tsI4 v_), (1, rA a3p w_), (2, rA tsI2 need)])).trans ?_
  refine (pre2 (d9j v_ w_ need _)).trans ?_
  refine .trans seq_push ?_
  refine (pre1 (d9m v_ w_ need _)).trans (bind_g fun y575 => ?_)
  refine (cond_e (b := y575) (st' := (S45_1 w_ need)) ).trans (bif_g ?_ ?_)
  · refine (pre1 (d9k w_ need _)).trans ?_
    refine (ret_eq).trans ?_
    refine seqC_ret.trans ?_
    kernel_rfl
  · refine (skip_eq).trans ?_
    refine (seqC_normal (st' := (S45_1 w_ need))).trans ?_
    refine (pre1 (d9n w_ need _)).trans ?_
    refine (ret_eq).trans ?_
    kernel_rfl
noncomputable def cp46 : CallP := withC cp45 50 [(.agg tsI4), (.agg a3p), (.agg tsI2)] (.one pB) (fun y : Bool => y) (fun x => a6g x.1 x.2.1 x.2.2.1)
theorem e51 : PureOK E cp46 := conS eok e50 noE_ok fun x => Eq.mp (by kernel_rfl) (d9l x.1 x.2.1 x.2.2.1)
end
section
variable {α β : Type} (n_ : Node) (p_ : pane) (k : St → Option α)
noncomputable abbrev C46 := codeOf E.P 70
noncomputable abbrev P46 := @preK α E 70 cp46 noE
theorem d9h : P46 2 C46 ⟨[(0, rA a00 n_), (1, rA a04 p_)], [], [], 6⟩ k = k ⟨[(4, .one (.fn 83 [.cell (a00.leaves n_), .cell (a04.leaves p_)]))], [], [], 6⟩ := by kernel_rfl
/-- quilt/kern.conv -/
def b3u (K : U15 → β) : β := (K ((n_.1, n_.2.1, n_.2.2.1, n_.2.2.2.1, n_.2.2.2.2.1, n_.2.2.2.2.2.1, n_.2.2.2.2.2.2.1, n_.2.2.2.2.2.2.2.1, n_.2.2.2.2.2.2.2.2.1, n_.2.2.2.2.2.2.2.2.2.1, n_.2.2.2.2.2.2.2.2.2.2.1, n_.2.2.2.2.2.2.2.2.2.2.2.1, n_.2.2.2.2.2.2.2.2.2.2.2.2.1, n_.2.2.2.2.2.2.2.2.2.2.2.2.2, ()), (p_.1, p_.2.1, p_.2.2.1, p_.2.2.2.1, p_.2.2.2.2.1, p_.2.2.2.2.2.1, p_.2.2.2.2.2.2, ()), ()))
def a0c : U15 := b3u n_ p_ (fun y => y)
theorem e22 (K : U15 → β) : b3u n_ p_ K = K (a0c n_ p_) := rfl
theorem d9i : stepS E cp46 noE 70 [rA a00 n_, rA a04 p_] = (fun y : U15 => some (.one (.fn 83 [.cell [di y.1.1, dl (.one (.int .i64)) y.1.2.1, di y.1.2.2.1, di y.1.2.2.2.1, di y.1.2.2.2.2.1, di y.1.2.2.2.2.2.1, di y.1.2.2.2.2.2.2.1, di y.1.2.2.2.2.2.2.2.1, di y.1.2.2.2.2.2.2.2.2.1, di y.1.2.2.2.2.2.2.2.2.2.1, di y.1.2.2.2.2.2.2.2.2.2.2.1, di y.1.2.2.2.2.2.2.2.2.2.2.2.1, dl (.one (.int .i8)) y.1.2.2.2.2.2.2.2.2.2.2.2.2.1, dl (.one (.int .i32)) y.1.2.2.2.2.2.2.2.2.2.2.2.2.2.1], .cell [di y.2.1.1, di y.2.1.2.1, di y.2.1.2.2.1, di y.2.1.2.2.2.1, di y.2.1.2.2.2.2.1, di y.2.1.2.2.2.2.2.1, dl (.one (.int .i8)) y.2.1.2.2.2.2.2.2.1]]) : R)) (a0c n_ p_) := by
  refine Eq.trans ?_ (e22 n_ p_ (fun y : U15 => some (.one (.fn 83 [.cell [di y.1.1, dl (.one (.int .i64)) y.1.2.1, di y.1.2.2.1, di y.1.2.2.2.1, di y.1.2.2.2.2.1, di y.1.2.2.2.2.2.1, di y.1.2.2.2.2.2.2.1, di y.1.2.2.2.2.2.2.2.1, di y.1.2.2.2.2.2.2.2.2.1, di y.1.2.2.2.2.2.2.2.2.2.1, di y.1.2.2.2.2.2.2.2.2.2.2.1, di y.1.2.2.2.2.2.2.2.2.2.2.2.1, dl (.one (.int .i8)) y.1.2.2.2.2.2.2.2.2.2.2.2.2.1, dl (.one (.int .i32)) y.1.2.2.2.2.2.2.2.2.2.2.2.2.2.1], .cell [di y.2.1.1, di y.2.1.2.1, di y.2.1.2.2.1, di y.2.1.2.2.2.1, di y.2.1.2.2.2.2.1, di y.2.1.2.2.2.2.2.1, dl (.one (.int .i8)) y.2.1.2.2.2.2.2.2.1]]) : R)))
  refine (stepG_is (nt := 6) (regs := [(0, rA a00 n_), (1, rA a04 p_)])).trans ?_
  unfold b3u
  refine (pre2 (d9h n_ p_ _)).trans ?_
  refine (ret_eq).trans ?_
  kernel_rfl
noncomputable def cp47 : CallP := withC cp46 70 [(.agg a00), (.agg a04)] (.one (.one Z7)) (fun y : U15 => y) (fun x => some (a0c x.1 x.2.1))
theorem e52 : PureOK E cp47 := conS eok e51 noE_ok fun x => Eq.mp (by kernel_rfl) (d9i x.1 x.2.1)
end
section
variable {α β : Type} (n_ : Node) (p_ : pane) (k : St → Option α)
noncomputable abbrev C47 := codeOf E.P 71
noncomputable abbrev P47 := @preK α E 71 cp47 noE
theorem d9o : P47 2 C47 ⟨[(0, rA a00 n_), (1, rA a04 p_)], [], [], 6⟩ k = k ⟨[(4, .one (.fn 87 [.cell (a00.leaves n_), .cell (a04.leaves p_)]))], [], [], 6⟩ := by kernel_rfl
/-- quilt/kern.full -/
def b3w (K : U15 → β) : β := (K ((n_.1, n_.2.1, n_.2.2.1, n_.2.2.2.1, n_.2.2.2.2.1, n_.2.2.2.2.2.1, n_.2.2.2.2.2.2.1, n_.2.2.2.2.2.2.2.1, n_.2.2.2.2.2.2.2.2.1, n_.2.2.2.2.2.2.2.2.2.1, n_.2.2.2.2.2.2.2.2.2.2.1, n_.2.2.2.2.2.2.2.2.2.2.2.1, n_.2.2.2.2.2.2.2.2.2.2.2.2.1, n_.2.2.2.2.2.2.2.2.2.2.2.2.2, ()), (p_.1, p_.2.1, p_.2.2.1, p_.2.2.2.1, p_.2.2.2.2.1, p_.2.2.2.2.2.1, p_.2.2.2.2.2.2, ()), ()))
def a0d : U15 := b3w n_ p_ (fun y => y)
theorem e23 (K : U15 → β) : b3w n_ p_ K = K (a0d n_ p_) := rfl
theorem d9p : stepS E cp47 noE 71 [rA a00 n_, rA a04 p_] = (fun y : U15 => some (.one (.fn 87 [.cell [di y.1.1, dl (.one (.int .i64)) y.1.2.1, di y.1.2.2.1, di y.1.2.2.2.1, di y.1.2.2.2.2.1, di y.1.2.2.2.2.2.1, di y.1.2.2.2.2.2.2.1, di y.1.2.2.2.2.2.2.2.1, di y.1.2.2.2.2.2.2.2.2.1, di y.1.2.2.2.2.2.2.2.2.2.1, di y.1.2.2.2.2.2.2.2.2.2.2.1, di y.1.2.2.2.2.2.2.2.2.2.2.2.1, dl (.one (.int .i8)) y.1.2.2.2.2.2.2.2.2.2.2.2.2.1, dl (.one (.int .i32)) y.1.2.2.2.2.2.2.2.2.2.2.2.2.2.1], .cell [di y.2.1.1, di y.2.1.2.1, di y.2.1.2.2.1, di y.2.1.2.2.2.1, di y.2.1.2.2.2.2.1, di y.2.1.2.2.2.2.2.1, dl (.one (.int .i8)) y.2.1.2.2.2.2.2.2.1]]) : R)) (a0d n_ p_) := by
  refine Eq.trans ?_ (e23 n_ p_ (fun y : U15 => some (.one (.fn 87 [.cell [di y.1.1, dl (.one (.int .i64)) y.1.2.1, di y.1.2.2.1, di y.1.2.2.2.1, di y.1.2.2.2.2.1, di y.1.2.2.2.2.2.1, di y.1.2.2.2.2.2.2.1, di y.1.2.2.2.2.2.2.2.1, di y.1.2.2.2.2.2.2.2.2.1, di y.1.2.2.2.2.2.2.2.2.2.1, di y.1.2.2.2.2.2.2.2.2.2.2.1, di y.1.2.2.2.2.2.2.2.2.2.2.2.1, dl (.one (.int .i8)) y.1.2.2.2.2.2.2.2.2.2.2.2.2.1, dl (.one (.int .i32)) y.1.2.2.2.2.2.2.2.2.2.2.2.2.2.1], .cell [di y.2.1.1, di y.2.1.2.1, di y.2.1.2.2.1, di y.2.1.2.2.2.1, di y.2.1.2.2.2.2.1, di y.2.1.2.2.2.2.2.1, dl (.one (.int .i8)) y.2.1.2.2.2.2.2.2.1]]) : R)))
  refine (stepG_is (nt := 6) (regs := [(0, rA a00 n_), (1, rA a04 p_)])).trans ?_
  unfold b3w
  refine (pre2 (d9o n_ p_ _)).trans ?_
  refine (ret_eq).trans ?_
  kernel_rfl
noncomputable def cp48 : CallP := withC cp47 71 [(.agg a00), (.agg a04)] (.one (.one Z6)) (fun y : U15 => y) (fun x => some (a0d x.1 x.2.1))
theorem e53 : PureOK E cp48 := conS eok e52 noE_ok fun x => Eq.mp (by kernel_rfl) (d9p x.1 x.2.1)
end
section
variable {α β : Type} (n_ : Node) (p_ : pane) (k : St → Option α)
noncomputable abbrev C48 := codeOf E.P 72
noncomputable abbrev P48 := @preK α E 72 cp48 noE
theorem e02 : P48 2 C48 ⟨[(0, rA a00 n_), (1, rA a04 p_)], [], [], 6⟩ k = k ⟨[(4, .one (.fn 88 [.cell (a00.leaves n_), .cell (a04.leaves p_)]))], [], [], 6⟩ := by kernel_rfl
/-- quilt/kern.pool -/
def b46 (K : U15 → β) : β := (K ((n_.1, n_.2.1, n_.2.2.1, n_.2.2.2.1, n_.2.2.2.2.1, n_.2.2.2.2.2.1, n_.2.2.2.2.2.2.1, n_.2.2.2.2.2.2.2.1, n_.2.2.2.2.2.2.2.2.1, n_.2.2.2.2.2.2.2.2.2.1, n_.2.2.2.2.2.2.2.2.2.2.1, n_.2.2.2.2.2.2.2.2.2.2.2.1, n_.2.2.2.2.2.2.2.2.2.2.2.2.1, n_.2.2.2.2.2.2.2.2.2.2.2.2.2, ()), (p_.1, p_.2.1, p_.2.2.1, p_.2.2.2.1, p_.2.2.2.2.1, p_.2.2.2.2.2.1, p_.2.2.2.2.2.2, ()), ()))
def a0e : U15 := b46 n_ p_ (fun y => y)
theorem e26 (K : U15 → β) : b46 n_ p_ K = K (a0e n_ p_) := rfl
theorem e03 : stepS E cp48 noE 72 [rA a00 n_, rA a04 p_] = (fun y : U15 => some (.one (.fn 88 [.cell [di y.1.1, dl (.one (.int .i64)) y.1.2.1, di y.1.2.2.1, di y.1.2.2.2.1, di y.1.2.2.2.2.1, di y.1.2.2.2.2.2.1, di y.1.2.2.2.2.2.2.1, di y.1.2.2.2.2.2.2.2.1, di y.1.2.2.2.2.2.2.2.2.1, di y.1.2.2.2.2.2.2.2.2.2.1, di y.1.2.2.2.2.2.2.2.2.2.2.1, di y.1.2.2.2.2.2.2.2.2.2.2.2.1, dl (.one (.int .i8)) y.1.2.2.2.2.2.2.2.2.2.2.2.2.1, dl (.one (.int .i32)) y.1.2.2.2.2.2.2.2.2.2.2.2.2.2.1], .cell [di y.2.1.1, di y.2.1.2.1, di y.2.1.2.2.1, di y.2.1.2.2.2.1, di y.2.1.2.2.2.2.1, di y.2.1.2.2.2.2.2.1, dl (.one (.int .i8)) y.2.1.2.2.2.2.2.2.1]]) : R)) (a0e n_ p_) := by
  refine Eq.trans ?_ (e26 n_ p_ (fun y : U15 => some (.one (.fn 88 [.cell [di y.1.1, dl (.one (.int .i64)) y.1.2.1, di y.1.2.2.1, di y.1.2.2.2.1, di y.1.2.2.2.2.1, di y.1.2.2.2.2.2.1, di y.1.2.2.2.2.2.2.1, di y.1.2.2.2.2.2.2.2.1, di y.1.2.2.2.2.2.2.2.2.1, di y.1.2.2.2.2.2.2.2.2.2.1, di y.1.2.2.2.2.2.2.2.2.2.2.1, di y.1.2.2.2.2.2.2.2.2.2.2.2.1, dl (.one (.int .i8)) y.1.2.2.2.2.2.2.2.2.2.2.2.2.1, dl (.one (.int .i32)) y.1.2.2.2.2.2.2.2.2.2.2.2.2.2.1], .cell [di y.2.1.1, di y.2.1.2.1, di y.2.1.2.2.1, di y.2.1.2.2.2.1, di y.2.1.2.2.2.2.1, di y.2.1.2.2.2.2.2.1, dl (.one (.int .i8)) y.2.1.2.2.2.2.2.2.1]]) : R)))
  refine (stepG_is (nt := 6) (regs := [(0, rA a00 n_), (1, rA a04 p_)])).trans ?_
  unfold b46
  refine (pre2 (e02 n_ p_ _)).trans ?_
  refine (ret_eq).trans ?_
  kernel_rfl
noncomputable def cp49 : CallP := withC cp48 72 [(.agg a00), (.agg a04)] (.one (.one Z5)) (fun y : U15 => y) (fun x => some (a0e x.1 x.2.1))
theorem e54 : PureOK E cp49 := conS eok e53 noE_ok fun x => Eq.mp (by kernel_rfl) (e03 x.1 x.2.1)
end
section
variable {α β : Type} (n_ : Node) (p_ : pane) (q_ : pane) (k : St → Option α)
noncomputable abbrev C49 := codeOf E.P 73
noncomputable abbrev P49 := @preK α E 73 cp49 noE
theorem e00 : P49 2 C49 ⟨[(0, rA a00 n_), (1, rA a04 p_), (2, rA a04 q_)], [], [], 8⟩ k = k ⟨[(6, .one (.fn 91 [.cell (a04.leaves p_), .cell (a04.leaves q_), .cell (a00.leaves n_)]))], [], [], 8⟩ := by kernel_rfl
/-- quilt/kern.pair -/
def b44 (K : U19 → β) : β := (K ((p_.1, p_.2.1, p_.2.2.1, p_.2.2.2.1, p_.2.2.2.2.1, p_.2.2.2.2.2.1, p_.2.2.2.2.2.2, ()), (q_.1, q_.2.1, q_.2.2.1, q_.2.2.2.1, q_.2.2.2.2.1, q_.2.2.2.2.2.1, q_.2.2.2.2.2.2, ()), (n_.1, n_.2.1, n_.2.2.1, n_.2.2.2.1, n_.2.2.2.2.1, n_.2.2.2.2.2.1, n_.2.2.2.2.2.2.1, n_.2.2.2.2.2.2.2.1, n_.2.2.2.2.2.2.2.2.1, n_.2.2.2.2.2.2.2.2.2.1, n_.2.2.2.2.2.2.2.2.2.2.1, n_.2.2.2.2.2.2.2.2.2.2.2.1, n_.2.2.2.2.2.2.2.2.2.2.2.2.1, n_.2.2.2.2.2.2.2.2.2.2.2.2.2, ()), ()))
def a0a : U19 := b44 n_ p_ q_ (fun y => y)
theorem e25 (K : U19 → β) : b44 n_ p_ q_ K = K (a0a n_ p_ q_) := rfl
theorem e01 : stepS E cp49 noE 73 [rA a00 n_, rA a04 p_, rA a04 q_] = (fun y : U19 => some (.one (.fn 91 [.cell [di y.1.1, di y.1.2.1, di y.1.2.2.1, di y.1.2.2.2.1, di y.1.2.2.2.2.1, di y.1.2.2.2.2.2.1, dl (.one (.int .i8)) y.1.2.2.2.2.2.2.1], .cell [di y.2.1.1, di y.2.1.2.1, di y.2.1.2.2.1, di y.2.1.2.2.2.1, di y.2.1.2.2.2.2.1, di y.2.1.2.2.2.2.2.1, dl (.one (.int .i8)) y.2.1.2.2.2.2.2.2.1], .cell [di y.2.2.1.1, dl (.one (.int .i64)) y.2.2.1.2.1, di y.2.2.1.2.2.1, di y.2.2.1.2.2.2.1, di y.2.2.1.2.2.2.2.1, di y.2.2.1.2.2.2.2.2.1, di y.2.2.1.2.2.2.2.2.2.1, di y.2.2.1.2.2.2.2.2.2.2.1, di y.2.2.1.2.2.2.2.2.2.2.2.1, di y.2.2.1.2.2.2.2.2.2.2.2.2.1, di y.2.2.1.2.2.2.2.2.2.2.2.2.2.1, di y.2.2.1.2.2.2.2.2.2.2.2.2.2.2.1, dl (.one (.int .i8)) y.2.2.1.2.2.2.2.2.2.2.2.2.2.2.2.1, dl (.one (.int .i32)) y.2.2.1.2.2.2.2.2.2.2.2.2.2.2.2.2.1]]) : R)) (a0a n_ p_ q_) := by
  refine Eq.trans ?_ (e25 n_ p_ q_ (fun y : U19 => some (.one (.fn 91 [.cell [di y.1.1, di y.1.2.1, di y.1.2.2.1, di y.1.2.2.2.1, di y.1.2.2.2.2.1, di y.1.2.2.2.2.2.1, dl (.one (.int .i8)) y.1.2.2.2.2.2.2.1], .cell [di y.2.1.1, di y.2.1.2.1, di y.2.1.2.2.1, di y.2.1.2.2.2.1, di y.2.1.2.2.2.2.1, di y.2.1.2.2.2.2.2.1, dl (.one (.int .i8)) y.2.1.2.2.2.2.2.2.1], .cell [di y.2.2.1.1, dl (.one (.int .i64)) y.2.2.1.2.1, di y.2.2.1.2.2.1, di y.2.2.1.2.2.2.1, di y.2.2.1.2.2.2.2.1, di y.2.2.1.2.2.2.2.2.1, di y.2.2.1.2.2.2.2.2.2.1, di y.2.2.1.2.2.2.2.2.2.2.1, di y.2.2.1.2.2.2.2.2.2.2.2.1, di y.2.2.1.2.2.2.2.2.2.2.2.2.1, di y.2.2.1.2.2.2.2.2.2.2.2.2.2.1, di y.2.2.1.2.2.2.2.2.2.2.2.2.2.2.1, dl (.one (.int .i8)) y.2.2.1.2.2.2.2.2.2.2.2.2.2.2.2.1, dl (.one (.int .i32)) y.2.2.1.2.2.2.2.2.2.2.2.2.2.2.2.2.1]]) : R)))
  refine (stepG_is (nt := 8) (regs := [(0, rA a00 n_), (1, rA a04 p_), (2, rA a04 q_)])).trans ?_
  unfold b44
  refine (pre2 (e00 n_ p_ q_ _)).trans ?_
  refine (ret_eq).trans ?_
  kernel_rfl
noncomputable def cp50 : CallP := withC cp49 73 [(.agg a00), (.agg a04), (.agg a04)] (.one (.one Z8)) (fun y : U19 => y) (fun x => some (a0a x.1 x.2.1 x.2.2.1))
theorem e55 : PureOK E cp50 := conS eok e54 noE_ok fun x => Eq.mp (by kernel_rfl) (e01 x.1 x.2.1 x.2.2.1)
end
end Go.V.P
