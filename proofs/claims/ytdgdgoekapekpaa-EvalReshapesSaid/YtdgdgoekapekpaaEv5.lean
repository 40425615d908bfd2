/- What functions compute. -/
import Derived.Test.YtdgdgoekapekpaaEv4
namespace Go.V.P
open Go.RowKit Go.V Go.Proofs
set_option linter.unusedVariables false
set_option maxRecDepth 100000
section
variable {α β : Type} (n_ : Node) (in_ : (List I4)) (w_ : A5) (r_ : Int) (y569 : (I4 × Int)) (s666 : U9) (y690 : (Int × Int × Int × Int × Int × Int × (List Int) × Int × Int × Int × Int × Int × Int × (List Int))) (y691 : U9) (y693 : (I4 × Int)) (y718 : U27) (s1347 : ((List Int) × Int)) (s1466 : ((List Int) × Int)) (y1504 : (List Int)) (y1505 : ((List Int) × Int)) (y1506 : ((List Int) × Int)) (k : St → Option α) (q : Kont α)
noncomputable abbrev C75 := codeOf E.P 34
noncomputable abbrev P75 := @preK α E 34 cp71 ce4
noncomputable abbrev R75 := @runCode α E 34 cp71 ce4
abbrev S75_0 : St := ⟨[(1, rl tsI4 in_), (3, ri r_), (4, rC a00 n_), (6, rC tsA5 w_), (10, rF 0), (11, ri y569.2)], [(tsI4.leaves y569.1)], [], 89⟩
theorem e1z : P75 2 C75 ⟨[(0, rA a00 n_), (1, rl tsI4 in_), (2, rA tsA5 w_), (3, ri r_)], [], [], 89⟩ k = Option.bind (b0j n_ in_ r_ (1 : Int)) fun y569 : (I4 × Int) => k (S75_0 n_ in_ w_ r_ y569) := by kernel_rfl
theorem c0x : P75 1 C75.r.r.l (S75_0 n_ in_ w_ r_ y569) k = k ⟨[(1, rl tsI4 in_), (3, ri r_), (4, rC a00 n_), (6, rC tsA5 w_), (10, rF 0), (11, ri y569.2), (29, rb (y569.2 != 0))], [(tsI4.leaves y569.1)], [], 89⟩ := by kernel_rfl
theorem e1w : P75 1 C75.r.r.l.r.t (S75_0 n_ in_ w_ r_ y569) k = k ⟨[(8, .one (.ow (.one (.int .i8)) [] (.v 8))), (9, ri y569.2)], [[]], [], 89⟩ := by kernel_rfl
abbrev S75_1 : St := ⟨[(1, rl tsI4 in_), (3, ri r_), (4, rC a00 n_), (6, rC tsA5 w_), (10, rF 0)], [(tsI4.leaves y569.1)], [], 89⟩
abbrev S75_2 : St := ⟨[(1, rl tsI4 in_), (3, ri r_), (4, rC a00 n_), (6, rC tsA5 w_), (10, rF 0), (12, rF 1)], [(tsI4.leaves y569.1), [di 0, di 0, di 0, di 0, di 0, di 0, dl (.one (.int .i8)) [], di 0, di 0, di 0, di 0, di 0, di 0, dl (.one (.int .i8)) []]], [], 89⟩
theorem e1u : P75 1 C75.r.r.r (S75_1 n_ in_ w_ r_ y569) k = k (S75_2 n_ in_ w_ r_ y569) := by kernel_rfl
abbrev S75_3 : St := ⟨[(1, rl tsI4 in_), (3, ri r_), (4, rC a00 n_), (6, rC tsA5 w_), (10, rF 0), (12, rF 1), (31, rl tsI4 in_), (32, ri (in_.length : Int)), (33, ri 0)], [(tsI4.leaves y569.1), [di 0, di 0, di 0, di 0, di 0, di 0, dl (.one (.int .i8)) [], di 0, di 0, di 0, di 0, di 0, di 0, dl (.one (.int .i8)) []]], [], 89⟩
theorem e1v : P75 1 C75.r.r.r.r.l (S75_2 n_ in_ w_ r_ y569) k = k (S75_3 n_ in_ w_ r_ y569) := by kernel_rfl
abbrev S75_4 : St := ⟨[(1, rl tsI4 in_), (3, ri r_), (4, rC a00 n_), (6, rC tsA5 w_), (10, rF 0), (12, rF 1), (31, rl tsI4 in_), (32, ri (in_.length : Int)), (33, ri s666.1)], [(tsI4.leaves y569.1), (tsA8.leaves s666.2)], [], 89⟩
theorem d4b : P75 1 C75.r.r.r.r.l.r.b.b (S75_4 n_ in_ w_ r_ y569 s666) k = k ⟨[(1, rl tsI4 in_), (3, ri r_), (4, rC a00 n_), (6, rC tsA5 w_), (10, rF 0), (12, rF 1), (31, rl tsI4 in_), (32, ri (in_.length : Int)), (33, ri s666.1), (34, rb (decide (s666.1 < (in_.length : Int))))], [(tsI4.leaves y569.1), (tsA8.leaves s666.2)], [], 89⟩ := by kernel_rfl
def b6v : Option Unit := (bif (decide ((0 : Int) ≤ s666.1)) then (bif (decide (s666.1 < (in_.length : Int))) then (some ()) else none) else none)
abbrev S75_5 : St := ⟨[(1, rl tsI4 in_), (3, ri r_), (4, rC a00 n_), (6, rC tsA5 w_), (10, rF 0), (12, rF 1), (13, ri s666.1), (14, rF 2), (31, rl tsI4 in_), (32, ri (in_.length : Int)), (33, ri s666.1)], [(tsI4.leaves y569.1), (tsA8.leaves s666.2), (tsI4.leaves (gt in_ s666.1 dI4))], [], 89⟩
theorem e20 : P75 1 C75.r.r.r.r.l.r.b.b.r.r.l.b (S75_4 n_ in_ w_ r_ y569 s666) k = Option.bind (b6v in_ s666) (fun y679 : Unit => k (S75_5 n_ in_ w_ r_ y569 s666)) := .trans (by kernel_rfl) (bif_b (bif_b some_b none_b) none_b)
def b6w : Option Bool := (bif (s666.1 == 0) then (bif (s666.1 == 0) then (Option.bind (a6g (gt in_ s666.1 dI4) (w_.1, w_.2.1, w_.2.2.1) (y569.1.1, y569.1.2.1)) (fun y685 : Bool => (some (!y685)))) else (bif (s666.1 == 1) then (Option.bind (a6g (gt in_ s666.1 dI4) (w_.1, w_.2.1, w_.2.2.1) y569.1.2.2) (fun y686 : Bool => (some (!y686)))) else none)) else (bif (s666.1 == 1) then (bif (s666.1 == 0) then (Option.bind (a6g (gt in_ s666.1 dI4) w_.2.2.2 (y569.1.1, y569.1.2.1)) (fun y687 : Bool => (some (!y687)))) else (bif (s666.1 == 1) then (Option.bind (a6g (gt in_ s666.1 dI4) w_.2.2.2 y569.1.2.2) (fun y688 : Bool => (some (!y688)))) else none)) else none))
theorem e21 : P75 1 C75.r.r.r.r.l.r.b.b.r.r.l.b.r.l (S75_5 n_ in_ w_ r_ y569 s666) k = Option.bind (b6w in_ w_ y569 s666) (fun y689 : Bool => k ⟨[(1, rl tsI4 in_), (3, ri r_), (4, rC a00 n_), (6, rC tsA5 w_), (10, rF 0), (12, rF 1), (13, ri s666.1), (14, rF 2), (31, rl tsI4 in_), (32, ri (in_.length : Int)), (33, ri s666.1), (46, rb y689)], [(tsI4.leaves y569.1), (tsA8.leaves s666.2), (tsI4.leaves (gt in_ s666.1 dI4))], [], 89⟩) := .trans (by kernel_rfl) (bif_b (bif_b (bind_b fun y685 => some_b) (bif_b (bind_b fun y686 => some_b) none_b)) (bif_b (bif_b (bind_b fun y687 => some_b) (bif_b (bind_b fun y688 => some_b) none_b)) none_b))
abbrev S75_6 : St := ⟨[(8, .one (.ow (.one (.int .i8)) [] (.v 8))), (9, ri 1)], [[], [], []], [], 89⟩
theorem d4c : P75 1 C75.r.r.r.r.l.r.b.b.r.r.l.b.r.l.r.t (S75_5 n_ in_ w_ r_ y569 s666) k = k S75_6 := by kernel_rfl
def b5b : Option (Int × Int × Int × Int × Int × Int × (List Int) × Int × Int × Int × Int × Int × Int × (List Int)) := (bif (s666.1 == 0) then (bif (s666.1 == 0) then (some ((gt in_ s666.1 dI4).1, (gt in_ s666.1 dI4).2.1, (gt in_ s666.1 dI4).2.2.1, (gt in_ s666.1 dI4).2.2.2, w_.1, w_.2.1, w_.2.2.1, s666.2.2.2.2.2.2.2.2.1, s666.2.2.2.2.2.2.2.2.2.1, s666.2.2.2.2.2.2.2.2.2.2.1, s666.2.2.2.2.2.2.2.2.2.2.2.1, s666.2.2.2.2.2.2.2.2.2.2.2.2.1, s666.2.2.2.2.2.2.2.2.2.2.2.2.2.1, s666.2.2.2.2.2.2.2.2.2.2.2.2.2.2)) else (bif (s666.1 == 1) then (some (s666.2.1, s666.2.2.1, s666.2.2.2.1, s666.2.2.2.2.1, s666.2.2.2.2.2.1, s666.2.2.2.2.2.2.1, s666.2.2.2.2.2.2.2.1, (gt in_ s666.1 dI4).1, (gt in_ s666.1 dI4).2.1, (gt in_ s666.1 dI4).2.2.1, (gt in_ s666.1 dI4).2.2.2, w_.1, w_.2.1, w_.2.2.1)) else none)) else (bif (s666.1 == 1) then (bif (s666.1 == 0) then (some ((gt in_ s666.1 dI4).1, (gt in_ s666.1 dI4).2.1, (gt in_ s666.1 dI4).2.2.1, (gt in_ s666.1 dI4).2.2.2, w_.2.2.2.1, w_.2.2.2.2.1, w_.2.2.2.2.2, s666.2.2.2.2.2.2.2.2.1, s666.2.2.2.2.2.2.2.2.2.1, s666.2.2.2.2.2.2.2.2.2.2.1, s666.2.2.2.2.2.2.2.2.2.2.2.1, s666.2.2.2.2.2.2.2.2.2.2.2.2.1, s666.2.2.2.2.2.2.2.2.2.2.2.2.2.1, s666.2.2.2.2.2.2.2.2.2.2.2.2.2.2)) else (bif (s666.1 == 1) then (some (s666.2.1, s666.2.2.1, s666.2.2.2.1, s666.2.2.2.2.1, s666.2.2.2.2.2.1, s666.2.2.2.2.2.2.1, s666.2.2.2.2.2.2.2.1, (gt in_ s666.1 dI4).1, (gt in_ s666.1 dI4).2.1, (gt in_ s666.1 dI4).2.2.1, (gt in_ s666.1 dI4).2.2.2, w_.2.2.2.1, w_.2.2.2.2.1, w_.2.2.2.2.2)) else none)) else none))
abbrev S75_7 : St := ⟨[(1, rl tsI4 in_), (3, ri r_), (4, rC a00 n_), (6, rC tsA5 w_), (10, rF 0), (12, rF 1), (31, rl tsI4 in_), (32, ri (in_.length : Int)), (33, ri s666.1)], [(tsI4.leaves y569.1), (tsA8.leaves y690), []], [], 89⟩
theorem d9a : R75 C75.r.r.r.r.l.r.b.b.r.r.l.b.r.r (S75_5 n_ in_ w_ r_ y569 s666) q = Option.bind (b5b in_ w_ s666) (fun y690 : (Int × Int × Int × Int × Int × Int × (List Int) × Int × Int × Int × Int × Int × Int × (List Int)) => q .normal (S75_7 n_ in_ w_ r_ y569 s666 y690)) := .trans (by kernel_rfl) (bif_b (bif_b some_b (bif_b some_b none_b)) (bif_b (bif_b some_b (bif_b some_b none_b)) none_b))
theorem d9b : R75 C75.r.r.r.r.l.r.b.b.r.r.r (S75_7 n_ in_ w_ r_ y569 s666 y690) q = q .normal ⟨[(1, rl tsI4 in_), (3, ri r_), (4, rC a00 n_), (6, rC tsA5 w_), (10, rF 0), (12, rF 1), (31, rl tsI4 in_), (32, ri (in_.length : Int)), (33, ri (IntKind.wrap .i64 (s666.1 + 1)))], [(tsI4.leaves y569.1), (tsA8.leaves y690), []], [], 89⟩ := by kernel_rfl
def a9m : Option (U9 ⊕ (U9 ⊕ Unit)) := (bif (decide (s666.1 < (in_.length : Int))) then (Option.bind (b6v in_ s666) (fun y679 : Unit => (Option.bind (b6w in_ w_ y569 s666) (fun y689 : Bool => (bif y689 then (some (Sum.inr (Sum.inr ()))) else (Option.bind (b5b in_ w_ s666) (fun y690 : (Int × Int × Int × Int × Int × Int × (List Int) × Int × Int × Int × Int × Int × Int × (List Int)) => (some (Sum.inl ((IntKind.wrap .i64 (s666.1 + 1)), y690.1, y690.2.1, y690.2.2.1, y690.2.2.2.1, y690.2.2.2.2.1, y690.2.2.2.2.2.1, y690.2.2.2.2.2.2.1, y690.2.2.2.2.2.2.2.1, y690.2.2.2.2.2.2.2.2.1, y690.2.2.2.2.2.2.2.2.2.1, y690.2.2.2.2.2.2.2.2.2.2.1, y690.2.2.2.2.2.2.2.2.2.2.2.1, y690.2.2.2.2.2.2.2.2.2.2.2.2.1, y690.2.2.2.2.2.2.2.2.2.2.2.2.2)))))))))) else (some (Sum.inr (Sum.inl s666))))
abbrev S75_8 : St := ⟨[(1, rl tsI4 in_), (3, ri r_), (4, rC a00 n_), (6, rC tsA5 w_), (10, rF 0), (12, rF 1), (31, rl tsI4 in_), (32, ri (in_.length : Int)), (33, ri y691.1)], [(tsI4.leaves y569.1), (tsA8.leaves y691.2)], [], 89⟩
theorem d4g : R75 C75.r.r.r.r.l.r.b.b (S75_4 n_ in_ w_ r_ y569 s666) (loopKont 2 q) = Option.bind (a9m in_ w_ y569 s666) (either (fun y : U9 => q .normal ⟨[(1, rl tsI4 in_), (3, ri r_), (4, rC a00 n_), (6, rC tsA5 w_), (10, rF 0), (12, rF 1), (31, rl tsI4 in_), (32, ri (in_.length : Int)), (33, ri y.1)], [(tsI4.leaves y569.1), (tsA8.leaves y.2)], [], 89⟩) (either (fun y691 : U9 => q (.exit 0) (S75_8 n_ in_ w_ r_ y569 y691)) (fun y692 : Unit => q .ret S75_6))) := by
  refine .trans ?_ (bif_b (bind_b fun y679 => (bind_b fun y689 => (bif_b e3_2 (bind_b fun y690 => e3_0)))) e3_1)
  refine (pre1 (d4b n_ in_ w_ r_ y569 s666 _)).trans ?_
  refine .trans seq_push ?_
  refine (cond_e (b := (decide (s666.1 < (in_.length : Int)))) (st' := (S75_4 n_ in_ w_ r_ y569 s666)) ).trans (bif_g ?_ ?_)
  · refine (skip_eq).trans ?_
    refine (seqC_normal (st' := (S75_4 n_ in_ w_ r_ y569 s666))).trans ?_
    refine .trans seq_push ?_
    refine (block_push (id := 1)).trans ?_
    refine (pre1 (e20 n_ in_ w_ r_ y569 s666 _)).trans (bind_g fun y679 => ?_)
    refine .trans seq_push ?_
    refine (pre1 (e21 n_ in_ w_ r_ y569 s666 _)).trans (bind_g fun y689 => ?_)
    refine (cond_e (b := y689) (st' := (S75_5 n_ in_ w_ r_ y569 s666)) ).trans (bif_g ?_ ?_)
    · refine (pre1 (d4c n_ in_ w_ r_ y569 s666 _)).trans ?_
      refine (ret_eq).trans ?_
      refine seqC_ret.trans ?_
      refine block_ret.trans ?_
      refine seqC_ret.trans ?_
      kernel_rfl
    · refine (skip_eq).trans ?_
      refine (seqC_normal (st' := (S75_5 n_ in_ w_ r_ y569 s666))).trans ?_
      refine (d9a n_ in_ w_ r_ y569 s666 _).trans (bind_g fun y690 => ?_)
      refine block_normal.trans ?_
      refine (seqC_normal (st' := (S75_7 n_ in_ w_ r_ y569 s666 y690))).trans ?_
      refine (d9b n_ in_ w_ r_ y569 s666 y690 _).trans ?_
      kernel_rfl
  · refine ((exit_eq (j := 0))).trans ?_
    refine seqC_exit.trans ?_
    kernel_rfl
theorem e1y : R75 C75.r.r.r.r.l.r.b (S75_3 n_ in_ w_ r_ y569) q = Option.bind (iterN (a9m in_ w_ y569) LL ((0 : Int), (0 : Int), (0 : Int), (0 : Int), (0 : Int), (0 : Int), (0 : Int), [], (0 : Int), (0 : Int), (0 : Int), (0 : Int), (0 : Int), (0 : Int), [])) (either (fun y691 : U9 => q (.exit 0) (S75_8 n_ in_ w_ r_ y569 y691)) (fun y692 : Unit => q .ret S75_6)) :=
  Eq.trans (by kernel_rfl) (loop_iter2 (S := fun s666 : U9 => (S75_4 n_ in_ w_ r_ y569 s666)) (Y1 := fun y691 : U9 => ((.exit 0), (S75_8 n_ in_ w_ r_ y569 y691))) (Y2 := fun y692 : Unit => (.ret, S75_6)) (fun s q => d4g n_ in_ w_ r_ y569 s q) (fun z => rfl) (fun z => rfl) LL ((0 : Int), (0 : Int), (0 : Int), (0 : Int), (0 : Int), (0 : Int), (0 : Int), [], (0 : Int), (0 : Int), (0 : Int), (0 : Int), (0 : Int), (0 : Int), []))
abbrev S75_9 : St := ⟨[(1, rl tsI4 in_), (3, ri r_), (4, rC a00 n_), (12, rF 1)], [(tsI4.leaves y569.1), (tsA8.leaves y691.2)], [], 89⟩
abbrev e2r : St := ⟨[(3, ri r_), (4, rC a00 n_), (12, rF 1), (15, rF 2)], [(tsI4.leaves y569.1), (tsA8.leaves y691.2), (tsI4.leaves y693.1)], [], 89⟩
theorem d9c : P75 1 C75.r.r.r.r.r (S75_9 n_ in_ r_ y569 y691) k = Option.bind (a1d n_ in_) fun y693 : (I4 × Int) => k (e2r n_ r_ y569 y691 y693) := by kernel_rfl
def b5c (K : U27 → β) : β := ((either (fun u708 : U14 => (K (Sum.inl ((u708.1.1, u708.1.2.1, u708.1.2.2.1, u708.1.2.2.2.1, u708.1.2.2.2.2.1, u708.1.2.2.2.2.2.1, u708.1.2.2.2.2.2.2.1, ()), (u708.2.1.1, u708.2.1.2.1, u708.2.1.2.2.1, u708.2.1.2.2.2.1, u708.2.1.2.2.2.2.1, u708.2.1.2.2.2.2.2.1, u708.2.1.2.2.2.2.2.2.1, u708.2.1.2.2.2.2.2.2.2.1, u708.2.1.2.2.2.2.2.2.2.2.1, u708.2.1.2.2.2.2.2.2.2.2.2.1, u708.2.1.2.2.2.2.2.2.2.2.2.2.1, u708.2.1.2.2.2.2.2.2.2.2.2.2.2.1, u708.2.1.2.2.2.2.2.2.2.2.2.2.2.2.1, u708.2.1.2.2.2.2.2.2.2.2.2.2.2.2.2.1, ()), ())))) (either (fun u709 : U5 => (K (Sum.inr (Sum.inl ((u709.1.1, u709.1.2.1, u709.1.2.2.1, u709.1.2.2.2.1, u709.1.2.2.2.2.1, u709.1.2.2.2.2.2.1, u709.1.2.2.2.2.2.2.1, ()), ()))))) (either (fun u710 : U13 => (K (Sum.inr (Sum.inr (Sum.inl ((u710.1.1, u710.1.2.1, u710.1.2.2.1, u710.1.2.2.2.1, u710.1.2.2.2.2.1, u710.1.2.2.2.2.2.1, u710.1.2.2.2.2.2.2.1, ()), (u710.2.1.1, u710.2.1.2.1, u710.2.1.2.2.1, u710.2.1.2.2.2.1, u710.2.1.2.2.2.2.1, u710.2.1.2.2.2.2.2.1, u710.2.1.2.2.2.2.2.2.1, u710.2.1.2.2.2.2.2.2.2.1, u710.2.1.2.2.2.2.2.2.2.2.1, u710.2.1.2.2.2.2.2.2.2.2.2.1, u710.2.1.2.2.2.2.2.2.2.2.2.2.1, u710.2.1.2.2.2.2.2.2.2.2.2.2.2.1, u710.2.1.2.2.2.2.2.2.2.2.2.2.2.2.1, u710.2.1.2.2.2.2.2.2.2.2.2.2.2.2.2.1, ()), ())))))) (either (fun u711 : U8 => (K (Sum.inr (Sum.inr (Sum.inr (Sum.inl ((u711.1.1, u711.1.2.1, u711.1.2.2.1, u711.1.2.2.2.1, u711.1.2.2.2.2.1, u711.1.2.2.2.2.2.1, u711.1.2.2.2.2.2.2.1, ()), (u711.2.1.1, u711.2.1.2.1, u711.2.1.2.2.1, u711.2.1.2.2.2.1, ()), ()))))))) (either (fun u712 : U15 => (K (Sum.inr (Sum.inr (Sum.inr (Sum.inr (Sum.inl ((u712.1.1, u712.1.2.1, u712.1.2.2.1, u712.1.2.2.2.1, u712.1.2.2.2.2.1, u712.1.2.2.2.2.2.1, u712.1.2.2.2.2.2.2.1, u712.1.2.2.2.2.2.2.2.1, u712.1.2.2.2.2.2.2.2.2.1, u712.1.2.2.2.2.2.2.2.2.2.1, u712.1.2.2.2.2.2.2.2.2.2.2.1, u712.1.2.2.2.2.2.2.2.2.2.2.2.1, u712.1.2.2.2.2.2.2.2.2.2.2.2.2.1, u712.1.2.2.2.2.2.2.2.2.2.2.2.2.2.1, ()), (u712.2.1.1, u712.2.1.2.1, u712.2.1.2.2.1, u712.2.1.2.2.2.1, u712.2.1.2.2.2.2.1, u712.2.1.2.2.2.2.2.1, u712.2.1.2.2.2.2.2.2.1, ()), ())))))))) (either (fun u713 : U15 => (K (Sum.inr (Sum.inr (Sum.inr (Sum.inr (Sum.inr (Sum.inl ((u713.1.1, u713.1.2.1, u713.1.2.2.1, u713.1.2.2.2.1, u713.1.2.2.2.2.1, u713.1.2.2.2.2.2.1, u713.1.2.2.2.2.2.2.1, u713.1.2.2.2.2.2.2.2.1, u713.1.2.2.2.2.2.2.2.2.1, u713.1.2.2.2.2.2.2.2.2.2.1, u713.1.2.2.2.2.2.2.2.2.2.2.1, u713.1.2.2.2.2.2.2.2.2.2.2.2.1, u713.1.2.2.2.2.2.2.2.2.2.2.2.2.1, u713.1.2.2.2.2.2.2.2.2.2.2.2.2.2.1, ()), (u713.2.1.1, u713.2.1.2.1, u713.2.1.2.2.1, u713.2.1.2.2.2.1, u713.2.1.2.2.2.2.1, u713.2.1.2.2.2.2.2.1, u713.2.1.2.2.2.2.2.2.1, ()), ()))))))))) (either (fun u714 : U15 => (K (Sum.inr (Sum.inr (Sum.inr (Sum.inr (Sum.inr (Sum.inr (Sum.inl ((u714.1.1, u714.1.2.1, u714.1.2.2.1, u714.1.2.2.2.1, u714.1.2.2.2.2.1, u714.1.2.2.2.2.2.1, u714.1.2.2.2.2.2.2.1, u714.1.2.2.2.2.2.2.2.1, u714.1.2.2.2.2.2.2.2.2.1, u714.1.2.2.2.2.2.2.2.2.2.1, u714.1.2.2.2.2.2.2.2.2.2.2.1, u714.1.2.2.2.2.2.2.2.2.2.2.2.1, u714.1.2.2.2.2.2.2.2.2.2.2.2.2.1, u714.1.2.2.2.2.2.2.2.2.2.2.2.2.2.1, ()), (u714.2.1.1, u714.2.1.2.1, u714.2.1.2.2.1, u714.2.1.2.2.2.1, u714.2.1.2.2.2.2.1, u714.2.1.2.2.2.2.2.1, u714.2.1.2.2.2.2.2.2.1, ()), ())))))))))) (either (fun u715 : U15 => (K (Sum.inr (Sum.inr (Sum.inr (Sum.inr (Sum.inr (Sum.inr (Sum.inr (Sum.inl ((u715.1.1, u715.1.2.1, u715.1.2.2.1, u715.1.2.2.2.1, u715.1.2.2.2.2.1, u715.1.2.2.2.2.2.1, u715.1.2.2.2.2.2.2.1, u715.1.2.2.2.2.2.2.2.1, u715.1.2.2.2.2.2.2.2.2.1, u715.1.2.2.2.2.2.2.2.2.2.1, u715.1.2.2.2.2.2.2.2.2.2.2.1, u715.1.2.2.2.2.2.2.2.2.2.2.2.1, u715.1.2.2.2.2.2.2.2.2.2.2.2.2.1, u715.1.2.2.2.2.2.2.2.2.2.2.2.2.2.1, ()), (u715.2.1.1, u715.2.1.2.1, u715.2.1.2.2.1, u715.2.1.2.2.2.1, u715.2.1.2.2.2.2.1, u715.2.1.2.2.2.2.2.1, u715.2.1.2.2.2.2.2.2.1, ()), ()))))))))))) (fun u716 : U19 => (K (Sum.inr (Sum.inr (Sum.inr (Sum.inr (Sum.inr (Sum.inr (Sum.inr (Sum.inr ((u716.1.1, u716.1.2.1, u716.1.2.2.1, u716.1.2.2.2.1, u716.1.2.2.2.2.1, u716.1.2.2.2.2.2.1, u716.1.2.2.2.2.2.2.1, ()), (u716.2.1.1, u716.2.1.2.1, u716.2.1.2.2.1, u716.2.1.2.2.2.1, u716.2.1.2.2.2.2.1, u716.2.1.2.2.2.2.2.1, u716.2.1.2.2.2.2.2.2.1, ()), (u716.2.2.1.1, u716.2.2.1.2.1, u716.2.2.1.2.2.1, u716.2.2.1.2.2.2.1, u716.2.2.1.2.2.2.2.1, u716.2.2.1.2.2.2.2.2.1, u716.2.2.1.2.2.2.2.2.2.1, u716.2.2.1.2.2.2.2.2.2.2.1, u716.2.2.1.2.2.2.2.2.2.2.2.1, u716.2.2.1.2.2.2.2.2.2.2.2.2.1, u716.2.2.1.2.2.2.2.2.2.2.2.2.2.1, u716.2.2.1.2.2.2.2.2.2.2.2.2.2.2.1, u716.2.2.1.2.2.2.2.2.2.2.2.2.2.2.2.1, u716.2.2.1.2.2.2.2.2.2.2.2.2.2.2.2.2.1, ()), ()))))))))))))))))))) (a90 n_ y693.1 y691.2))
def a8f : U27 := b5c n_ y691 y693 (fun y => y)
theorem c9w (K : U27 → β) : b5c n_ y691 y693 K = K (a8f n_ y691 y693) := ((either_k (K := K) (fun u708 => rfl) (either_k (K := K) (fun u709 => rfl) (either_k (K := K) (fun u710 => rfl) (either_k (K := K) (fun u711 => rfl) (either_k (K := K) (fun u712 => rfl) (either_k (K := K) (fun u713 => rfl) (either_k (K := K) (fun u714 => rfl) (either_k (K := K) (fun u715 => rfl) (fun u716 => rfl))))))))) (a90 n_ y693.1 y691.2))
abbrev e2s : St := ⟨[(3, ri r_), (15, rF 2), (17, .one (Ps.enc Z9 y718))], [(tsI4.leaves y569.1), [], (tsI4.leaves y693.1)], [], 89⟩
theorem d9d : P75 1 C75.r.r.r.r.r.r (e2r n_ r_ y569 y691 y693) k = Option.bind (some (a8f n_ y691 y693)) (fun y718 : U27 => k (e2s r_ y569 y693 y718)) := Eq.trans (by kernel_rfl) (c9w n_ y691 y693 (fun y717 : U27 => k ⟨[(3, ri r_), (15, rF 2), (17, .one (Ps.enc Z9 y717))], [(tsI4.leaves y569.1), [], (tsI4.leaves y693.1)], [], 89⟩))
abbrev e2t : St := ⟨[(3, ri r_), (15, rF 2), (17, .one (Ps.enc Z9 y718)), (18, .one (.ow (.one (.int .i8)) [] (.v 18)))], [(tsI4.leaves y569.1), [], (tsI4.leaves y693.1)], [], 89⟩
theorem d94 : P75 1 C75.r.r.r.r.r.r.r (e2s r_ y569 y693 y718) k = k (e2t r_ y569 y693 y718) := by (rcases y718 with (_ | _ | _ | _ | _ | _ | _ | _ | _) <;> kernel_rfl)
abbrev e2u : St := ⟨[(3, ri r_), (15, rF 2), (17, .one (Ps.enc Z9 y718)), (18, .one (.ow (.one (.int .i8)) [] (.v 18))), (67, ri y693.1.2.1), (68, ri 0)], [(tsI4.leaves y569.1), [], (tsI4.leaves y693.1)], [], 89⟩
theorem d95 : P75 1 C75.r.r.r.r.r.r.r.r.l (e2t r_ y569 y693 y718) k = k (e2u r_ y569 y693 y718) := by (rcases y718 with (_ | _ | _ | _ | _ | _ | _ | _ | _) <;> kernel_rfl)
abbrev b4m : St := ⟨[(3, ri r_), (15, rF 2), (17, .one (Ps.enc Z9 y718)), (18, .one (.ow (.one (.int .i8)) s1347.1 (.v 18))), (67, ri y693.1.2.1), (68, ri s1347.2)], [(tsI4.leaves y569.1), [], (tsI4.leaves y693.1)], [], 89⟩
theorem d4d : P75 1 C75.r.r.r.r.r.r.r.r.l.r.b.b (b4m r_ y569 y693 y718 s1347) k = k ⟨[(3, ri r_), (15, rF 2), (17, .one (Ps.enc Z9 y718)), (18, .one (.ow (.one (.int .i8)) s1347.1 (.v 18))), (67, ri y693.1.2.1), (68, ri s1347.2), (69, rb (decide (s1347.2 < y693.1.2.1)))], [(tsI4.leaves y569.1), [], (tsI4.leaves y693.1)], [], 89⟩ := by (rcases y718 with (_ | _ | _ | _ | _ | _ | _ | _ | _) <;> kernel_rfl)
abbrev e2v : St := ⟨[(3, ri r_), (15, rF 2), (17, .one (Ps.enc Z9 y718)), (18, .one (.ow (.one (.int .i8)) s1347.1 (.v 18))), (19, ri s1347.2), (67, ri y693.1.2.1), (68, ri s1347.2), (73, ri y693.1.2.2.1), (74, ri 0)], [(tsI4.leaves y569.1), [], (tsI4.leaves y693.1)], [], 89⟩
theorem d96 : P75 2 C75.r.r.r.r.r.r.r.r.l.r.b.b.r.r.l.b (b4m r_ y569 y693 y718 s1347) k = k (e2v r_ y569 y693 y718 s1347) := by (rcases y718 with (_ | _ | _ | _ | _ | _ | _ | _ | _) <;> kernel_rfl)
abbrev b4n : St := ⟨[(3, ri r_), (15, rF 2), (17, .one (Ps.enc Z9 y718)), (18, .one (.ow (.one (.int .i8)) s1466.1 (.v 18))), (19, ri s1347.2), (67, ri y693.1.2.1), (68, ri s1347.2), (73, ri y693.1.2.2.1), (74, ri s1466.2)], [(tsI4.leaves y569.1), [], (tsI4.leaves y693.1)], [], 89⟩
theorem d4e : P75 1 C75.r.r.r.r.r.r.r.r.l.r.b.b.r.r.l.b.r.r.b.b (b4n r_ y569 y693 y718 s1347 s1466) k = k ⟨[(3, ri r_), (15, rF 2), (17, .one (Ps.enc Z9 y718)), (18, .one (.ow (.one (.int .i8)) s1466.1 (.v 18))), (19, ri s1347.2), (67, ri y693.1.2.1), (68, ri s1347.2), (73, ri y693.1.2.2.1), (74, ri s1466.2), (75, rb (decide (s1466.2 < y693.1.2.2.1)))], [(tsI4.leaves y569.1), [], (tsI4.leaves y693.1)], [], 89⟩ := by (rcases y718 with (_ | _ | _ | _ | _ | _ | _ | _ | _) <;> kernel_rfl)
abbrev e2w : St := ⟨[(3, ri r_), (15, rF 2), (17, .one (Ps.enc Z9 y718)), (18, .one (.ow (.one (.int .i8)) s1466.1 (.v 18))), (19, ri s1347.2), (20, ri s1466.2), (67, ri y693.1.2.1), (68, ri s1347.2), (73, ri y693.1.2.2.1), (74, ri s1466.2)], [(tsI4.leaves y569.1), [], (tsI4.leaves y693.1)], [], 89⟩
theorem d97 : P75 1 C75.r.r.r.r.r.r.r.r.l.r.b.b.r.r.l.b.r.r.b.b.r.r.l.b (b4n r_ y569 y693 y718 s1347 s1466) k = k (e2w r_ y569 y693 y718 s1347 s1466) := by (rcases y718 with (_ | _ | _ | _ | _ | _ | _ | _ | _) <;> kernel_rfl)
def b5d : Option (List Int) := ((either (fun u1486 : U14 => (Option.bind (b3x r_ s1347.2 s1466.2 (u1486.1.1, u1486.1.2.1, u1486.1.2.2.1, u1486.1.2.2.2.1, u1486.1.2.2.2.2.1, u1486.1.2.2.2.2.2.1, u1486.1.2.2.2.2.2.2.1) (u1486.2.1.1, u1486.2.1.2.1, u1486.2.1.2.2.1, u1486.2.1.2.2.2.1, u1486.2.1.2.2.2.2.1, u1486.2.1.2.2.2.2.2.1, u1486.2.1.2.2.2.2.2.2.1, u1486.2.1.2.2.2.2.2.2.2.1, u1486.2.1.2.2.2.2.2.2.2.2.1, u1486.2.1.2.2.2.2.2.2.2.2.2.1, u1486.2.1.2.2.2.2.2.2.2.2.2.2.1, u1486.2.1.2.2.2.2.2.2.2.2.2.2.2.1, u1486.2.1.2.2.2.2.2.2.2.2.2.2.2.2.1, u1486.2.1.2.2.2.2.2.2.2.2.2.2.2.2.2.1)) (fun y1487 : Int => (bif (decide (s1466.1.length + ([(IntKind.wrap .i8 y1487)] : List Int).length ≤ maxL)) then (some (s1466.1 ++ [(IntKind.wrap .i8 y1487)])) else none)))) (either (fun u1488 : U5 => (Option.bind (b3y r_ s1347.2 s1466.2 (u1488.1.1, u1488.1.2.1, u1488.1.2.2.1, u1488.1.2.2.2.1, u1488.1.2.2.2.2.1, u1488.1.2.2.2.2.2.1, u1488.1.2.2.2.2.2.2.1)) (fun y1489 : Int => (bif (decide (s1466.1.length + ([(IntKind.wrap .i8 y1489)] : List Int).length ≤ maxL)) then (some (s1466.1 ++ [(IntKind.wrap .i8 y1489)])) else none)))) (either (fun u1490 : U13 => (Option.bind (b3z r_ s1347.2 s1466.2 (u1490.1.1, u1490.1.2.1, u1490.1.2.2.1, u1490.1.2.2.2.1, u1490.1.2.2.2.2.1, u1490.1.2.2.2.2.2.1, u1490.1.2.2.2.2.2.2.1) u1490.2.1.1 u1490.2.1.2.1 u1490.2.1.2.2.1 u1490.2.1.2.2.2.1 u1490.2.1.2.2.2.2.1 u1490.2.1.2.2.2.2.2.1 u1490.2.1.2.2.2.2.2.2.1 u1490.2.1.2.2.2.2.2.2.2.1 u1490.2.1.2.2.2.2.2.2.2.2.1 u1490.2.1.2.2.2.2.2.2.2.2.2.1 u1490.2.1.2.2.2.2.2.2.2.2.2.2.1 u1490.2.1.2.2.2.2.2.2.2.2.2.2.2.1 u1490.2.1.2.2.2.2.2.2.2.2.2.2.2.2.1 u1490.2.1.2.2.2.2.2.2.2.2.2.2.2.2.2.1) (fun y1491 : Int => (bif (decide (s1466.1.length + ([(IntKind.wrap .i8 y1491)] : List Int).length ≤ maxL)) then (some (s1466.1 ++ [(IntKind.wrap .i8 y1491)])) else none)))) (either (fun u1492 : U8 => (Option.bind (b40 r_ s1347.2 s1466.2 (u1492.1.1, u1492.1.2.1, u1492.1.2.2.1, u1492.1.2.2.2.1, u1492.1.2.2.2.2.1, u1492.1.2.2.2.2.2.1, u1492.1.2.2.2.2.2.2.1) (u1492.2.1.1, u1492.2.1.2.1, u1492.2.1.2.2.1, u1492.2.1.2.2.2.1)) (fun y1493 : Int => (bif (decide (s1466.1.length + ([(IntKind.wrap .i8 y1493)] : List Int).length ≤ maxL)) then (some (s1466.1 ++ [(IntKind.wrap .i8 y1493)])) else none)))) (either (fun u1494 : U15 => (Option.bind (b41 r_ s1347.2 s1466.2 (u1494.1.1, u1494.1.2.1, u1494.1.2.2.1, u1494.1.2.2.2.1, u1494.1.2.2.2.2.1, u1494.1.2.2.2.2.2.1, u1494.1.2.2.2.2.2.2.1, u1494.1.2.2.2.2.2.2.2.1, u1494.1.2.2.2.2.2.2.2.2.1, u1494.1.2.2.2.2.2.2.2.2.2.1, u1494.1.2.2.2.2.2.2.2.2.2.2.1, u1494.1.2.2.2.2.2.2.2.2.2.2.2.1, u1494.1.2.2.2.2.2.2.2.2.2.2.2.2.1, u1494.1.2.2.2.2.2.2.2.2.2.2.2.2.2.1) (u1494.2.1.1, u1494.2.1.2.1, u1494.2.1.2.2.1, u1494.2.1.2.2.2.1, u1494.2.1.2.2.2.2.1, u1494.2.1.2.2.2.2.2.1, u1494.2.1.2.2.2.2.2.2.1)) (fun y1495 : Int => (bif (decide (s1466.1.length + ([(IntKind.wrap .i8 y1495)] : List Int).length ≤ maxL)) then (some (s1466.1 ++ [(IntKind.wrap .i8 y1495)])) else none)))) (either (fun u1496 : U15 => (Option.bind (b3s r_ s1347.2 s1466.2 (u1496.1.1, u1496.1.2.1, u1496.1.2.2.1, u1496.1.2.2.2.1, u1496.1.2.2.2.2.1, u1496.1.2.2.2.2.2.1, u1496.1.2.2.2.2.2.2.1, u1496.1.2.2.2.2.2.2.2.1, u1496.1.2.2.2.2.2.2.2.2.1, u1496.1.2.2.2.2.2.2.2.2.2.1, u1496.1.2.2.2.2.2.2.2.2.2.2.1, u1496.1.2.2.2.2.2.2.2.2.2.2.2.1, u1496.1.2.2.2.2.2.2.2.2.2.2.2.2.1, u1496.1.2.2.2.2.2.2.2.2.2.2.2.2.2.1) (u1496.2.1.1, u1496.2.1.2.1, u1496.2.1.2.2.1, u1496.2.1.2.2.2.1, u1496.2.1.2.2.2.2.1, u1496.2.1.2.2.2.2.2.1, u1496.2.1.2.2.2.2.2.2.1)) (fun y1497 : Int => (bif (decide (s1466.1.length + ([(IntKind.wrap .i8 y1497)] : List Int).length ≤ maxL)) then (some (s1466.1 ++ [(IntKind.wrap .i8 y1497)])) else none)))) (either (fun u1498 : U15 => (Option.bind (b3v r_ s1347.2 s1466.2 (u1498.1.1, u1498.1.2.1, u1498.1.2.2.1, u1498.1.2.2.2.1, u1498.1.2.2.2.2.1, u1498.1.2.2.2.2.2.1, u1498.1.2.2.2.2.2.2.1, u1498.1.2.2.2.2.2.2.2.1, u1498.1.2.2.2.2.2.2.2.2.1, u1498.1.2.2.2.2.2.2.2.2.2.1, u1498.1.2.2.2.2.2.2.2.2.2.2.1, u1498.1.2.2.2.2.2.2.2.2.2.2.2.1, u1498.1.2.2.2.2.2.2.2.2.2.2.2.2.1, u1498.1.2.2.2.2.2.2.2.2.2.2.2.2.2.1) (u1498.2.1.1, u1498.2.1.2.1, u1498.2.1.2.2.1, u1498.2.1.2.2.2.1, u1498.2.1.2.2.2.2.1, u1498.2.1.2.2.2.2.2.1, u1498.2.1.2.2.2.2.2.2.1)) (fun y1499 : Int => (bif (decide (s1466.1.length + ([(IntKind.wrap .i8 y1499)] : List Int).length ≤ maxL)) then (some (s1466.1 ++ [(IntKind.wrap .i8 y1499)])) else none)))) (either (fun u1500 : U15 => (Option.bind (b45 r_ s1347.2 s1466.2 (u1500.1.1, u1500.1.2.1, u1500.1.2.2.1, u1500.1.2.2.2.1, u1500.1.2.2.2.2.1, u1500.1.2.2.2.2.2.1, u1500.1.2.2.2.2.2.2.1, u1500.1.2.2.2.2.2.2.2.1, u1500.1.2.2.2.2.2.2.2.2.1, u1500.1.2.2.2.2.2.2.2.2.2.1, u1500.1.2.2.2.2.2.2.2.2.2.2.1, u1500.1.2.2.2.2.2.2.2.2.2.2.2.1, u1500.1.2.2.2.2.2.2.2.2.2.2.2.2.1, u1500.1.2.2.2.2.2.2.2.2.2.2.2.2.2.1) (u1500.2.1.1, u1500.2.1.2.1, u1500.2.1.2.2.1, u1500.2.1.2.2.2.1, u1500.2.1.2.2.2.2.1, u1500.2.1.2.2.2.2.2.1, u1500.2.1.2.2.2.2.2.2.1)) (fun y1501 : Int => (bif (decide (s1466.1.length + ([(IntKind.wrap .i8 y1501)] : List Int).length ≤ maxL)) then (some (s1466.1 ++ [(IntKind.wrap .i8 y1501)])) else none)))) (fun u1502 : U19 => (Option.bind (b43 r_ s1347.2 s1466.2 (u1502.1.1, u1502.1.2.1, u1502.1.2.2.1, u1502.1.2.2.2.1, u1502.1.2.2.2.2.1, u1502.1.2.2.2.2.2.1, u1502.1.2.2.2.2.2.2.1) (u1502.2.1.1, u1502.2.1.2.1, u1502.2.1.2.2.1, u1502.2.1.2.2.2.1, u1502.2.1.2.2.2.2.1, u1502.2.1.2.2.2.2.2.1, u1502.2.1.2.2.2.2.2.2.1) (u1502.2.2.1.1, u1502.2.2.1.2.1, u1502.2.2.1.2.2.1, u1502.2.2.1.2.2.2.1, u1502.2.2.1.2.2.2.2.1, u1502.2.2.1.2.2.2.2.2.1, u1502.2.2.1.2.2.2.2.2.2.1, u1502.2.2.1.2.2.2.2.2.2.2.1, u1502.2.2.1.2.2.2.2.2.2.2.2.1, u1502.2.2.1.2.2.2.2.2.2.2.2.2.1, u1502.2.2.1.2.2.2.2.2.2.2.2.2.2.1, u1502.2.2.1.2.2.2.2.2.2.2.2.2.2.2.1, u1502.2.2.1.2.2.2.2.2.2.2.2.2.2.2.2.1, u1502.2.2.1.2.2.2.2.2.2.2.2.2.2.2.2.2.1)) (fun y1503 : Int => (bif (decide (s1466.1.length + ([(IntKind.wrap .i8 y1503)] : List Int).length ≤ maxL)) then (some (s1466.1 ++ [(IntKind.wrap .i8 y1503)])) else none)))))))))))) y718)
abbrev d6q : St := ⟨[(3, ri r_), (15, rF 2), (17, .one (Ps.enc Z9 y718)), (18, .one (.ow (.one (.int .i8)) y1504 (.v 18))), (19, ri s1347.2), (67, ri y693.1.2.1), (68, ri s1347.2), (73, ri y693.1.2.2.1), (74, ri s1466.2)], [(tsI4.leaves y569.1), [], (tsI4.leaves y693.1)], [], 89⟩
theorem d9e : R75 C75.r.r.r.r.r.r.r.r.l.r.b.b.r.r.l.b.r.r.b.b.r.r.l.b.r (e2w r_ y569 y693 y718 s1347 s1466) q = Option.bind (b5d r_ y718 s1347 s1466) (fun y1504 : (List Int) => q .normal (d6q r_ y569 y693 y718 s1347 s1466 y1504)) := .trans (by (rcases y718 with (_ | _ | _ | _ | _ | _ | _ | _ | _) <;> kernel_rfl)) ((either_b (fun u1486 => (bind_b fun y1487 => (bif_b some_b none_b))) (either_b (fun u1488 => (bind_b fun y1489 => (bif_b some_b none_b))) (either_b (fun u1490 => (bind_b fun y1491 => (bif_b some_b none_b))) (either_b (fun u1492 => (bind_b fun y1493 => (bif_b some_b none_b))) (either_b (fun u1494 => (bind_b fun y1495 => (bif_b some_b none_b))) (either_b (fun u1496 => (bind_b fun y1497 => (bif_b some_b none_b))) (either_b (fun u1498 => (bind_b fun y1499 => (bif_b some_b none_b))) (either_b (fun u1500 => (bind_b fun y1501 => (bif_b some_b none_b))) (fun u1502 => (bind_b fun y1503 => (bif_b some_b none_b))))))))))) y718)
theorem d9f : R75 C75.r.r.r.r.r.r.r.r.l.r.b.b.r.r.l.b.r.r.b.b.r.r.r (d6q r_ y569 y693 y718 s1347 s1466 y1504) q = q .normal ⟨[(3, ri r_), (15, rF 2), (17, .one (Ps.enc Z9 y718)), (18, .one (.ow (.one (.int .i8)) y1504 (.v 18))), (19, ri s1347.2), (67, ri y693.1.2.1), (68, ri s1347.2), (73, ri y693.1.2.2.1), (74, ri (IntKind.wrap .i64 (s1466.2 + 1)))], [(tsI4.leaves y569.1), [], (tsI4.leaves y693.1)], [], 89⟩ := by (rcases y718 with (_ | _ | _ | _ | _ | _ | _ | _ | _) <;> kernel_rfl)
def a8e : Option (((List Int) × Int) ⊕ ((List Int) × Int)) := (bif (decide (s1466.2 < y693.1.2.2.1)) then (Option.bind (b5d r_ y718 s1347 s1466) (fun y1504 : (List Int) => (some (Sum.inl (y1504, (IntKind.wrap .i64 (s1466.2 + 1))))))) else (some (Sum.inr s1466)))
abbrev d6r : St := ⟨[(3, ri r_), (15, rF 2), (17, .one (Ps.enc Z9 y718)), (18, .one (.ow (.one (.int .i8)) y1505.1 (.v 18))), (19, ri s1347.2), (67, ri y693.1.2.1), (68, ri s1347.2), (73, ri y693.1.2.2.1), (74, ri y1505.2)], [(tsI4.leaves y569.1), [], (tsI4.leaves y693.1)], [], 89⟩
theorem c9v : R75 C75.r.r.r.r.r.r.r.r.l.r.b.b.r.r.l.b.r.r.b.b (b4n r_ y569 y693 y718 s1347 s1466) (loopKont 3 q) = Option.bind (a8e r_ y693 y718 s1347 s1466) (either (fun y : ((List Int) × Int) => q .normal ⟨[(3, ri r_), (15, rF 2), (17, .one (Ps.enc Z9 y718)), (18, .one (.ow (.one (.int .i8)) y.1 (.v 18))), (19, ri s1347.2), (67, ri y693.1.2.1), (68, ri s1347.2), (73, ri y693.1.2.2.1), (74, ri y.2)], [(tsI4.leaves y569.1), [], (tsI4.leaves y693.1)], [], 89⟩) (fun y1505 : ((List Int) × Int) => q (.exit 4) (d6r r_ y569 y693 y718 s1347 y1505))) := by
  refine .trans ?_ (bif_b (bind_b fun y1504 => e2_0) e2_1)
  refine (pre1 (d4e r_ y569 y693 y718 s1347 s1466 _)).trans ?_
  refine .trans seq_push ?_
  refine (cond_e (b := (decide (s1466.2 < y693.1.2.2.1))) (st' := (b4n r_ y569 y693 y718 s1347 s1466)) (hs := by (rcases y718 with (_ | _ | _ | _ | _ | _ | _ | _ | _) <;> kernel_rfl))).trans (bif_g ?_ ?_)
  · refine (skip_eq).trans ?_
    refine (seqC_normal (st' := (b4n r_ y569 y693 y718 s1347 s1466)) (hs := by (rcases y718 with (_ | _ | _ | _ | _ | _ | _ | _ | _) <;> kernel_rfl))).trans ?_
    refine .trans seq_push ?_
    refine (block_push (id := 5)).trans ?_
    refine (pre1 (d97 r_ y569 y693 y718 s1347 s1466 _)).trans ?_
    refine (d9e r_ y569 y693 y718 s1347 s1466 _).trans (bind_g fun y1504 => ?_)
    refine block_normal.trans ?_
    refine (seqC_normal (st' := (d6q r_ y569 y693 y718 s1347 s1466 y1504)) (hs := by (rcases y718 with (_ | _ | _ | _ | _ | _ | _ | _ | _) <;> kernel_rfl))).trans ?_
    refine (d9f r_ y569 y693 y718 s1347 s1466 y1504 _).trans ?_
    (rcases y718 with (_ | _ | _ | _ | _ | _ | _ | _ | _) <;> kernel_rfl)
  · refine ((exit_eq (j := 4))).trans ?_
    refine seqC_exit.trans ?_
    (rcases y718 with (_ | _ | _ | _ | _ | _ | _ | _ | _) <;> kernel_rfl)
theorem d99 : R75 C75.r.r.r.r.r.r.r.r.l.r.b.b.r.r.l.b.r.r.b (e2v r_ y569 y693 y718 s1347) q = Option.bind (iterN (a8e r_ y693 y718 s1347) LL (s1347.1, (0 : Int))) (fun y1505 : ((List Int) × Int) => q (.exit 4) (d6r r_ y569 y693 y718 s1347 y1505)) :=
  Eq.trans (by kernel_rfl) (loop_iter1 (S := fun s1466 : ((List Int) × Int) => (b4n r_ y569 y693 y718 s1347 s1466)) (Y1 := fun y1505 : ((List Int) × Int) => ((.exit 4), (d6r r_ y569 y693 y718 s1347 y1505))) (fun s q => c9v r_ y569 y693 y718 s1347 s q) (fun z => rfl) LL (s1347.1, (0 : Int)))
abbrev e2x : St := ⟨[(3, ri r_), (15, rF 2), (17, .one (Ps.enc Z9 y718)), (18, .one (.ow (.one (.int .i8)) y1505.1 (.v 18))), (67, ri y693.1.2.1), (68, ri s1347.2)], [(tsI4.leaves y569.1), [], (tsI4.leaves y693.1)], [], 89⟩
theorem d9g : R75 C75.r.r.r.r.r.r.r.r.l.r.b.b.r.r.r (e2x r_ y569 y693 y718 s1347 y1505) q = q .normal ⟨[(3, ri r_), (15, rF 2), (17, .one (Ps.enc Z9 y718)), (18, .one (.ow (.one (.int .i8)) y1505.1 (.v 18))), (67, ri y693.1.2.1), (68, ri (IntKind.wrap .i64 (s1347.2 + 1)))], [(tsI4.leaves y569.1), [], (tsI4.leaves y693.1)], [], 89⟩ := by (rcases y718 with (_ | _ | _ | _ | _ | _ | _ | _ | _) <;> kernel_rfl)
def a8d : Option (((List Int) × Int) ⊕ ((List Int) × Int)) := (bif (decide (s1347.2 < y693.1.2.1)) then (Option.bind (iterN (a8e r_ y693 y718 s1347) LL (s1347.1, (0 : Int))) (fun y1505 : ((List Int) × Int) => (some (Sum.inl (y1505.1, (IntKind.wrap .i64 (s1347.2 + 1))))))) else (some (Sum.inr s1347)))
abbrev d6s : St := ⟨[(3, ri r_), (15, rF 2), (17, .one (Ps.enc Z9 y718)), (18, .one (.ow (.one (.int .i8)) y1506.1 (.v 18))), (67, ri y693.1.2.1), (68, ri y1506.2)], [(tsI4.leaves y569.1), [], (tsI4.leaves y693.1)], [], 89⟩
theorem c9u : R75 C75.r.r.r.r.r.r.r.r.l.r.b.b (b4m r_ y569 y693 y718 s1347) (loopKont 3 q) = Option.bind (a8d r_ y693 y718 s1347) (either (fun y : ((List Int) × Int) => q .normal ⟨[(3, ri r_), (15, rF 2), (17, .one (Ps.enc Z9 y718)), (18, .one (.ow (.one (.int .i8)) y.1 (.v 18))), (67, ri y693.1.2.1), (68, ri y.2)], [(tsI4.leaves y569.1), [], (tsI4.leaves y693.1)], [], 89⟩) (fun y1506 : ((List Int) × Int) => q (.exit 2) (d6s r_ y569 y693 y718 y1506))) := by
  refine .trans ?_ (bif_b (bind_b fun y1505 => e2_0) e2_1)
  refine (pre1 (d4d r_ y569 y693 y718 s1347 _)).trans ?_
  refine .trans seq_push ?_
  refine (cond_e (b := (decide (s1347.2 < y693.1.2.1))) (st' := (b4m r_ y569 y693 y718 s1347)) (hs := by (rcases y718 with (_ | _ | _ | _ | _ | _ | _ | _ | _) <;> kernel_rfl))).trans (bif_g ?_ ?_)
  · refine (skip_eq).trans ?_
    refine (seqC_normal (st' := (b4m r_ y569 y693 y718 s1347)) (hs := by (rcases y718 with (_ | _ | _ | _ | _ | _ | _ | _ | _) <;> kernel_rfl))).trans ?_
    refine .trans seq_push ?_
    refine (block_push (id := 3)).trans ?_
    refine (pre2 (d96 r_ y569 y693 y718 s1347 _)).trans ?_
    refine (block_push (id := 4)).trans ?_
    refine (d99 r_ y569 y693 y718 s1347 _).trans (bind_g fun y1505 => ?_)
    refine block_same.trans ?_
    refine block_normal.trans ?_
    refine (seqC_normal (st' := (e2x r_ y569 y693 y718 s1347 y1505)) (hs := by (rcases y718 with (_ | _ | _ | _ | _ | _ | _ | _ | _) <;> kernel_rfl))).trans ?_
    refine (d9g r_ y569 y693 y718 s1347 y1505 _).trans ?_
    (rcases y718 with (_ | _ | _ | _ | _ | _ | _ | _ | _) <;> kernel_rfl)
  · refine ((exit_eq (j := 2))).trans ?_
    refine seqC_exit.trans ?_
    (rcases y718 with (_ | _ | _ | _ | _ | _ | _ | _ | _) <;> kernel_rfl)
theorem d98 : R75 C75.r.r.r.r.r.r.r.r.l.r.b (e2u r_ y569 y693 y718) q = Option.bind (iterN (a8d r_ y693 y718) LL ([], (0 : Int))) (fun y1506 : ((List Int) × Int) => q (.exit 2) (d6s r_ y569 y693 y718 y1506)) :=
  Eq.trans (by kernel_rfl) (loop_iter1 (S := fun s1347 : ((List Int) × Int) => (b4m r_ y569 y693 y718 s1347)) (Y1 := fun y1506 : ((List Int) × Int) => ((.exit 2), (d6s r_ y569 y693 y718 y1506))) (fun s q => c9u r_ y569 y693 y718 s q) (fun z => rfl) LL ([], (0 : Int)))
abbrev e2y : St := ⟨[(18, .one (.ow (.one (.int .i8)) y1506.1 (.v 18)))], [(tsI4.leaves y569.1), [], (tsI4.leaves y693.1)], [], 89⟩
theorem d4f : P75 1 C75.r.r.r.r.r.r.r.r.r (e2y y569 y693 y1506) k = k ⟨[(8, .one (.ow (.one (.int .i8)) y1506.1 (.v 18))), (9, ri 0)], [(tsI4.leaves y569.1), [], (tsI4.leaves y693.1)], [], 89⟩ := by kernel_rfl
/-- quilt/kern.Row -/
def b69 : Option ((List Int) × Int) := (Option.bind (b0j n_ in_ r_ (1 : Int)) (fun y569 : (I4 × Int) => (bif (y569.2 != 0) then (some ([], y569.2)) else (Option.bind (iterN (a9m in_ w_ y569) LL ((0 : Int), (0 : Int), (0 : Int), (0 : Int), (0 : Int), (0 : Int), (0 : Int), [], (0 : Int), (0 : Int), (0 : Int), (0 : Int), (0 : Int), (0 : Int), [])) (either (fun y691 : U9 => (Option.bind (a1d n_ in_) (fun y693 : (I4 × Int) => (Option.bind (some (a8f n_ y691 y693)) (fun y718 : U27 => (Option.bind (iterN (a8d r_ y693 y718) LL ([], (0 : Int))) (fun y1506 : ((List Int) × Int) => (some (y1506.1, (0 : Int)))))))))) (fun y692 : Unit => (some ([], (1 : Int)))))))))
theorem e1x : stepO E cp71 ce4 34 [rA a00 n_, rl tsI4 in_, rA tsA5 w_, ri r_] = Option.bind (b69 n_ in_ w_ r_) (fun y : ((List Int) × Int) => some (.tup [.one (.ow (.one (.int .i8)) y.1 (.s 0)), ri y.2] : R)) := by
  refine .trans ?_ (bind_b fun y569 => (bif_b some_b (bind_b (either_b (fun y691 => (bind_b fun y693 => (bind_b fun y718 => (bind_b fun y1506 => some_b)))) (fun y692 => some_b)))))
  refine (stepG_is (nt := 89) (regs := [(0, rA a00 n_), (1, rl tsI4 in_), (2, rA tsA5 w_), (3, ri r_)])).trans ?_
  refine (pre2 (e1z n_ in_ w_ r_ _)).trans (bind_g fun y569 => ?_)
  refine .trans seq_push ?_
  refine (pre1 (c0x n_ in_ w_ r_ y569 _)).trans ?_
  refine (cond_e (b := (y569.2 != 0)) (st' := (S75_0 n_ in_ w_ r_ y569)) ).trans (bif_g ?_ ?_)
  · refine (pre1 (e1w n_ in_ w_ r_ y569 _)).trans ?_
    refine (ret_eq).trans ?_
    refine seqC_ret.trans ?_
    kernel_rfl
  · refine (skip_eq).trans ?_
    refine (seqC_normal (st' := (S75_1 n_ in_ w_ r_ y569))).trans ?_
    refine (pre1 (e1u n_ in_ w_ r_ y569 _)).trans ?_
    refine .trans seq_push ?_
    refine (pre1 (e1v n_ in_ w_ r_ y569 _)).trans ?_
    refine (block_push (id := 0)).trans ?_
    refine (e1y n_ in_ w_ r_ y569 _).trans (bind_g (either_g (fun y691 => ?_) (fun y692 => ?_)))
    · refine block_same.trans ?_
      refine (seqC_normal (st' := (S75_9 n_ in_ r_ y569 y691))).trans ?_
      refine (pre1 (d9c n_ in_ r_ y569 y691 _)).trans (bind_g fun y693 => ?_)
      refine (pre1 (d9d n_ r_ y569 y691 y693 _)).trans (bind_g fun y718 => ?_)
      refine (pre1 (d94 r_ y569 y693 y718 _)).trans ?_
      refine .trans seq_push ?_
      refine (pre1 (d95 r_ y569 y693 y718 _)).trans ?_
      refine (block_push (id := 2)).trans ?_
      refine (d98 r_ y569 y693 y718 _).trans (bind_g fun y1506 => ?_)
      refine block_same.trans ?_
      refine (seqC_normal (st' := (e2y y569 y693 y1506)) (hs := by (rcases y718 with (_ | _ | _ | _ | _ | _ | _ | _ | _) <;> kernel_rfl))).trans ?_
      refine (pre1 (d4f y569 y693 y1506 _)).trans ?_
      refine (ret_eq).trans ?_
      (rcases y718 with (_ | _ | _ | _ | _ | _ | _ | _ | _) <;> kernel_rfl)
    · refine block_ret.trans ?_
      refine seqC_ret.trans ?_
      kernel_rfl
noncomputable def cp72 : CallP := withC cp71 34 [(.agg a00), (pL tsI4), (.agg tsA5), pI] (.tup [(.one (.ow (.one (.int .i8)))), pI]) (fun y : ((List Int) × Int) => (y.1, y.2, ())) (fun x => b69 x.1 x.2.1 x.2.2.1 x.2.2.2.1)
theorem e5o : PureOK E cp72 := conO eok e5n a0o fun x => Eq.mp (by kernel_rfl) (e1x x.1 x.2.1 x.2.2.1 x.2.2.2.1)
end
section
variable {α : Type} (n_ : Node) (in_ : (List I4)) (data : A4) (y459 : (I4 × Int)) (s476 : U1) (y478 : (Int × (List Int) × Int × (List Int))) (y479 : U1) (s1523 : ((List Int) × Int)) (y1526 : ((List Int) × Int)) (y1528 : ((List Int) × Int)) (k : St → Option α) (q : Kont α)
noncomputable abbrev C76 := codeOf E.P 22
noncomputable abbrev P76 := @preK α E 22 cp72 ce4
noncomputable abbrev R76 := @runCode α E 22 cp72 ce4
abbrev S76_0 : St := ⟨[(1, rl tsI4 in_), (3, rC a00 n_), (5, rC tsA4 data), (8, rF 0), (9, ri y459.2)], [(tsI4.leaves y459.1)], [], 65⟩
theorem e1r : P76 2 C76 ⟨[(0, rA a00 n_), (1, rl tsI4 in_), (2, rA tsA4 data)], [], [], 65⟩ k = Option.bind (a1d n_ in_) fun y459 : (I4 × Int) => k (S76_0 n_ in_ data y459) := by kernel_rfl
theorem c0v : P76 1 C76.r.r.l (S76_0 n_ in_ data y459) k = k ⟨[(1, rl tsI4 in_), (3, rC a00 n_), (5, rC tsA4 data), (8, rF 0), (9, ri y459.2), (23, rb (y459.2 != 0))], [(tsI4.leaves y459.1)], [], 65⟩ := by kernel_rfl
theorem e1o : P76 1 C76.r.r.l.r.t (S76_0 n_ in_ data y459) k = k ⟨[(6, .one (.ow (.one (.int .i8)) [] (.v 6))), (7, ri y459.2)], [[]], [], 65⟩ := by kernel_rfl
abbrev S76_1 : St := ⟨[(1, rl tsI4 in_), (3, rC a00 n_), (5, rC tsA4 data), (8, rF 0)], [(tsI4.leaves y459.1)], [], 65⟩
abbrev S76_2 : St := ⟨[(1, rl tsI4 in_), (3, rC a00 n_), (5, rC tsA4 data), (8, rF 0), (10, rF 1)], [(tsI4.leaves y459.1), [di 0, di 0, dl (.one (.int .i8)) [], di 0, di 0, dl (.one (.int .i8)) []]], [], 65⟩
theorem e1l : P76 1 C76.r.r.r (S76_1 n_ in_ data y459) k = k (S76_2 n_ in_ data y459) := by kernel_rfl
abbrev S76_3 : St := ⟨[(1, rl tsI4 in_), (3, rC a00 n_), (5, rC tsA4 data), (8, rF 0), (10, rF 1), (26, ri (in_.length : Int)), (27, ri 0)], [(tsI4.leaves y459.1), [di 0, di 0, dl (.one (.int .i8)) [], di 0, di 0, dl (.one (.int .i8)) []]], [], 65⟩
theorem e1m : P76 1 C76.r.r.r.r.l (S76_2 n_ in_ data y459) k = k (S76_3 n_ in_ data y459) := by kernel_rfl
abbrev S76_4 : St := ⟨[(1, rl tsI4 in_), (3, rC a00 n_), (5, rC tsA4 data), (8, rF 0), (10, rF 1), (26, ri (in_.length : Int)), (27, ri s476.1)], [(tsI4.leaves y459.1), [di 0, di s476.2.1, dl (.one (.int .i8)) s476.2.2.1, di 0, di s476.2.2.2.1, dl (.one (.int .i8)) s476.2.2.2.2]], [], 65⟩
theorem d3y : P76 1 C76.r.r.r.r.l.r.b.b (S76_4 n_ in_ data y459 s476) k = k ⟨[(1, rl tsI4 in_), (3, rC a00 n_), (5, rC tsA4 data), (8, rF 0), (10, rF 1), (26, ri (in_.length : Int)), (27, ri s476.1), (28, rb (decide (s476.1 < (in_.length : Int))))], [(tsI4.leaves y459.1), [di 0, di s476.2.1, dl (.one (.int .i8)) s476.2.2.1, di 0, di s476.2.2.2.1, dl (.one (.int .i8)) s476.2.2.2.2]], [], 65⟩ := by kernel_rfl
abbrev S76_5 : St := ⟨[(1, rl tsI4 in_), (3, rC a00 n_), (5, rC tsA4 data), (8, rF 0), (10, rF 1), (11, ri s476.1), (26, ri (in_.length : Int)), (27, ri s476.1)], [(tsI4.leaves y459.1), [di 0, di s476.2.1, dl (.one (.int .i8)) s476.2.2.1, di 0, di s476.2.2.2.1, dl (.one (.int .i8)) s476.2.2.2.2]], [], 65⟩
theorem e1n : P76 1 C76.r.r.r.r.l.r.b.b.r.r.l.b (S76_4 n_ in_ data y459 s476) k = k (S76_5 n_ in_ data y459 s476) := by kernel_rfl
def b6u : Option (Int × (List Int) × Int × (List Int)) := (bif (decide ((0 : Int) ≤ s476.1)) then (bif (decide (s476.1 < (in_.length : Int))) then (bif (s476.1 == 0) then (bif (s476.1 == 0) then (some ((gt in_ s476.1 dI4).1, data.1, s476.2.2.2.1, s476.2.2.2.2)) else (bif (s476.1 == 1) then (some (s476.2.1, s476.2.2.1, (gt in_ s476.1 dI4).1, data.1)) else none)) else (bif (s476.1 == 1) then (bif (s476.1 == 0) then (some ((gt in_ s476.1 dI4).1, data.2, s476.2.2.2.1, s476.2.2.2.2)) else (bif (s476.1 == 1) then (some (s476.2.1, s476.2.2.1, (gt in_ s476.1 dI4).1, data.2)) else none)) else none)) else none) else none)
abbrev S76_6 : St := ⟨[(1, rl tsI4 in_), (3, rC a00 n_), (5, rC tsA4 data), (8, rF 0), (10, rF 1), (26, ri (in_.length : Int)), (27, ri s476.1)], [(tsI4.leaves y459.1), [di 0, di y478.1, dl (.one (.int .i8)) y478.2.1, di 0, di y478.2.2.1, dl (.one (.int .i8)) y478.2.2.2]], [], 65⟩
theorem e1s : R76 C76.r.r.r.r.l.r.b.b.r.r.l.b.r (S76_5 n_ in_ data y459 s476) q = Option.bind (b6u in_ data s476) (fun y478 : (Int × (List Int) × Int × (List Int)) => q .normal (S76_6 n_ in_ data y459 s476 y478)) := .trans (by kernel_rfl) (bif_b (bif_b (bif_b (bif_b some_b (bif_b some_b none_b)) (bif_b (bif_b some_b (bif_b some_b none_b)) none_b)) none_b) none_b)
theorem e1t : R76 C76.r.r.r.r.l.r.b.b.r.r.r (S76_6 n_ in_ data y459 s476 y478) q = q .normal ⟨[(1, rl tsI4 in_), (3, rC a00 n_), (5, rC tsA4 data), (8, rF 0), (10, rF 1), (26, ri (in_.length : Int)), (27, ri (IntKind.wrap .i64 (s476.1 + 1)))], [(tsI4.leaves y459.1), [di 0, di y478.1, dl (.one (.int .i8)) y478.2.1, di 0, di y478.2.2.1, dl (.one (.int .i8)) y478.2.2.2]], [], 65⟩ := by kernel_rfl
def a9l : Option (U1 ⊕ U1) := (bif (decide (s476.1 < (in_.length : Int))) then (Option.bind (b6u in_ data s476) (fun y478 : (Int × (List Int) × Int × (List Int)) => (some (Sum.inl ((IntKind.wrap .i64 (s476.1 + 1)), y478.1, y478.2.1, y478.2.2.1, y478.2.2.2))))) else (some (Sum.inr s476)))
abbrev S76_7 : St := ⟨[(1, rl tsI4 in_), (3, rC a00 n_), (5, rC tsA4 data), (8, rF 0), (10, rF 1), (26, ri (in_.length : Int)), (27, ri y479.1)], [(tsI4.leaves y459.1), [di 0, di y479.2.1, dl (.one (.int .i8)) y479.2.2.1, di 0, di y479.2.2.2.1, dl (.one (.int .i8)) y479.2.2.2.2]], [], 65⟩
theorem d42 : R76 C76.r.r.r.r.l.r.b.b (S76_4 n_ in_ data y459 s476) (loopKont 2 q) = Option.bind (a9l in_ data s476) (either (fun y : U1 => q .normal ⟨[(1, rl tsI4 in_), (3, rC a00 n_), (5, rC tsA4 data), (8, rF 0), (10, rF 1), (26, ri (in_.length : Int)), (27, ri y.1)], [(tsI4.leaves y459.1), [di 0, di y.2.1, dl (.one (.int .i8)) y.2.2.1, di 0, di y.2.2.2.1, dl (.one (.int .i8)) y.2.2.2.2]], [], 65⟩) (fun y479 : U1 => q (.exit 0) (S76_7 n_ in_ data y459 y479))) := by
  refine .trans ?_ (bif_b (bind_b fun y478 => e2_0) e2_1)
  refine (pre1 (d3y n_ in_ data y459 s476 _)).trans ?_
  refine .trans seq_push ?_
  refine (cond_e (b := (decide (s476.1 < (in_.length : Int)))) (st' := (S76_4 n_ in_ data y459 s476)) ).trans (bif_g ?_ ?_)
  · refine (skip_eq).trans ?_
    refine (seqC_normal (st' := (S76_4 n_ in_ data y459 s476))).trans ?_
    refine .trans seq_push ?_
    refine (block_push (id := 1)).trans ?_
    refine (pre1 (e1n n_ in_ data y459 s476 _)).trans ?_
    refine (e1s n_ in_ data y459 s476 _).trans (bind_g fun y478 => ?_)
    refine block_normal.trans ?_
    refine (seqC_normal (st' := (S76_6 n_ in_ data y459 s476 y478))).trans ?_
    refine (e1t n_ in_ data y459 s476 y478 _).trans ?_
    kernel_rfl
  · refine ((exit_eq (j := 0))).trans ?_
    refine seqC_exit.trans ?_
    kernel_rfl
theorem e1q : R76 C76.r.r.r.r.l.r.b (S76_3 n_ in_ data y459) q = Option.bind (iterN (a9l in_ data) LL ((0 : Int), (0 : Int), [], (0 : Int), [])) (fun y479 : U1 => q (.exit 0) (S76_7 n_ in_ data y459 y479)) :=
  Eq.trans (by kernel_rfl) (loop_iter1 (S := fun s476 : U1 => (S76_4 n_ in_ data y459 s476)) (Y1 := fun y479 : U1 => ((.exit 0), (S76_7 n_ in_ data y459 y479))) (fun s q => d42 n_ in_ data y459 s q) (fun z => rfl) LL ((0 : Int), (0 : Int), [], (0 : Int), []))
abbrev S76_8 : St := ⟨[(1, rl tsI4 in_), (3, rC a00 n_), (8, rF 0), (10, rF 1)], [(tsI4.leaves y459.1), [di 0, di y479.2.1, dl (.one (.int .i8)) y479.2.2.1, di 0, di y479.2.2.2.1, dl (.one (.int .i8)) y479.2.2.2.2]], [], 65⟩
abbrev S76_9 : St := ⟨[(1, rl tsI4 in_), (3, rC a00 n_), (8, rF 0), (10, rF 1), (12, .one (.ow (.one (.int .i8)) [] (.v 12)))], [(tsI4.leaves y459.1), [di 0, di y479.2.1, dl (.one (.int .i8)) y479.2.2.1, di 0, di y479.2.2.2.1, dl (.one (.int .i8)) y479.2.2.2.2]], [], 65⟩
theorem d8y : P76 1 C76.r.r.r.r.r (S76_8 n_ in_ y459 y479) k = k (S76_9 n_ in_ y459 y479) := by kernel_rfl
abbrev e2z : St := ⟨[(1, rl tsI4 in_), (3, rC a00 n_), (10, rF 1), (12, .one (.ow (.one (.int .i8)) [] (.v 12))), (45, ri y459.1.1), (46, ri 0)], [[], [di 0, di y479.2.1, dl (.one (.int .i8)) y479.2.2.1, di 0, di y479.2.2.2.1, dl (.one (.int .i8)) y479.2.2.2.2]], [], 65⟩
theorem d8z : P76 1 C76.r.r.r.r.r.r.l (S76_9 n_ in_ y459 y479) k = k (e2z n_ in_ y459 y479) := by kernel_rfl
abbrev b4o : St := ⟨[(1, rl tsI4 in_), (3, rC a00 n_), (10, rF 1), (12, .one (.ow (.one (.int .i8)) s1523.1 (.v 12))), (45, ri y459.1.1), (46, ri s1523.2)], [[], [di 0, di y479.2.1, dl (.one (.int .i8)) y479.2.2.1, di 0, di y479.2.2.2.1, dl (.one (.int .i8)) y479.2.2.2.2]], [], 65⟩
theorem d3z : P76 1 C76.r.r.r.r.r.r.l.r.b.b (b4o n_ in_ y459 y479 s1523) k = k ⟨[(1, rl tsI4 in_), (3, rC a00 n_), (10, rF 1), (12, .one (.ow (.one (.int .i8)) s1523.1 (.v 12))), (45, ri y459.1.1), (46, ri s1523.2), (47, rb (decide (s1523.2 < y459.1.1)))], [[], [di 0, di y479.2.1, dl (.one (.int .i8)) y479.2.2.1, di 0, di y479.2.2.2.1, dl (.one (.int .i8)) y479.2.2.2.2]], [], 65⟩ := by kernel_rfl
abbrev c4w : St := ⟨[(1, rl tsI4 in_), (3, rC a00 n_), (10, rF 1), (12, .one (.ow (.one (.int .i8)) s1523.1 (.v 12))), (14, .one (.ow (.one (.int .i8)) y1526.1 (.v 14))), (15, ri y1526.2), (45, ri y459.1.1), (46, ri s1523.2)], [[], [di 0, di y479.2.1, dl (.one (.int .i8)) y479.2.2.1, di 0, di y479.2.2.2.1, dl (.one (.int .i8)) y479.2.2.2.2]], [], 65⟩
theorem d91 : P76 2 C76.r.r.r.r.r.r.l.r.b.b.r.r.l.b (b4o n_ in_ y459 y479 s1523) k = Option.bind (b69 n_ in_ ((0 : Int), y479.2.1, y479.2.2.1, (0 : Int), y479.2.2.2.1, y479.2.2.2.2) s1523.2) fun y1526 : ((List Int) × Int) => k (c4w n_ in_ y459 y479 s1523 y1526) := by kernel_rfl
theorem c0w : P76 1 C76.r.r.r.r.r.r.l.r.b.b.r.r.l.b.r.r.l (c4w n_ in_ y459 y479 s1523 y1526) k = k ⟨[(1, rl tsI4 in_), (3, rC a00 n_), (10, rF 1), (12, .one (.ow (.one (.int .i8)) s1523.1 (.v 12))), (14, .one (.ow (.one (.int .i8)) y1526.1 (.v 14))), (15, ri y1526.2), (45, ri y459.1.1), (46, ri s1523.2), (58, rb (y1526.2 != 0))], [[], [di 0, di y479.2.1, dl (.one (.int .i8)) y479.2.2.1, di 0, di y479.2.2.2.1, dl (.one (.int .i8)) y479.2.2.2.2]], [], 65⟩ := by kernel_rfl
theorem d40 : P76 1 C76.r.r.r.r.r.r.l.r.b.b.r.r.l.b.r.r.l.r.t (c4w n_ in_ y459 y479 s1523 y1526) k = k ⟨[(6, .one (.ow (.one (.int .i8)) [] (.v 6))), (7, ri y1526.2)], [[], []], [], 65⟩ := by kernel_rfl
def b5a : Option Unit := (bif (decide (s1523.1.length + y1526.1.length ≤ maxL)) then (some ()) else none)
abbrev e30 : St := ⟨[(1, rl tsI4 in_), (3, rC a00 n_), (10, rF 1), (12, .one (.ow (.one (.int .i8)) s1523.1 (.v 12))), (14, .one (.ow (.one (.int .i8)) y1526.1 (.v 14))), (45, ri y459.1.1), (46, ri s1523.2)], [[], [di 0, di y479.2.1, dl (.one (.int .i8)) y479.2.2.1, di 0, di y479.2.2.2.1, dl (.one (.int .i8)) y479.2.2.2.2]], [], 65⟩
abbrev d6t : St := ⟨[(1, rl tsI4 in_), (3, rC a00 n_), (10, rF 1), (12, .one (.ow (.one (.int .i8)) (s1523.1 ++ y1526.1) (.v 12))), (45, ri y459.1.1), (46, ri s1523.2)], [[], [di 0, di y479.2.1, dl (.one (.int .i8)) y479.2.2.1, di 0, di y479.2.2.2.1, dl (.one (.int .i8)) y479.2.2.2.2]], [], 65⟩
theorem d92 : R76 C76.r.r.r.r.r.r.l.r.b.b.r.r.l.b.r.r.r (e30 n_ in_ y459 y479 s1523 y1526) q = Option.bind (b5a s1523 y1526) (fun y1527 : Unit => q .normal (d6t n_ in_ y459 y479 s1523 y1526)) := .trans (by kernel_rfl) (bif_b some_b none_b)
theorem d93 : R76 C76.r.r.r.r.r.r.l.r.b.b.r.r.r (d6t n_ in_ y459 y479 s1523 y1526) q = q .normal ⟨[(1, rl tsI4 in_), (3, rC a00 n_), (10, rF 1), (12, .one (.ow (.one (.int .i8)) (s1523.1 ++ y1526.1) (.v 12))), (45, ri y459.1.1), (46, ri (IntKind.wrap .i64 (s1523.2 + 1)))], [[], [di 0, di y479.2.1, dl (.one (.int .i8)) y479.2.2.1, di 0, di y479.2.2.2.1, dl (.one (.int .i8)) y479.2.2.2.2]], [], 65⟩ := by kernel_rfl
def a8c : Option (((List Int) × Int) ⊕ (((List Int) × Int) ⊕ Int)) := (bif (decide (s1523.2 < y459.1.1)) then (Option.bind (b69 n_ in_ ((0 : Int), y479.2.1, y479.2.2.1, (0 : Int), y479.2.2.2.1, y479.2.2.2.2) s1523.2) (fun y1526 : ((List Int) × Int) => (bif (y1526.2 != 0) then (some (Sum.inr (Sum.inr y1526.2))) else (Option.bind (b5a s1523 y1526) (fun y1527 : Unit => (some (Sum.inl ((s1523.1 ++ y1526.1), (IntKind.wrap .i64 (s1523.2 + 1)))))))))) else (some (Sum.inr (Sum.inl s1523))))
abbrev d6u : St := ⟨[(1, rl tsI4 in_), (3, rC a00 n_), (10, rF 1), (12, .one (.ow (.one (.int .i8)) y1528.1 (.v 12))), (45, ri y459.1.1), (46, ri y1528.2)], [[], [di 0, di y479.2.1, dl (.one (.int .i8)) y479.2.2.1, di 0, di y479.2.2.2.1, dl (.one (.int .i8)) y479.2.2.2.2]], [], 65⟩
abbrev d6v (y1529 : Int) : St := ⟨[(6, .one (.ow (.one (.int .i8)) [] (.v 6))), (7, ri y1529)], [[], []], [], 65⟩
theorem c9j : R76 C76.r.r.r.r.r.r.l.r.b.b (b4o n_ in_ y459 y479 s1523) (loopKont 2 q) = Option.bind (a8c n_ in_ y459 y479 s1523) (either (fun y : ((List Int) × Int) => q .normal ⟨[(1, rl tsI4 in_), (3, rC a00 n_), (10, rF 1), (12, .one (.ow (.one (.int .i8)) y.1 (.v 12))), (45, ri y459.1.1), (46, ri y.2)], [[], [di 0, di y479.2.1, dl (.one (.int .i8)) y479.2.2.1, di 0, di y479.2.2.2.1, dl (.one (.int .i8)) y479.2.2.2.2]], [], 65⟩) (either (fun y1528 : ((List Int) × Int) => q (.exit 2) (d6u n_ in_ y459 y479 y1528)) (fun y1529 : Int => q .ret (d6v y1529)))) := by
  refine .trans ?_ (bif_b (bind_b fun y1526 => (bif_b e3_2 (bind_b fun y1527 => e3_0))) e3_1)
  refine (pre1 (d3z n_ in_ y459 y479 s1523 _)).trans ?_
  refine .trans seq_push ?_
  refine (cond_e (b := (decide (s1523.2 < y459.1.1))) (st' := (b4o n_ in_ y459 y479 s1523)) ).trans (bif_g ?_ ?_)
  · refine (skip_eq).trans ?_
    refine (seqC_normal (st' := (b4o n_ in_ y459 y479 s1523))).trans ?_
    refine .trans seq_push ?_
    refine (block_push (id := 3)).trans ?_
    refine (pre2 (d91 n_ in_ y459 y479 s1523 _)).trans (bind_g fun y1526 => ?_)
    refine .trans seq_push ?_
    refine (pre1 (c0w n_ in_ y459 y479 s1523 y1526 _)).trans ?_
    refine (cond_e (b := (y1526.2 != 0)) (st' := (c4w n_ in_ y459 y479 s1523 y1526)) ).trans (bif_g ?_ ?_)
    · refine (pre1 (d40 n_ in_ y459 y479 s1523 y1526 _)).trans ?_
      refine (ret_eq).trans ?_
      refine seqC_ret.trans ?_
      refine block_ret.trans ?_
      refine seqC_ret.trans ?_
      kernel_rfl
    · refine (skip_eq).trans ?_
      refine (seqC_normal (st' := (e30 n_ in_ y459 y479 s1523 y1526))).trans ?_
      refine (d92 n_ in_ y459 y479 s1523 y1526 _).trans (bind_g fun y1527 => ?_)
      refine block_normal.trans ?_
      refine (seqC_normal (st' := (d6t n_ in_ y459 y479 s1523 y1526))).trans ?_
      refine (d93 n_ in_ y459 y479 s1523 y1526 _).trans ?_
      kernel_rfl
  · refine ((exit_eq (j := 2))).trans ?_
    refine seqC_exit.trans ?_
    kernel_rfl
theorem d90 : R76 C76.r.r.r.r.r.r.l.r.b (e2z n_ in_ y459 y479) q = Option.bind (iterN (a8c n_ in_ y459 y479) LL ([], (0 : Int))) (either (fun y1528 : ((List Int) × Int) => q (.exit 2) (d6u n_ in_ y459 y479 y1528)) (fun y1529 : Int => q .ret (d6v y1529))) :=
  Eq.trans (by kernel_rfl) (loop_iter2 (S := fun s1523 : ((List Int) × Int) => (b4o n_ in_ y459 y479 s1523)) (Y1 := fun y1528 : ((List Int) × Int) => ((.exit 2), (d6u n_ in_ y459 y479 y1528))) (Y2 := fun y1529 : Int => (.ret, (d6v y1529))) (fun s q => c9j n_ in_ y459 y479 s q) (fun z => rfl) (fun z => rfl) LL ([], (0 : Int)))
abbrev e31 : St := ⟨[(12, .one (.ow (.one (.int .i8)) y1528.1 (.v 12)))], [[], [di 0, di y479.2.1, dl (.one (.int .i8)) y479.2.2.1, di 0, di y479.2.2.2.1, dl (.one (.int .i8)) y479.2.2.2.2]], [], 65⟩
theorem d41 : P76 1 C76.r.r.r.r.r.r.r (e31 y479 y1528) k = k ⟨[(6, .one (.ow (.one (.int .i8)) y1528.1 (.v 12))), (7, ri 0)], [[], [di 0, di y479.2.1, dl (.one (.int .i8)) y479.2.2.1, di 0, di y479.2.2.2.1, dl (.one (.int .i8)) y479.2.2.2.2]], [], 65⟩ := by kernel_rfl
/-- quilt/kern.All -/
def b68 : Option ((List Int) × Int) := (Option.bind (a1d n_ in_) (fun y459 : (I4 × Int) => (bif (y459.2 != 0) then (some ([], y459.2)) else (Option.bind (iterN (a9l in_ data) LL ((0 : Int), (0 : Int), [], (0 : Int), [])) (fun y479 : U1 => (Option.bind (iterN (a8c n_ in_ y459 y479) LL ([], (0 : Int))) (either (fun y1528 : ((List Int) × Int) => (some (y1528.1, (0 : Int)))) (fun y1529 : Int => (some ([], y1529))))))))))
theorem e1p : stepO E cp72 ce4 22 [rA a00 n_, rl tsI4 in_, rA tsA4 data] = Option.bind (b68 n_ in_ data) (fun y : ((List Int) × Int) => some (.tup [.one (.ow (.one (.int .i8)) y.1 (.s 0)), ri y.2] : R)) := by
  refine .trans ?_ (bind_b fun y459 => (bif_b some_b (bind_b fun y479 => (bind_b (either_b (fun y1528 => some_b) (fun y1529 => some_b))))))
  refine (stepG_is (nt := 65) (regs := [(0, rA a00 n_), (1, rl tsI4 in_), (2, rA tsA4 data)])).trans ?_
  refine (pre2 (e1r n_ in_ data _)).trans (bind_g fun y459 => ?_)
  refine .trans seq_push ?_
  refine (pre1 (c0v n_ in_ data y459 _)).trans ?_
  refine (cond_e (b := (y459.2 != 0)) (st' := (S76_0 n_ in_ data y459)) ).trans (bif_g ?_ ?_)
  · refine (pre1 (e1o n_ in_ data y459 _)).trans ?_
    refine (ret_eq).trans ?_
    refine seqC_ret.trans ?_
    kernel_rfl
  · refine (skip_eq).trans ?_
    refine (seqC_normal (st' := (S76_1 n_ in_ data y459))).trans ?_
    refine (pre1 (e1l n_ in_ data y459 _)).trans ?_
    refine .trans seq_push ?_
    refine (pre1 (e1m n_ in_ data y459 _)).trans ?_
    refine (block_push (id := 0)).trans ?_
    refine (e1q n_ in_ data y459 _).trans (bind_g fun y479 => ?_)
    refine block_same.trans ?_
    refine (seqC_normal (st' := (S76_8 n_ in_ y459 y479))).trans ?_
    refine (pre1 (d8y n_ in_ y459 y479 _)).trans ?_
    refine .trans seq_push ?_
    refine (pre1 (d8z n_ in_ y459 y479 _)).trans ?_
    refine (block_push (id := 2)).trans ?_
    refine (d90 n_ in_ y459 y479 _).trans (bind_g (either_g (fun y1528 => ?_) (fun y1529 => ?_)))
    · refine block_same.trans ?_
      refine (seqC_normal (st' := (e31 y479 y1528))).trans ?_
      refine (pre1 (d41 y479 y1528 _)).trans ?_
      refine (ret_eq).trans ?_
      kernel_rfl
    · refine block_ret.trans ?_
      refine seqC_ret.trans ?_
      kernel_rfl
noncomputable def cp73 : CallP := withC cp72 22 [(.agg a00), (pL tsI4), (.agg tsA4)] (.tup [(.one (.ow (.one (.int .i8)))), pI]) (fun y : ((List Int) × Int) => (y.1, y.2, ())) (fun x => b68 x.1 x.2.1 x.2.2.1)
theorem e5p : PureOK E cp73 := conO eok e5o a0o fun x => Eq.mp (by kernel_rfl) (e1p x.1 x.2.1 x.2.2.1)
end
section
variable {α : Type} (g_ : Graph) (ins : (List (List Int))) (y361 : ((List I4) × Int)) (y424 : (List (List Int))) (s1711 : ((List (List Int)) × Int)) (s1774 : U0) (y1778 : ((List I4) × (List Int) × (List Int))) (y1779 : U0) (y1780 : ((List Int) × Int)) (y1782 : ((List (List Int)) × Int)) (k : St → Option α) (q : Kont α)
noncomputable abbrev C77 := codeOf E.P 11
noncomputable abbrev P77 := @preK α E 11 cp73 ce4
noncomputable abbrev R77 := @runCode α E 11 cp73 ce4
abbrev S77_0 : St := ⟨[(1, rl (.one (.sl (.one (.int .i8)))) ins), (2, rC a01 g_), (6, rO tsI4 y361.1 6), (7, ri y361.2)], [], [], 77⟩
theorem e19 : P77 2 C77 ⟨[(0, rA a01 g_), (1, rl (.one (.sl (.one (.int .i8)))) ins)], [], [], 77⟩ k = Option.bind (a6y g_) fun y361 : ((List I4) × Int) => k (S77_0 g_ ins y361) := by kernel_rfl
theorem b9p : P77 1 C77.r.r.l (S77_0 g_ ins y361) k = k ⟨[(1, rl (.one (.sl (.one (.int .i8)))) ins), (2, rC a01 g_), (6, rO tsI4 y361.1 6), (7, ri y361.2), (23, rb (y361.2 != 0))], [], [], 77⟩ := by kernel_rfl
theorem e14 : P77 1 C77.r.r.l.r.t (S77_0 g_ ins y361) k = k ⟨[(4, .one (.ow (.one (.sl (.one (.int .i8)))) [] (.v 4))), (5, ri y361.2)], [], [], 77⟩ := by kernel_rfl
abbrev S77_1 : St := ⟨[(1, rl (.one (.sl (.one (.int .i8)))) ins), (2, rC a01 g_), (6, rO tsI4 y361.1 6)], [], [], 77⟩
theorem e1a : P77 1 C77.r.r.r.l (S77_1 g_ ins y361) k = Option.bind (b30 g_.1 ins) fun y397 : Bool => k ⟨[(1, rl (.one (.sl (.one (.int .i8)))) ins), (2, rC a01 g_), (6, rO tsI4 y361.1 6), (29, rb (!y397))], [], [], 77⟩ := by kernel_rfl
theorem d2x : P77 1 C77.r.r.r.l.r.t (S77_1 g_ ins y361) k = k ⟨[(4, .one (.ow (.one (.sl (.one (.int .i8)))) [] (.v 4))), (5, ri 1)], [], [], 77⟩ := by kernel_rfl
abbrev S77_2 : St := ⟨[(2, rC a01 g_), (6, rO tsI4 y361.1 6), (8, .one (.ow (.one (.sl (.one (.int .i8)))) y424 (.v 8)))], [], [], 77⟩
theorem e1b : P77 1 C77.r.r.r.r (S77_1 g_ ins y361) k = Option.bind (a3r ins) fun y424 : (List (List Int)) => k (S77_2 g_ y361 y424) := by kernel_rfl
abbrev S77_3 : St := ⟨[(6, rO tsI4 y361.1 6), (8, .one (.ow (.one (.sl (.one (.int .i8)))) y424 (.v 8))), (33, rl a00 g_.2.1), (34, ri (g_.2.1.length : Int)), (35, ri 0)], [], [], 77⟩
theorem e13 : P77 1 C77.r.r.r.r.r.l (S77_2 g_ y361 y424) k = k (S77_3 g_ y361 y424) := by kernel_rfl
abbrev S77_4 : St := ⟨[(6, rO tsI4 y361.1 6), (8, .one (.ow (.one (.sl (.one (.int .i8)))) s1711.1 (.v 8))), (33, rl a00 g_.2.1), (34, ri (g_.2.1.length : Int)), (35, ri s1711.2)], [], [], 77⟩
theorem d2y : P77 1 C77.r.r.r.r.r.l.r.b.b (S77_4 g_ y361 s1711) k = k ⟨[(6, rO tsI4 y361.1 6), (8, .one (.ow (.one (.sl (.one (.int .i8)))) s1711.1 (.v 8))), (33, rl a00 g_.2.1), (34, ri (g_.2.1.length : Int)), (35, ri s1711.2), (36, rb (decide (s1711.2 < (g_.2.1.length : Int))))], [], [], 77⟩ := by kernel_rfl
def b6s : Option Unit := (bif (decide ((0 : Int) ≤ s1711.2)) then (bif (decide (s1711.2 < (g_.2.1.length : Int))) then (some ()) else none) else none)
abbrev S77_5 : St := ⟨[(6, rO tsI4 y361.1 6), (8, .one (.ow (.one (.sl (.one (.int .i8)))) s1711.1 (.v 8))), (10, rF 0), (33, rl a00 g_.2.1), (34, ri (g_.2.1.length : Int)), (35, ri s1711.2)], [(a00.leaves (gt g_.2.1 s1711.2 dNode))], [], 77⟩
theorem e1c : P77 1 C77.r.r.r.r.r.l.r.b.b.r.r.l.b (S77_4 g_ y361 s1711) k = Option.bind (b6s g_ s1711) (fun y1747 : Unit => k (S77_5 g_ y361 s1711)) := .trans (by kernel_rfl) (bif_b (bif_b some_b none_b) none_b)
abbrev S77_6 : St := ⟨[(6, rO tsI4 y361.1 6), (8, .one (.ow (.one (.sl (.one (.int .i8)))) s1711.1 (.v 8))), (10, rF 0), (11, .one (.ow tsI4 [] (.v 11))), (12, rF 1), (33, rl a00 g_.2.1), (34, ri (g_.2.1.length : Int)), (35, ri s1711.2)], [(a00.leaves (gt g_.2.1 s1711.2 dNode)), [dl (.one (.int .i8)) [], dl (.one (.int .i8)) []]], [], 77⟩
theorem d7k : P77 2 C77.r.r.r.r.r.l.r.b.b.r.r.l.b.r (S77_5 g_ y361 s1711) k = k (S77_6 g_ y361 s1711) := by kernel_rfl
abbrev S77_7 : St := ⟨[(6, rO tsI4 y361.1 6), (8, .one (.ow (.one (.sl (.one (.int .i8)))) s1711.1 (.v 8))), (10, rF 0), (11, .one (.ow tsI4 [] (.v 11))), (12, rF 1), (33, rl a00 g_.2.1), (34, ri (g_.2.1.length : Int)), (35, ri s1711.2), (40, rl (.one (.int .i64)) ((gt g_.2.1 s1711.2 dNode).2.1)), (41, ri (((gt g_.2.1 s1711.2 dNode).2.1).length : Int)), (42, ri 0)], [(a00.leaves (gt g_.2.1 s1711.2 dNode)), [dl (.one (.int .i8)) [], dl (.one (.int .i8)) []]], [], 77⟩
theorem d7l : P77 1 C77.r.r.r.r.r.l.r.b.b.r.r.l.b.r.r.r.l (S77_6 g_ y361 s1711) k = k (S77_7 g_ y361 s1711) := by kernel_rfl
abbrev S77_8 : St := ⟨[(6, rO tsI4 y361.1 6), (8, .one (.ow (.one (.sl (.one (.int .i8)))) s1711.1 (.v 8))), (10, rF 0), (11, rO tsI4 s1774.1 11), (12, rF 1), (33, rl a00 g_.2.1), (34, ri (g_.2.1.length : Int)), (35, ri s1711.2), (40, rl (.one (.int .i64)) ((gt g_.2.1 s1711.2 dNode).2.1)), (41, ri (((gt g_.2.1 s1711.2 dNode).2.1).length : Int)), (42, ri s1774.2.1)], [(a00.leaves (gt g_.2.1 s1711.2 dNode)), (tsA4.leaves s1774.2.2)], [], 77⟩
theorem d2z : P77 1 C77.r.r.r.r.r.l.r.b.b.r.r.l.b.r.r.r.l.r.b.b (S77_8 g_ y361 s1711 s1774) k = k ⟨[(6, rO tsI4 y361.1 6), (8, .one (.ow (.one (.sl (.one (.int .i8)))) s1711.1 (.v 8))), (10, rF 0), (11, rO tsI4 s1774.1 11), (12, rF 1), (33, rl a00 g_.2.1), (34, ri (g_.2.1.length : Int)), (35, ri s1711.2), (40, rl (.one (.int .i64)) ((gt g_.2.1 s1711.2 dNode).2.1)), (41, ri (((gt g_.2.1 s1711.2 dNode).2.1).length : Int)), (42, ri s1774.2.1), (43, rb (decide (s1774.2.1 < (((gt g_.2.1 s1711.2 dNode).2.1).length : Int))))], [(a00.leaves (gt g_.2.1 s1711.2 dNode)), (tsA4.leaves s1774.2.2)], [], 77⟩ := by kernel_rfl
def b4x : Option Unit := (bif (decide ((0 : Int) ≤ s1774.2.1)) then (bif (decide (s1774.2.1 < (((gt g_.2.1 s1711.2 dNode).2.1).length : Int))) then (some ()) else none) else none)
abbrev S77_9 : St := ⟨[(6, rO tsI4 y361.1 6), (8, .one (.ow (.one (.sl (.one (.int .i8)))) s1711.1 (.v 8))), (10, rF 0), (11, rO tsI4 s1774.1 11), (12, rF 1), (13, ri s1774.2.1), (14, ri (gt ((gt g_.2.1 s1711.2 dNode).2.1) s1774.2.1 (0 : Int))), (33, rl a00 g_.2.1), (34, ri (g_.2.1.length : Int)), (35, ri s1711.2), (40, rl (.one (.int .i64)) ((gt g_.2.1 s1711.2 dNode).2.1)), (41, ri (((gt g_.2.1 s1711.2 dNode).2.1).length : Int)), (42, ri s1774.2.1)], [(a00.leaves (gt g_.2.1 s1711.2 dNode)), (tsA4.leaves s1774.2.2)], [], 77⟩
theorem d7n : P77 1 C77.r.r.r.r.r.l.r.b.b.r.r.l.b.r.r.r.l.r.b.b.r.r.l.b (S77_8 g_ y361 s1711 s1774) k = Option.bind (b4x g_ s1711 s1774) (fun y1777 : Unit => k (S77_9 g_ y361 s1711 s1774)) := .trans (by kernel_rfl) (bif_b (bif_b some_b none_b) none_b)
def b4y : Option ((List I4) × (List Int) × (List Int)) := (bif (decide ((0 : Int) ≤ (gt ((gt g_.2.1 s1711.2 dNode).2.1) s1774.2.1 (0 : Int)))) then (bif (decide ((gt ((gt g_.2.1 s1711.2 dNode).2.1) s1774.2.1 (0 : Int)) < (y361.1.length : Int))) then (bif (decide (s1774.1.length + ([(gt y361.1 (gt ((gt g_.2.1 s1711.2 dNode).2.1) s1774.2.1 (0 : Int)) dI4)] : List I4).length ≤ maxL)) then (bif (decide ((0 : Int) ≤ (gt ((gt g_.2.1 s1711.2 dNode).2.1) s1774.2.1 (0 : Int)))) then (bif (decide ((gt ((gt g_.2.1 s1711.2 dNode).2.1) s1774.2.1 (0 : Int)) < (s1711.1.length : Int))) then (bif (s1774.2.1 == 0) then (some ((s1774.1 ++ [(gt y361.1 (gt ((gt g_.2.1 s1711.2 dNode).2.1) s1774.2.1 (0 : Int)) dI4)]), (gt s1711.1 (gt ((gt g_.2.1 s1711.2 dNode).2.1) s1774.2.1 (0 : Int)) []), s1774.2.2.2)) else (bif (s1774.2.1 == 1) then (some ((s1774.1 ++ [(gt y361.1 (gt ((gt g_.2.1 s1711.2 dNode).2.1) s1774.2.1 (0 : Int)) dI4)]), s1774.2.2.1, (gt s1711.1 (gt ((gt g_.2.1 s1711.2 dNode).2.1) s1774.2.1 (0 : Int)) []))) else none)) else none) else none) else none) else none) else none)
abbrev d6w : St := ⟨[(6, rO tsI4 y361.1 6), (8, .one (.ow (.one (.sl (.one (.int .i8)))) s1711.1 (.v 8))), (10, rF 0), (11, rO tsI4 y1778.1 11), (12, rF 1), (33, rl a00 g_.2.1), (34, ri (g_.2.1.length : Int)), (35, ri s1711.2), (40, rl (.one (.int .i64)) ((gt g_.2.1 s1711.2 dNode).2.1)), (41, ri (((gt g_.2.1 s1711.2 dNode).2.1).length : Int)), (42, ri s1774.2.1)], [(a00.leaves (gt g_.2.1 s1711.2 dNode)), (tsA4.leaves y1778.2)], [], 77⟩
theorem d7o : R77 C77.r.r.r.r.r.l.r.b.b.r.r.l.b.r.r.r.l.r.b.b.r.r.l.b.r (S77_9 g_ y361 s1711 s1774) q = Option.bind (b4y g_ y361 s1711 s1774) (fun y1778 : ((List I4) × (List Int) × (List Int)) => q .normal (d6w g_ y361 s1711 s1774 y1778)) := .trans (by kernel_rfl) (bif_b (bif_b (bif_b (bif_b (bif_b (bif_b some_b (bif_b some_b none_b)) none_b) none_b) none_b) none_b) none_b)
theorem d7p : R77 C77.r.r.r.r.r.l.r.b.b.r.r.l.b.r.r.r.l.r.b.b.r.r.r (d6w g_ y361 s1711 s1774 y1778) q = q .normal ⟨[(6, rO tsI4 y361.1 6), (8, .one (.ow (.one (.sl (.one (.int .i8)))) s1711.1 (.v 8))), (10, rF 0), (11, rO tsI4 y1778.1 11), (12, rF 1), (33, rl a00 g_.2.1), (34, ri (g_.2.1.length : Int)), (35, ri s1711.2), (40, rl (.one (.int .i64)) ((gt g_.2.1 s1711.2 dNode).2.1)), (41, ri (((gt g_.2.1 s1711.2 dNode).2.1).length : Int)), (42, ri (IntKind.wrap .i64 (s1774.2.1 + 1)))], [(a00.leaves (gt g_.2.1 s1711.2 dNode)), (tsA4.leaves y1778.2)], [], 77⟩ := by kernel_rfl
def a84 : Option (U0 ⊕ U0) := (bif (decide (s1774.2.1 < (((gt g_.2.1 s1711.2 dNode).2.1).length : Int))) then (Option.bind (b4x g_ s1711 s1774) (fun y1777 : Unit => (Option.bind (b4y g_ y361 s1711 s1774) (fun y1778 : ((List I4) × (List Int) × (List Int)) => (some (Sum.inl (y1778.1, (IntKind.wrap .i64 (s1774.2.1 + 1)), y1778.2.1, y1778.2.2))))))) else (some (Sum.inr s1774)))
abbrev d6x : St := ⟨[(6, rO tsI4 y361.1 6), (8, .one (.ow (.one (.sl (.one (.int .i8)))) s1711.1 (.v 8))), (10, rF 0), (11, rO tsI4 y1779.1 11), (12, rF 1), (33, rl a00 g_.2.1), (34, ri (g_.2.1.length : Int)), (35, ri s1711.2), (40, rl (.one (.int .i64)) ((gt g_.2.1 s1711.2 dNode).2.1)), (41, ri (((gt g_.2.1 s1711.2 dNode).2.1).length : Int)), (42, ri y1779.2.1)], [(a00.leaves (gt g_.2.1 s1711.2 dNode)), (tsA4.leaves y1779.2.2)], [], 77⟩
theorem c8k : R77 C77.r.r.r.r.r.l.r.b.b.r.r.l.b.r.r.r.l.r.b.b (S77_8 g_ y361 s1711 s1774) (loopKont 2 q) = Option.bind (a84 g_ y361 s1711 s1774) (either (fun y : U0 => q .normal ⟨[(6, rO tsI4 y361.1 6), (8, .one (.ow (.one (.sl (.one (.int .i8)))) s1711.1 (.v 8))), (10, rF 0), (11, rO tsI4 y.1 11), (12, rF 1), (33, rl a00 g_.2.1), (34, ri (g_.2.1.length : Int)), (35, ri s1711.2), (40, rl (.one (.int .i64)) ((gt g_.2.1 s1711.2 dNode).2.1)), (41, ri (((gt g_.2.1 s1711.2 dNode).2.1).length : Int)), (42, ri y.2.1)], [(a00.leaves (gt g_.2.1 s1711.2 dNode)), (tsA4.leaves y.2.2)], [], 77⟩) (fun y1779 : U0 => q (.exit 2) (d6x g_ y361 s1711 y1779))) := by
  refine .trans ?_ (bif_b (bind_b fun y1777 => (bind_b fun y1778 => e2_0)) e2_1)
  refine (pre1 (d2z g_ y361 s1711 s1774 _)).trans ?_
  refine .trans seq_push ?_
  refine (cond_e (b := (decide (s1774.2.1 < (((gt g_.2.1 s1711.2 dNode).2.1).length : Int)))) (st' := (S77_8 g_ y361 s1711 s1774)) ).trans (bif_g ?_ ?_)
  · refine (skip_eq).trans ?_
    refine (seqC_normal (st' := (S77_8 g_ y361 s1711 s1774))).trans ?_
    refine .trans seq_push ?_
    refine (block_push (id := 3)).trans ?_
    refine (pre1 (d7n g_ y361 s1711 s1774 _)).trans (bind_g fun y1777 => ?_)
    refine (d7o g_ y361 s1711 s1774 _).trans (bind_g fun y1778 => ?_)
    refine block_normal.trans ?_
    refine (seqC_normal (st' := (d6w g_ y361 s1711 s1774 y1778))).trans ?_
    refine (d7p g_ y361 s1711 s1774 y1778 _).trans ?_
    kernel_rfl
  · refine ((exit_eq (j := 2))).trans ?_
    refine seqC_exit.trans ?_
    kernel_rfl
theorem d7m : R77 C77.r.r.r.r.r.l.r.b.b.r.r.l.b.r.r.r.l.r.b (S77_7 g_ y361 s1711) q = Option.bind (iterN (a84 g_ y361 s1711) LL ([], (0 : Int), [], [])) (fun y1779 : U0 => q (.exit 2) (d6x g_ y361 s1711 y1779)) :=
  Eq.trans (by kernel_rfl) (loop_iter1 (S := fun s1774 : U0 => (S77_8 g_ y361 s1711 s1774)) (Y1 := fun y1779 : U0 => ((.exit 2), (d6x g_ y361 s1711 y1779))) (fun s q => c8k g_ y361 s1711 s q) (fun z => rfl) LL ([], (0 : Int), [], []))
abbrev e32 : St := ⟨[(6, rO tsI4 y361.1 6), (8, .one (.ow (.one (.sl (.one (.int .i8)))) s1711.1 (.v 8))), (10, rF 0), (11, rO tsI4 y1779.1 11), (12, rF 1), (33, rl a00 g_.2.1), (34, ri (g_.2.1.length : Int)), (35, ri s1711.2)], [(a00.leaves (gt g_.2.1 s1711.2 dNode)), (tsA4.leaves y1779.2.2)], [], 77⟩
abbrev c4x : St := ⟨[(6, rO tsI4 y361.1 6), (8, .one (.ow (.one (.sl (.one (.int .i8)))) s1711.1 (.v 8))), (15, .one (.ow (.one (.int .i8)) y1780.1 (.v 15))), (16, ri y1780.2), (33, rl a00 g_.2.1), (34, ri (g_.2.1.length : Int)), (35, ri s1711.2)], [[], []], [], 77⟩
theorem d7q : P77 1 C77.r.r.r.r.r.l.r.b.b.r.r.l.b.r.r.r.r (e32 g_ y361 s1711 y1779) k = Option.bind (b68 (gt g_.2.1 s1711.2 dNode) y1779.1 y1779.2.2) fun y1780 : ((List Int) × Int) => k (c4x g_ y361 s1711 y1780) := by kernel_rfl
theorem b9q : P77 1 C77.r.r.r.r.r.l.r.b.b.r.r.l.b.r.r.r.r.r.l (c4x g_ y361 s1711 y1780) k = k ⟨[(6, rO tsI4 y361.1 6), (8, .one (.ow (.one (.sl (.one (.int .i8)))) s1711.1 (.v 8))), (15, .one (.ow (.one (.int .i8)) y1780.1 (.v 15))), (16, ri y1780.2), (33, rl a00 g_.2.1), (34, ri (g_.2.1.length : Int)), (35, ri s1711.2), (69, rb (y1780.2 != 0))], [[], []], [], 77⟩ := by kernel_rfl
theorem d30 : P77 1 C77.r.r.r.r.r.l.r.b.b.r.r.l.b.r.r.r.r.r.l.r.t (c4x g_ y361 s1711 y1780) k = k ⟨[(4, .one (.ow (.one (.sl (.one (.int .i8)))) [] (.v 4))), (5, ri y1780.2)], [[], []], [], 77⟩ := by kernel_rfl
def b4z : Option Unit := (bif (decide (s1711.1.length + ([y1780.1] : List (List Int)).length ≤ maxL)) then (some ()) else none)
abbrev e33 : St := ⟨[(6, rO tsI4 y361.1 6), (8, .one (.ow (.one (.sl (.one (.int .i8)))) s1711.1 (.v 8))), (15, .one (.ow (.one (.int .i8)) y1780.1 (.v 15))), (33, rl a00 g_.2.1), (34, ri (g_.2.1.length : Int)), (35, ri s1711.2)], [[], []], [], 77⟩
abbrev d6y : St := ⟨[(6, rO tsI4 y361.1 6), (8, .one (.ow (.one (.sl (.one (.int .i8)))) (s1711.1 ++ [y1780.1]) (.v 8))), (33, rl a00 g_.2.1), (34, ri (g_.2.1.length : Int)), (35, ri s1711.2)], [[], []], [], 77⟩
theorem d7r : R77 C77.r.r.r.r.r.l.r.b.b.r.r.l.b.r.r.r.r.r.r (e33 g_ y361 s1711 y1780) q = Option.bind (b4z s1711 y1780) (fun y1781 : Unit => q .normal (d6y g_ y361 s1711 y1780)) := .trans (by kernel_rfl) (bif_b some_b none_b)
theorem d7s : R77 C77.r.r.r.r.r.l.r.b.b.r.r.r (d6y g_ y361 s1711 y1780) q = q .normal ⟨[(6, rO tsI4 y361.1 6), (8, .one (.ow (.one (.sl (.one (.int .i8)))) (s1711.1 ++ [y1780.1]) (.v 8))), (33, rl a00 g_.2.1), (34, ri (g_.2.1.length : Int)), (35, ri (IntKind.wrap .i64 (s1711.2 + 1)))], [[], []], [], 77⟩ := by kernel_rfl
def a9g : Option (((List (List Int)) × Int) ⊕ (((List (List Int)) × Int) ⊕ Int)) := (bif (decide (s1711.2 < (g_.2.1.length : Int))) then (Option.bind (b6s g_ s1711) (fun y1747 : Unit => (Option.bind (iterN (a84 g_ y361 s1711) LL ([], (0 : Int), [], [])) (fun y1779 : U0 => (Option.bind (b68 (gt g_.2.1 s1711.2 dNode) y1779.1 y1779.2.2) (fun y1780 : ((List Int) × Int) => (bif (y1780.2 != 0) then (some (Sum.inr (Sum.inr y1780.2))) else (Option.bind (b4z s1711 y1780) (fun y1781 : Unit => (some (Sum.inl ((s1711.1 ++ [y1780.1]), (IntKind.wrap .i64 (s1711.2 + 1)))))))))))))) else (some (Sum.inr (Sum.inl s1711))))
abbrev d6z : St := ⟨[(6, rO tsI4 y361.1 6), (8, .one (.ow (.one (.sl (.one (.int .i8)))) y1782.1 (.v 8))), (33, rl a00 g_.2.1), (34, ri (g_.2.1.length : Int)), (35, ri y1782.2)], [], [], 77⟩
abbrev d70 (y1783 : Int) : St := ⟨[(4, .one (.ow (.one (.sl (.one (.int .i8)))) [] (.v 4))), (5, ri y1783)], [[], []], [], 77⟩
theorem d32 : R77 C77.r.r.r.r.r.l.r.b.b (S77_4 g_ y361 s1711) (loopKont 0 q) = Option.bind (a9g g_ y361 s1711) (either (fun y : ((List (List Int)) × Int) => q .normal ⟨[(6, rO tsI4 y361.1 6), (8, .one (.ow (.one (.sl (.one (.int .i8)))) y.1 (.v 8))), (33, rl a00 g_.2.1), (34, ri (g_.2.1.length : Int)), (35, ri y.2)], [], [], 77⟩) (either (fun y1782 : ((List (List Int)) × Int) => q (.exit 0) (d6z g_ y361 y1782)) (fun y1783 : Int => q .ret (d70 y1783)))) := by
  refine .trans ?_ (bif_b (bind_b fun y1747 => (bind_b fun y1779 => (bind_b fun y1780 => (bif_b e3_2 (bind_b fun y1781 => e3_0))))) e3_1)
  refine (pre1 (d2y g_ y361 s1711 _)).trans ?_
  refine .trans seq_push ?_
  refine (cond_e (b := (decide (s1711.2 < (g_.2.1.length : Int)))) (st' := (S77_4 g_ y361 s1711)) ).trans (bif_g ?_ ?_)
  · refine (skip_eq).trans ?_
    refine (seqC_normal (st' := (S77_4 g_ y361 s1711))).trans ?_
    refine .trans seq_push ?_
    refine (block_push (id := 1)).trans ?_
    refine (pre1 (e1c g_ y361 s1711 _)).trans (bind_g fun y1747 => ?_)
    refine (pre2 (d7k g_ y361 s1711 _)).trans ?_
    refine .trans seq_push ?_
    refine (pre1 (d7l g_ y361 s1711 _)).trans ?_
    refine (block_push (id := 2)).trans ?_
    refine (d7m g_ y361 s1711 _).trans (bind_g fun y1779 => ?_)
    refine block_same.trans ?_
    refine (seqC_normal (st' := (e32 g_ y361 s1711 y1779))).trans ?_
    refine (pre1 (d7q g_ y361 s1711 y1779 _)).trans (bind_g fun y1780 => ?_)
    refine .trans seq_push ?_
    refine (pre1 (b9q g_ y361 s1711 y1780 _)).trans ?_
    refine (cond_e (b := (y1780.2 != 0)) (st' := (c4x g_ y361 s1711 y1780)) ).trans (bif_g ?_ ?_)
    · refine (pre1 (d30 g_ y361 s1711 y1780 _)).trans ?_
      refine (ret_eq).trans ?_
      refine seqC_ret.trans ?_
      refine block_ret.trans ?_
      refine seqC_ret.trans ?_
      kernel_rfl
    · refine (skip_eq).trans ?_
      refine (seqC_normal (st' := (e33 g_ y361 s1711 y1780))).trans ?_
      refine (d7r g_ y361 s1711 y1780 _).trans (bind_g fun y1781 => ?_)
      refine block_normal.trans ?_
      refine (seqC_normal (st' := (d6y g_ y361 s1711 y1780))).trans ?_
      refine (d7s g_ y361 s1711 y1780 _).trans ?_
      kernel_rfl
  · refine ((exit_eq (j := 0))).trans ?_
    refine seqC_exit.trans ?_
    kernel_rfl
theorem e18 : R77 C77.r.r.r.r.r.l.r.b (S77_3 g_ y361 y424) q = Option.bind (iterN (a9g g_ y361) LL (y424, (0 : Int))) (either (fun y1782 : ((List (List Int)) × Int) => q (.exit 0) (d6z g_ y361 y1782)) (fun y1783 : Int => q .ret (d70 y1783))) :=
  Eq.trans (by kernel_rfl) (loop_iter2 (S := fun s1711 : ((List (List Int)) × Int) => (S77_4 g_ y361 s1711)) (Y1 := fun y1782 : ((List (List Int)) × Int) => ((.exit 0), (d6z g_ y361 y1782))) (Y2 := fun y1783 : Int => (.ret, (d70 y1783))) (fun s q => d32 g_ y361 s q) (fun z => rfl) (fun z => rfl) LL (y424, (0 : Int)))
abbrev e34 : St := ⟨[(8, .one (.ow (.one (.sl (.one (.int .i8)))) y1782.1 (.v 8)))], [], [], 77⟩
theorem d31 : P77 1 C77.r.r.r.r.r.r (e34 y1782) k = k ⟨[(4, .one (.ow (.one (.sl (.one (.int .i8)))) y1782.1 (.v 8))), (5, ri 0)], [], [], 77⟩ := by kernel_rfl
/-- quilt/eval.All -/
def a4f : Option ((List (List Int)) × Int) := (Option.bind (a6y g_) (fun y361 : ((List I4) × Int) => (bif (y361.2 != 0) then (some ([], y361.2)) else (Option.bind (b30 g_.1 ins) (fun y397 : Bool => (bif (!y397) then (some ([], (1 : Int))) else (Option.bind (a3r ins) (fun y424 : (List (List Int)) => (Option.bind (iterN (a9g g_ y361) LL (y424, (0 : Int))) (either (fun y1782 : ((List (List Int)) × Int) => (some (y1782.1, (0 : Int)))) (fun y1783 : Int => (some ([], y1783)))))))))))))
theorem e17 : stepO E cp73 ce4 11 [rA a01 g_, rl (.one (.sl (.one (.int .i8)))) ins] = Option.bind (a4f g_ ins) (fun y : ((List (List Int)) × Int) => some (.tup [.one (.ow (.one (.sl (.one (.int .i8)))) y.1 (.s 0)), ri y.2] : R)) := by
  refine .trans ?_ (bind_b fun y361 => (bif_b some_b (bind_b fun y397 => (bif_b some_b (bind_b fun y424 => (bind_b (either_b (fun y1782 => some_b) (fun y1783 => some_b))))))))
  refine (stepG_is (nt := 77) (regs := [(0, rA a01 g_), (1, rl (.one (.sl (.one (.int .i8)))) ins)])).trans ?_
  refine (pre2 (e19 g_ ins _)).trans (bind_g fun y361 => ?_)
  refine .trans seq_push ?_
  refine (pre1 (b9p g_ ins y361 _)).trans ?_
  refine (cond_e (b := (y361.2 != 0)) (st' := (S77_0 g_ ins y361)) ).trans (bif_g ?_ ?_)
  · refine (pre1 (e14 g_ ins y361 _)).trans ?_
    refine (ret_eq).trans ?_
    refine seqC_ret.trans ?_
    kernel_rfl
  · refine (skip_eq).trans ?_
    refine (seqC_normal (st' := (S77_1 g_ ins y361))).trans ?_
    refine .trans seq_push ?_
    refine (pre1 (e1a g_ ins y361 _)).trans (bind_g fun y397 => ?_)
    refine (cond_e (b := (!y397)) (st' := (S77_1 g_ ins y361)) ).trans (bif_g ?_ ?_)
    · refine (pre1 (d2x g_ ins y361 _)).trans ?_
      refine (ret_eq).trans ?_
      refine seqC_ret.trans ?_
      kernel_rfl
    · refine (skip_eq).trans ?_
      refine (seqC_normal (st' := (S77_1 g_ ins y361))).trans ?_
      refine (pre1 (e1b g_ ins y361 _)).trans (bind_g fun y424 => ?_)
      refine .trans seq_push ?_
      refine (pre1 (e13 g_ y361 y424 _)).trans ?_
      refine (block_push (id := 0)).trans ?_
      refine (e18 g_ y361 y424 _).trans (bind_g (either_g (fun y1782 => ?_) (fun y1783 => ?_)))
      · refine block_same.trans ?_
        refine (seqC_normal (st' := (e34 y1782))).trans ?_
        refine (pre1 (d31 y1782 _)).trans ?_
        refine (ret_eq).trans ?_
        kernel_rfl
      · refine block_ret.trans ?_
        refine seqC_ret.trans ?_
        kernel_rfl
noncomputable def cp74 : CallP := withC cp73 11 [(.agg a01), (.one (.g (.sl (.one (.sl (.one (.int .i8)))))))] (.tup [(.one (.ow (.one (.sl (.one (.int .i8)))))), pI]) (fun y : ((List (List Int)) × Int) => (y.1, y.2, ())) (fun x => a4f x.1 x.2.1)
theorem e5q : PureOK E cp74 := conO eok e5p a0o fun x => Eq.mp (by kernel_rfl) (e17 x.1 x.2.1)
end
section
variable {α : Type} (g_ : Graph) (ins : (List (List Int))) (y1784 : ((List (List Int)) × Int)) (s1801 : ((List (List Int)) × Int)) (y1805 : (List (List Int))) (y1806 : ((List (List Int)) × Int)) (k : St → Option α) (q : Kont α)
noncomputable abbrev C78 := codeOf E.P 15
noncomputable abbrev P78 := @preK α E 15 cp74 ce4
noncomputable abbrev R78 := @runCode α E 15 cp74 ce4
abbrev S78_0 : St := ⟨[(2, rC a01 g_), (6, .one (.ow (.one (.sl (.one (.int .i8)))) y1784.1 (.v 6))), (7, ri y1784.2)], [], [], 37⟩
theorem d7y : P78 2 C78 ⟨[(0, rA a01 g_), (1, rl (.one (.sl (.one (.int .i8)))) ins)], [], [], 37⟩ k = Option.bind (a4f g_ ins) fun y1784 : ((List (List Int)) × Int) => k (S78_0 g_ y1784) := by kernel_rfl
theorem b8n : P78 1 C78.r.r.l (S78_0 g_ y1784) k = k ⟨[(2, rC a01 g_), (6, .one (.ow (.one (.sl (.one (.int .i8)))) y1784.1 (.v 6))), (7, ri y1784.2), (18, rb (y1784.2 != 0))], [], [], 37⟩ := by kernel_rfl
theorem d7v : P78 1 C78.r.r.l.r.t (S78_0 g_ y1784) k = k ⟨[(4, .one (.ow (.one (.sl (.one (.int .i8)))) [] (.v 4))), (5, ri y1784.2)], [], [], 37⟩ := by kernel_rfl
abbrev S78_1 : St := ⟨[(2, rC a01 g_), (6, .one (.ow (.one (.sl (.one (.int .i8)))) y1784.1 (.v 6)))], [], [], 37⟩
abbrev S78_2 : St := ⟨[(2, rC a01 g_), (6, .one (.ow (.one (.sl (.one (.int .i8)))) y1784.1 (.v 6))), (8, .one (.ow (.one (.sl (.one (.int .i8)))) [] (.v 8)))], [], [], 37⟩
theorem d7t : P78 1 C78.r.r.r (S78_1 g_ y1784) k = k (S78_2 g_ y1784) := by kernel_rfl
abbrev S78_3 : St := ⟨[(6, .one (.ow (.one (.sl (.one (.int .i8)))) y1784.1 (.v 6))), (8, .one (.ow (.one (.sl (.one (.int .i8)))) [] (.v 8))), (21, rl (.one (.int .i64)) g_.2.2), (22, ri (g_.2.2.length : Int)), (23, ri 0)], [], [], 37⟩
theorem d7u : P78 1 C78.r.r.r.r.l (S78_2 g_ y1784) k = k (S78_3 g_ y1784) := by kernel_rfl
abbrev S78_4 : St := ⟨[(6, .one (.ow (.one (.sl (.one (.int .i8)))) y1784.1 (.v 6))), (8, .one (.ow (.one (.sl (.one (.int .i8)))) s1801.1 (.v 8))), (21, rl (.one (.int .i64)) g_.2.2), (22, ri (g_.2.2.length : Int)), (23, ri s1801.2)], [], [], 37⟩
theorem c8l : P78 1 C78.r.r.r.r.l.r.b.b (S78_4 g_ y1784 s1801) k = k ⟨[(6, .one (.ow (.one (.sl (.one (.int .i8)))) y1784.1 (.v 6))), (8, .one (.ow (.one (.sl (.one (.int .i8)))) s1801.1 (.v 8))), (21, rl (.one (.int .i64)) g_.2.2), (22, ri (g_.2.2.length : Int)), (23, ri s1801.2), (24, rb (decide (s1801.2 < (g_.2.2.length : Int))))], [], [], 37⟩ := by kernel_rfl
def b50 : Option Unit := (bif (decide ((0 : Int) ≤ s1801.2)) then (bif (decide (s1801.2 < (g_.2.2.length : Int))) then (some ()) else none) else none)
abbrev S78_5 : St := ⟨[(6, .one (.ow (.one (.sl (.one (.int .i8)))) y1784.1 (.v 6))), (8, .one (.ow (.one (.sl (.one (.int .i8)))) s1801.1 (.v 8))), (10, ri (gt g_.2.2 s1801.2 (0 : Int))), (21, rl (.one (.int .i64)) g_.2.2), (22, ri (g_.2.2.length : Int)), (23, ri s1801.2)], [], [], 37⟩
theorem d7z : P78 1 C78.r.r.r.r.l.r.b.b.r.r.l.b (S78_4 g_ y1784 s1801) k = Option.bind (b50 g_ s1801) (fun y1804 : Unit => k (S78_5 g_ y1784 s1801)) := .trans (by kernel_rfl) (bif_b (bif_b some_b none_b) none_b)
def b51 : Option (List (List Int)) := (bif (decide ((0 : Int) ≤ (gt g_.2.2 s1801.2 (0 : Int)))) then (bif (decide ((gt g_.2.2 s1801.2 (0 : Int)) < (y1784.1.length : Int))) then (bif (decide (s1801.1.length + ([(gt y1784.1 (gt g_.2.2 s1801.2 (0 : Int)) [])] : List (List Int)).length ≤ maxL)) then (some (s1801.1 ++ [(gt y1784.1 (gt g_.2.2 s1801.2 (0 : Int)) [])])) else none) else none) else none)
abbrev S78_6 : St := ⟨[(6, .one (.ow (.one (.sl (.one (.int .i8)))) y1784.1 (.v 6))), (8, .one (.ow (.one (.sl (.one (.int .i8)))) y1805 (.v 8))), (21, rl (.one (.int .i64)) g_.2.2), (22, ri (g_.2.2.length : Int)), (23, ri s1801.2)], [], [], 37⟩
theorem d80 : R78 C78.r.r.r.r.l.r.b.b.r.r.l.b.r (S78_5 g_ y1784 s1801) q = Option.bind (b51 g_ y1784 s1801) (fun y1805 : (List (List Int)) => q .normal (S78_6 g_ y1784 s1801 y1805)) := .trans (by kernel_rfl) (bif_b (bif_b (bif_b some_b none_b) none_b) none_b)
theorem d81 : R78 C78.r.r.r.r.l.r.b.b.r.r.r (S78_6 g_ y1784 s1801 y1805) q = q .normal ⟨[(6, .one (.ow (.one (.sl (.one (.int .i8)))) y1784.1 (.v 6))), (8, .one (.ow (.one (.sl (.one (.int .i8)))) y1805 (.v 8))), (21, rl (.one (.int .i64)) g_.2.2), (22, ri (g_.2.2.length : Int)), (23, ri (IntKind.wrap .i64 (s1801.2 + 1)))], [], [], 37⟩ := by kernel_rfl
def a85 : Option (((List (List Int)) × Int) ⊕ ((List (List Int)) × Int)) := (bif (decide (s1801.2 < (g_.2.2.length : Int))) then (Option.bind (b50 g_ s1801) (fun y1804 : Unit => (Option.bind (b51 g_ y1784 s1801) (fun y1805 : (List (List Int)) => (some (Sum.inl (y1805, (IntKind.wrap .i64 (s1801.2 + 1))))))))) else (some (Sum.inr s1801)))
abbrev S78_7 : St := ⟨[(6, .one (.ow (.one (.sl (.one (.int .i8)))) y1784.1 (.v 6))), (8, .one (.ow (.one (.sl (.one (.int .i8)))) y1806.1 (.v 8))), (21, rl (.one (.int .i64)) g_.2.2), (22, ri (g_.2.2.length : Int)), (23, ri y1806.2)], [], [], 37⟩
theorem c8m : R78 C78.r.r.r.r.l.r.b.b (S78_4 g_ y1784 s1801) (loopKont 0 q) = Option.bind (a85 g_ y1784 s1801) (either (fun y : ((List (List Int)) × Int) => q .normal ⟨[(6, .one (.ow (.one (.sl (.one (.int .i8)))) y1784.1 (.v 6))), (8, .one (.ow (.one (.sl (.one (.int .i8)))) y.1 (.v 8))), (21, rl (.one (.int .i64)) g_.2.2), (22, ri (g_.2.2.length : Int)), (23, ri y.2)], [], [], 37⟩) (fun y1806 : ((List (List Int)) × Int) => q (.exit 0) (S78_7 g_ y1784 y1806))) := by
  refine .trans ?_ (bif_b (bind_b fun y1804 => (bind_b fun y1805 => e2_0)) e2_1)
  refine (pre1 (c8l g_ y1784 s1801 _)).trans ?_
  refine .trans seq_push ?_
  refine (cond_e (b := (decide (s1801.2 < (g_.2.2.length : Int)))) (st' := (S78_4 g_ y1784 s1801)) ).trans (bif_g ?_ ?_)
  · refine (skip_eq).trans ?_
    refine (seqC_normal (st' := (S78_4 g_ y1784 s1801))).trans ?_
    refine .trans seq_push ?_
    refine (block_push (id := 1)).trans ?_
    refine (pre1 (d7z g_ y1784 s1801 _)).trans (bind_g fun y1804 => ?_)
    refine (d80 g_ y1784 s1801 _).trans (bind_g fun y1805 => ?_)
    refine block_normal.trans ?_
    refine (seqC_normal (st' := (S78_6 g_ y1784 s1801 y1805))).trans ?_
    refine (d81 g_ y1784 s1801 y1805 _).trans ?_
    kernel_rfl
  · refine ((exit_eq (j := 0))).trans ?_
    refine seqC_exit.trans ?_
    kernel_rfl
theorem d7x : R78 C78.r.r.r.r.l.r.b (S78_3 g_ y1784) q = Option.bind (iterN (a85 g_ y1784) LL ([], (0 : Int))) (fun y1806 : ((List (List Int)) × Int) => q (.exit 0) (S78_7 g_ y1784 y1806)) :=
  Eq.trans (by kernel_rfl) (loop_iter1 (S := fun s1801 : ((List (List Int)) × Int) => (S78_4 g_ y1784 s1801)) (Y1 := fun y1806 : ((List (List Int)) × Int) => ((.exit 0), (S78_7 g_ y1784 y1806))) (fun s q => c8m g_ y1784 s q) (fun z => rfl) LL ([], (0 : Int)))
abbrev S78_8 : St := ⟨[(8, .one (.ow (.one (.sl (.one (.int .i8)))) y1806.1 (.v 8)))], [], [], 37⟩
theorem d33 : P78 1 C78.r.r.r.r.r (S78_8 y1806) k = Option.bind (a3r y1806.1) fun y1807 : (List (List Int)) => k ⟨[(4, .one (.ow (.one (.sl (.one (.int .i8)))) y1807 (.v 4))), (5, ri 0)], [], [], 37⟩ := by kernel_rfl
/-- quilt/eval.Outs -/
def a6f : Option ((List (List Int)) × Int) := (Option.bind (a4f g_ ins) (fun y1784 : ((List (List Int)) × Int) => (bif (y1784.2 != 0) then (some ([], y1784.2)) else (Option.bind (iterN (a85 g_ y1784) LL ([], (0 : Int))) (fun y1806 : ((List (List Int)) × Int) => (Option.bind (a3r y1806.1) (fun y1807 : (List (List Int)) => (some (y1807, (0 : Int))))))))))
theorem d7w : stepO E cp74 ce4 15 [rA a01 g_, rl (.one (.sl (.one (.int .i8)))) ins] = Option.bind (a6f g_ ins) (fun y : ((List (List Int)) × Int) => some (.tup [.one (.ow (.one (.sl (.one (.int .i8)))) y.1 (.s 0)), ri y.2] : R)) := by
  refine .trans ?_ (bind_b fun y1784 => (bif_b some_b (bind_b fun y1806 => (bind_b fun y1807 => some_b))))
  refine (stepG_is (nt := 37) (regs := [(0, rA a01 g_), (1, rl (.one (.sl (.one (.int .i8)))) ins)])).trans ?_
  refine (pre2 (d7y g_ ins _)).trans (bind_g fun y1784 => ?_)
  refine .trans seq_push ?_
  refine (pre1 (b8n g_ y1784 _)).trans ?_
  refine (cond_e (b := (y1784.2 != 0)) (st' := (S78_0 g_ y1784)) ).trans (bif_g ?_ ?_)
  · refine (pre1 (d7v g_ y1784 _)).trans ?_
    refine (ret_eq).trans ?_
    refine seqC_ret.trans ?_
    kernel_rfl
  · refine (skip_eq).trans ?_
    refine (seqC_normal (st' := (S78_1 g_ y1784))).trans ?_
    refine (pre1 (d7t g_ y1784 _)).trans ?_
    refine .trans seq_push ?_
    refine (pre1 (d7u g_ y1784 _)).trans ?_
    refine (block_push (id := 0)).trans ?_
    refine (d7x g_ y1784 _).trans (bind_g fun y1806 => ?_)
    refine block_same.trans ?_
    refine (seqC_normal (st' := (S78_8 y1806))).trans ?_
    refine (pre1 (d33 y1806 _)).trans (bind_g fun y1807 => ?_)
    refine (ret_eq).trans ?_
    kernel_rfl
noncomputable def cp75 : CallP := withC cp74 15 [(.agg a01), (.one (.g (.sl (.one (.sl (.one (.int .i8)))))))] (.tup [(.one (.ow (.one (.sl (.one (.int .i8)))))), pI]) (fun y : ((List (List Int)) × Int) => (y.1, y.2, ())) (fun x => a6f x.1 x.2.1)
theorem e5r : PureOK E cp75 := conO eok e5q a0o fun x => Eq.mp (by kernel_rfl) (d7w x.1 x.2.1)
end
end Go.V.P
