/- What functions compute. -/
import Derived.Test.YtlmhfffnobgipaaPl5
namespace Go.V.P
open Go.RowKit Go.V Go.Proofs
set_option linter.unusedVariables false
set_option maxRecDepth 100000
section
variable {α β : Type} (g_ : Graph) (y690 : Bool) (y789 : Graph) (y790 : ((List I2) × Int)) (y2151 : ((List I2) × Int)) (y2152 : ((List Int) × Int)) (y2274 : ((List Int) × Int)) (y2290 : (Int × Int)) (y2307 : (Int × Int)) (y2324 : Bool) (y2342 : Bool) (k : St → Option α)
noncomputable abbrev C70 := codeOf E.P 3
noncomputable abbrev P70 := @preK α E 3 cp67 ce3
theorem law17_PlaceAll_r1 : P70 2 C70 ⟨[(0, rA tsGraph g_)], [], [], 84⟩ k = Option.bind law17_shown fun y690 : Bool => k ⟨[(1, rF 0), (3, rb y690)], [(tsGraph.leaves g_)], [], 84⟩ := by kernel_rfl
theorem law17_PlaceAll_r2 : P70 1 C70.r.r ⟨[(1, rF 0), (3, rb y690)], [(tsGraph.leaves g_)], [], 84⟩ k = Option.bind (law17_less g_) fun y789 : Graph => k ⟨[(1, rF 0), (3, rb y690)], [(tsGraph.leaves y789)], [], 84⟩ := by kernel_rfl
abbrev S70_0 : St := ⟨[(1, rF 0), (3, rb y690), (4, rO tsI2 y790.1 4), (5, ri y790.2)], [(tsGraph.leaves y789)], [], 84⟩
theorem law17_PlaceAll_r3 : P70 1 C70.r.r.r ⟨[(1, rF 0), (3, rb y690)], [(tsGraph.leaves y789)], [], 84⟩ k = Option.bind (place_Live y789) fun y790 : ((List I2) × Int) => k (S70_0 y690 y789 y790) := by kernel_rfl
abbrev S70_1 : St := ⟨[(1, rF 0), (3, rb y690), (4, rO tsI2 y790.1 4), (5, ri y790.2), (6, rO tsI2 y2151.1 6), (7, ri y2151.2)], [(tsGraph.leaves y789)], [], 84⟩
theorem law17_PlaceAll_r4 : P70 1 C70.r.r.r.r (S70_0 y690 y789 y790) k = Option.bind (ref17_Live y789) fun y2151 : ((List I2) × Int) => k (S70_1 y690 y789 y790 y2151) := by kernel_rfl
abbrev S70_2 : St := ⟨[(1, rF 0), (3, rb y690), (4, rO tsI2 y790.1 4), (5, ri y790.2), (6, rO tsI2 y2151.1 6), (7, ri y2151.2), (8, .one (.ow (.one (.int .i64)) y2152.1 (.v 8))), (9, ri y2152.2)], [(tsGraph.leaves y789)], [], 84⟩
theorem law17_PlaceAll_r5 : P70 1 C70.r.r.r.r.r (S70_1 y690 y789 y790 y2151) k = Option.bind (place_Places y789) fun y2152 : ((List Int) × Int) => k (S70_2 y690 y789 y790 y2151 y2152) := by kernel_rfl
abbrev S70_3 : St := ⟨[(1, rF 0), (3, rb y690), (4, rO tsI2 y790.1 4), (5, ri y790.2), (6, rO tsI2 y2151.1 6), (7, ri y2151.2), (8, .one (.ow (.one (.int .i64)) y2152.1 (.v 8))), (9, ri y2152.2), (10, .one (.ow (.one (.int .i64)) y2274.1 (.v 10))), (11, ri y2274.2)], [(tsGraph.leaves y789)], [], 84⟩
theorem law17_PlaceAll_r6 : P70 1 C70.r.r.r.r.r.r (S70_2 y690 y789 y790 y2151 y2152) k = Option.bind (ref17_Places y789) fun y2274 : ((List Int) × Int) => k (S70_3 y690 y789 y790 y2151 y2152 y2274) := by kernel_rfl
abbrev S70_4 : St := ⟨[(1, rF 0), (3, rb y690), (4, rO tsI2 y790.1 4), (5, ri y790.2), (6, rO tsI2 y2151.1 6), (7, ri y2151.2), (8, .one (.ow (.one (.int .i64)) y2152.1 (.v 8))), (9, ri y2152.2), (10, .one (.ow (.one (.int .i64)) y2274.1 (.v 10))), (11, ri y2274.2), (12, ri y2290.1), (13, ri y2290.2)], [(tsGraph.leaves y789)], [], 84⟩
theorem law17_PlaceAll_r7 : P70 1 C70.r.r.r.r.r.r.r (S70_3 y690 y789 y790 y2151 y2152 y2274) k = Option.bind (place_Total y789) fun y2290 : (Int × Int) => k (S70_4 y690 y789 y790 y2151 y2152 y2274 y2290) := by kernel_rfl
abbrev S70_5 : St := ⟨[(3, rb y690), (4, rO tsI2 y790.1 4), (5, ri y790.2), (6, rO tsI2 y2151.1 6), (7, ri y2151.2), (8, .one (.ow (.one (.int .i64)) y2152.1 (.v 8))), (9, ri y2152.2), (10, .one (.ow (.one (.int .i64)) y2274.1 (.v 10))), (11, ri y2274.2), (12, ri y2290.1), (13, ri y2290.2), (14, ri y2307.1), (15, ri y2307.2)], [[]], [], 84⟩
theorem law17_PlaceAll_r8 : P70 1 C70.r.r.r.r.r.r.r.r (S70_4 y690 y789 y790 y2151 y2152 y2274 y2290) k = Option.bind (ref17_Total y789) fun y2307 : (Int × Int) => k (S70_5 y690 y790 y2151 y2152 y2274 y2290 y2307) := by kernel_rfl
abbrev S70_6 : St := ⟨[(3, rb y690), (5, ri y790.2), (7, ri y2151.2), (8, .one (.ow (.one (.int .i64)) y2152.1 (.v 8))), (9, ri y2152.2), (10, .one (.ow (.one (.int .i64)) y2274.1 (.v 10))), (11, ri y2274.2), (12, ri y2290.1), (13, ri y2290.2), (14, ri y2307.1), (15, ri y2307.2), (16, rb y2324)], [[]], [], 84⟩
theorem law17_PlaceAll_r9 : P70 1 C70.r.r.r.r.r.r.r.r.r (S70_5 y690 y790 y2151 y2152 y2274 y2290 y2307) k = Option.bind (ref17_SameLives y790.1 y2151.1) fun y2324 : Bool => k (S70_6 y690 y790 y2151 y2152 y2274 y2290 y2307 y2324) := by kernel_rfl
abbrev S70_7 : St := ⟨[(3, rb y690), (5, ri y790.2), (7, ri y2151.2), (9, ri y2152.2), (11, ri y2274.2), (12, ri y2290.1), (13, ri y2290.2), (14, ri y2307.1), (15, ri y2307.2), (16, rb y2324), (17, rb y2342)], [[]], [], 84⟩
theorem law17_PlaceAll_r10 : P70 1 C70.r.r.r.r.r.r.r.r.r.r (S70_6 y690 y790 y2151 y2152 y2274 y2290 y2307 y2324) k = Option.bind (ref03_Ints y2152.1 y2274.1) fun y2342 : Bool => k (S70_7 y690 y790 y2151 y2152 y2274 y2290 y2307 y2324 y2342) := by kernel_rfl
def law17_PlaceAll_r11_q (K : Bool → β) : β := (bif y690 then (bif y2324 then (bif (y790.2 == y2151.2) then (bif y2342 then (bif (y2152.2 == y2274.2) then (bif (y2290.1 == y2307.1) then (K (y2290.2 == y2307.2)) else (K false)) else (K false)) else (K false)) else (K false)) else (K false)) else (K false))
def law17_PlaceAll_r11_p : Bool := law17_PlaceAll_r11_q y690 y790 y2151 y2152 y2274 y2290 y2307 y2324 y2342 (fun y => y)
theorem law17_PlaceAll_r11_n (K : Bool → β) : law17_PlaceAll_r11_q y690 y790 y2151 y2152 y2274 y2290 y2307 y2324 y2342 K = K (law17_PlaceAll_r11_p y690 y790 y2151 y2152 y2274 y2290 y2307 y2324 y2342) := (bif_k K (bif_k K (bif_k K (bif_k K (bif_k K (bif_k K rfl rfl) rfl) rfl) rfl) rfl) rfl)
theorem law17_PlaceAll_r11 : P70 1 C70.r.r.r.r.r.r.r.r.r.r.r (S70_7 y690 y790 y2151 y2152 y2274 y2290 y2307 y2324 y2342) k = k ⟨[(2, rb (law17_PlaceAll_r11_p y690 y790 y2151 y2152 y2274 y2290 y2307 y2324 y2342))], [[]], [], 84⟩ := Eq.trans (by kernel_rfl) (law17_PlaceAll_r11_n y690 y790 y2151 y2152 y2274 y2290 y2307 y2324 y2342 (fun y2343 : Bool => k ⟨[(2, rb y2343)], [[]], [], 84⟩))
/-- quilt/quiltlaw17.PlaceAll -/
def law17_PlaceAll : Option Bool := (Option.bind law17_shown (fun y690 : Bool => (Option.bind (law17_less g_) (fun y789 : Graph => (Option.bind (place_Live y789) (fun y790 : ((List I2) × Int) => (Option.bind (ref17_Live y789) (fun y2151 : ((List I2) × Int) => (Option.bind (place_Places y789) (fun y2152 : ((List Int) × Int) => (Option.bind (ref17_Places y789) (fun y2274 : ((List Int) × Int) => (Option.bind (place_Total y789) (fun y2290 : (Int × Int) => (Option.bind (ref17_Total y789) (fun y2307 : (Int × Int) => (Option.bind (ref17_SameLives y790.1 y2151.1) (fun y2324 : Bool => (Option.bind (ref03_Ints y2152.1 y2274.1) (fun y2342 : Bool => (some (law17_PlaceAll_r11_p y690 y790 y2151 y2152 y2274 y2290 y2307 y2324 y2342))))))))))))))))))))))
theorem law17_PlaceAll_is : stepS E cp67 ce3 3 [rA tsGraph g_] = Option.bind (law17_PlaceAll g_) (fun y : Bool => some (rb y : R)) := by
  refine .trans ?_ (bind_b fun y690 => (bind_b fun y789 => (bind_b fun y790 => (bind_b fun y2151 => (bind_b fun y2152 => (bind_b fun y2274 => (bind_b fun y2290 => (bind_b fun y2307 => (bind_b fun y2324 => (bind_b fun y2342 => some_b))))))))))
  refine (stepG_is (nt := 84) (regs := [(0, rA tsGraph g_)])).trans ?_
  refine (pre2 (law17_PlaceAll_r1 g_ _)).trans (bind_g fun y690 => ?_)
  refine (pre1 (law17_PlaceAll_r2 g_ y690 _)).trans (bind_g fun y789 => ?_)
  refine (pre1 (law17_PlaceAll_r3 y690 y789 _)).trans (bind_g fun y790 => ?_)
  refine (pre1 (law17_PlaceAll_r4 y690 y789 y790 _)).trans (bind_g fun y2151 => ?_)
  refine (pre1 (law17_PlaceAll_r5 y690 y789 y790 y2151 _)).trans (bind_g fun y2152 => ?_)
  refine (pre1 (law17_PlaceAll_r6 y690 y789 y790 y2151 y2152 _)).trans (bind_g fun y2274 => ?_)
  refine (pre1 (law17_PlaceAll_r7 y690 y789 y790 y2151 y2152 y2274 _)).trans (bind_g fun y2290 => ?_)
  refine (pre1 (law17_PlaceAll_r8 y690 y789 y790 y2151 y2152 y2274 y2290 _)).trans (bind_g fun y2307 => ?_)
  refine (pre1 (law17_PlaceAll_r9 y690 y790 y2151 y2152 y2274 y2290 y2307 _)).trans (bind_g fun y2324 => ?_)
  refine (pre1 (law17_PlaceAll_r10 y690 y790 y2151 y2152 y2274 y2290 y2307 y2324 _)).trans (bind_g fun y2342 => ?_)
  refine (pre1 (law17_PlaceAll_r11 y690 y790 y2151 y2152 y2274 y2290 y2307 y2324 y2342 _)).trans ?_
  refine (ret_eq).trans ?_
  kernel_rfl
noncomputable def cp68 : CallP := withC cp67 3 [(.agg tsGraph)] (.one pB) (fun y : Bool => y) (fun x => law17_PlaceAll x.1)
theorem cp68_ok : PureOK E cp68 := conS eok cp67_ok ce3_ok fun x => Eq.mp (by kernel_rfl) (law17_PlaceAll_is x.1)
theorem law17_PlaceAll_walk (ht : law17_PlaceAll g_ = some true) (w : World) (vs : List Value) (hrd : ∀ γ : Gh, Free γ → rdRs w γ [argR true tsGraph g_] vs) : Calls E.P 3 vs.toArray w fun e w' => e = .returned (.bool true) ∧ Below w.heap.size w w' :=
  walk_true (E := E) (stepS_ok eok cp67_ok ce3_ok) (show stepS E cp67 ce3 3 [rA tsGraph g_] = some (.one (.g .bool true)) from by rw [law17_PlaceAll_is, ht]; rfl) w fun γ hγ => Eq.mp (by kernel_rfl) (hrd γ hγ)
end
end Go.V.P
