/- The contract of laying commands down (layer 8's reference), as far as its error goes. -/
import Derived.Test.YtaeckbkjlmnigaaBmEnv
import Derived.Test.YtaeckbkjlmnigaaHBuild2
import Derived.Test.YtaeckbkjlmnigaaHPut
namespace Go.V.P
open Go Go.RowKit Go.V Go.Proofs
set_option linter.unusedVariables false
theorem rd_encC {w : World} {γ : Gh} (x : I14) : rdRs w γ [R.agg (tsI14.leaves x)] [encC x] := by
  simp only [rdRs, rdR, and_true]
  refine ⟨_, rfl, ?_⟩
  simp only [tsI14, Ts.leaves, cellsC, rdL, rdD, rdT, and_self]
theorem may_calls {cp : CallP} (hcp : PureOK E cp) {x : I14} {e : Int} (h : cp 45 [R.agg (tsI14.leaves x)] = some (.one (.g (.int .i64) e))) (W : World) :
    Calls Try.prog 45 #[encC x] W fun en W' => en = .returned (.int .i64 e) ∧ Below W.heap.size W W' :=
  (walk_of (vs := [encC x]) hcp h W fun γ _ => rd_encC x).mono fun en W' ⟨v, γ', h1, h2, h3⟩ => by
    simp only [rdR, rdD, rdT] at h3
    subst h3
    exact ⟨h1, h2⟩
theorem putC {cp : CallP} (hcp : PureOK E cp) (may : I14 → Option Int) (hm : ∀ x : I14, cp 45 [R.agg (tsI14.leaves x)] = (may x).bind fun e => some (.one (.g (.int .i64) e)))
    (x : denL [.one (.g (.sl tsI14))]) (y : Us.den [.one .undef, .one (.g (.int .i64))]) (hy : putL may x.1 = some y) :
    (∃ fn, E.P.funcs[31]? = some fn ∧ fn.body.isSome = true) ∧ ∀ γ w vs dst, rdRs w γ (encL [.one (.g (.sl tsI14))] x) vs → (∀ b, w.heap.size ≤ b → γ.rd b = none) → γ.base ≤ w.heap.size → (∀ b ∈ γ.bx, b < w.heap.size) →
      Calls E.P 31 vs.toArray w fun e w' => ∃ v γ', e = .returned v ∧ Grow γ w γ' w' dst ∧ rdR w' γ' (encR true [.one .undef, .one (.g (.int .i64))] y) v ∧ ownTop γ' dst (encR true [.one .undef, .one (.g (.int .i64))] y) v := by
  refine ⟨⟨_, Try.func31, rfl⟩, fun γ w vs dst hrd hf hb hbx => ?_⟩
  match vs, hrd with
  | [v], hrd =>
    simp only [encL, It.enc, Ps.enc, rdRs, rdR, rdD, and_true] at hrd
    refine (Put_in may (fun x e he W => may_calls hcp (by rw [hm, he]; rfl) W) x.1 y hy w v (rd_cmds hrd)).mono ?_
    rintro e w' ⟨⟨A, n, c, rfl⟩, hbw⟩
    refine ⟨_, noOwn γ dst, rfl, grow_noOwn hbw hf, ?_, ?_⟩
    · simp only [encR, cond_true, encU, It.enc, Ps.enc, rdR, rdRs, rdD, rdT]
      exact ⟨_, rfl, trivial, rfl, trivial⟩
    · simp only [encR, cond_true, encU, It.enc, Ps.enc, ownTop, ownD']
      intros
      trivial
end Go.V.P
