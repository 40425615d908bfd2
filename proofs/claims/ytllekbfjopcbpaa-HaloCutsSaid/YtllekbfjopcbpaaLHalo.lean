/- Plain laws of layer 15: tiles of rows. -/
import Derived.Test.YtllekbfjopcbpaaLBase
import Derived.Test.YtllekbfjopcbpaaGa1
namespace Go.V.P
open Go Go.V Go.IntWalk
set_option linter.unusedVariables false
theorem rng1 {P : Int → Prop} {a : Int} {n : Nat} (h : ∀ i : Nat, i < n → P (a + (i : Int))) (x : Int) (h1 : a ≤ x) (h2 : x < a + n) : P x := by
  have := h (x - a).toNat (by omega)
  rwa [show a + ((x - a).toNat : Int) = x by omega] at this
theorem mask8 (x : Int) (m : Nat) (hm : m < 256) : 1 ≤ IntKind.wrap .i64 (1 + IntKind.wrap .i64 (IntKind.wrap .u8 ((BitVec.ofInt (IntKind.bits .u8) x &&& BitVec.ofInt (IntKind.bits .u8) (m : Int)).toNat : Int))) ∧ IntKind.wrap .i64 (1 + IntKind.wrap .i64 (IntKind.wrap .u8 ((BitVec.ofInt (IntKind.bits .u8) x &&& BitVec.ofInt (IntKind.bits .u8) (m : Int)).toNat : Int))) < 1 + (1 + m : Nat) := by
  obtain ⟨n, en, n1, n2⟩ := and8_le x m hm
  rw [en, i64_in n (by omega), i64_in _ (by omega)]
  omega
theorem shown15 : law15_shown = some true := by decide +kernel
theorem HaloCuts_true (x y : Int) (_ : Ts.ok (.one (.int .u8)) x) (_ : Ts.ok (.one (.int .u8)) y) : law15_HaloCuts x y = some true := by
  have h1 : 1 ≤ law15_HaloCuts_r2_p x ∧ law15_HaloCuts_r2_p x < 1 + (16 : Nat) := mask8 x 15 (by omega)
  have h2 : 1 ≤ law15_HaloCuts_r3_p y ∧ law15_HaloCuts_r3_p y < 1 + (8 : Nat) := mask8 y 7 (by omega)
  obtain ⟨h1, h3⟩ := h1
  obtain ⟨h2, h4⟩ := h2
  unfold law15_HaloCuts law15_HaloCuts_q law15_HaloCuts_r21_p law15_HaloCuts_r21_q
  generalize law15_HaloCuts_r2_p x = h at *
  generalize law15_HaloCuts_r3_p y = r at *
  rw [shown15]
  revert r; refine rng1 fun j hj => ?_
  revert h; refine rng1 fun i hi => ?_
  revert j i
  decide +kernel
theorem npu_out {op : Int} (h : ¬(1 ≤ op ∧ op ≤ 12)) : halo_Npu op = some false ∧ ref15_Npu op = some false := by
  constructor
  · unfold halo_Npu halo_Npu_q halo_Npu_r2_p halo_Npu_r2_q
    by_cases h1 : op ≥ 1
    · rw [decide_eq_true h1, decide_eq_false (by omega)]; rfl
    · rw [decide_eq_false h1]; rfl
  · have hl := iterN_for (p := ref15_Npu_l3_p op) (z := (.inl 8 : Int ⊕ Unit)) 8 (fun i => (i : Int)) LL (LL_lt (by omega)) (fun i hi => by
      have hg : (gt ref15_Npu_r1_p (i : Int) (0 : Int) == op) = false := by
        have : ∀ j, j < 8 → 1 ≤ gt ref15_Npu_r1_p ((j : Nat) : Int) (0 : Int) ∧ gt ref15_Npu_r1_p ((j : Nat) : Int) (0 : Int) ≤ 12 := by decide +kernel
        have := this i hi
        simp only [beq_eq_false_iff_ne]
        omega
      have hlen : (ref15_Npu_r1_p.length : Int) = 8 := rfl
      simp only [ref15_Npu_l3_p, ref15_Npu_l3_q, ref15_Npu_r5_p, ref15_Npu_r5_q, hg, hlen]
      rw [decide_eq_true (by omega), decide_eq_true (by omega), i64_in ((i : Int) + 1) (by omega)]
      rfl) (by
      rfl)
    unfold ref15_Npu ref15_Npu_q
    rw [show ((0 : Nat) : Int) = 0 from rfl] at hl
    rw [hl]
    rfl
theorem npu_same (op : Int) : ∃ b, halo_Npu op = some b ∧ ref15_Npu op = some b := by
  by_cases h : 1 ≤ op ∧ op ≤ 12
  · have : halo_Npu op = ref15_Npu op ∧ (halo_Npu op).isSome = true := by
      obtain ⟨h1, h2⟩ := h
      have h3 : op < 1 + (12 : Nat) := by omega
      clear h2
      revert op; refine rng1 fun i hi => ?_
      revert i
      decide +kernel
    obtain ⟨b, hb⟩ := Option.isSome_iff_exists.1 this.2
    exact ⟨b, hb, this.1 ▸ hb⟩
  · exact ⟨false, npu_out h⟩
theorem tiles_out {h r : Int} (hh : ¬((1 ≤ h ∧ h ≤ 16) ∧ 1 ≤ r ∧ r ≤ 16)) : halo_Tiles h r = some [] ∧ ref15_Tiles h r = some [] := by
  constructor
  · unfold halo_Tiles halo_Tiles_q
    have : halo_Tiles_r1_p h r = true := by
      unfold halo_Tiles_r1_p halo_Tiles_r1_q
      by_cases h1 : min h r < 1
      · rw [decide_eq_true h1]; rfl
      · rw [decide_eq_false h1, decide_eq_true (by omega)]; rfl
    rw [this]; rfl
  · unfold ref15_Tiles ref15_Tiles_q
    have : ref15_Tiles_r2_p h r = true := by
      unfold ref15_Tiles_r2_p ref15_Tiles_r2_q
      simp only [Bool.cond_true_left, Bool.or_eq_true, decide_eq_true_iff]
      omega
    rw [this]; rfl
theorem HaloTiles_true (h r op : Int) (k1 : Ts.ok (.one (.int .i64)) h) (k2 : Ts.ok (.one (.int .i64)) r) (k3 : Ts.ok (.one (.int .i64)) op) : law15_HaloTiles h r op = some true := by
  obtain ⟨b, hb1, hb2⟩ := npu_same op
  unfold law15_HaloTiles law15_HaloTiles_q law15_HaloTiles_r4_p law15_HaloTiles_r4_q
  simp only [shown15, hb1, hb2, Option.bind_some, beq_self_eq_true, Bool.not_true]
  by_cases hh : (1 ≤ h ∧ h ≤ 16) ∧ 1 ≤ r ∧ r ≤ 16
  · obtain ⟨⟨h1, h2⟩, h3, h4⟩ := hh
    have h5 : h < 1 + (16 : Nat) := by omega
    have h6 : r < 1 + (16 : Nat) := by omega
    clear h2 h4 k1 k2 k3
    revert r; refine rng1 fun j hj => ?_
    revert h; refine rng1 fun i hi => ?_
    clear hb1 hb2
    revert j i
    decide +kernel
  · obtain ⟨e1, e2⟩ := tiles_out hh
    rw [e1, e2]
    rfl
end Go.V.P
