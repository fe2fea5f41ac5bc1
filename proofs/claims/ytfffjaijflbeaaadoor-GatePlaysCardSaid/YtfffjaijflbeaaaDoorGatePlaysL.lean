/- GatePlays in plain lists. -/
import Derived.Test.YtfffjaijflbeaaaDoorGateHead
import Derived.Test.YtfffjaijflbeaaaDoorLGatePlays
namespace Go.Proofs.YtfffjaijflbeaaaDoor
set_option linter.unusedSimpArgs false
set_option linter.unusedVariables false
theorem gplays_loop (w g i0 e : Int) (l : List TenantL) (ops : List OpG) (hl : l.length ≤ 3000) (hq : ∀ t ∈ l, TenQ t) (hs : ∀ t ∈ l, TenS t) (hops : ops.length ≤ 200) (ho : ∀ o ∈ ops, OpGQ o) :
    ∀ (d i f : Nat) (N V : List Int), d = ops.length - i → i ≤ ops.length → d < f → GInv l N V → L_subwaylaw11_GatePlays_l11 l ops true f (mkU N V) w g i0 e N V (i : Int) = some true := by
  intro d
  induction d with
  | zero =>
    intro i f N V hd hi hf hI
    obtain ⟨f, rfl⟩ : ∃ g, f = g + 1 := ⟨f - 1, by omega⟩
    show L_subwaylaw11_GatePlays_b11 (L_subwaylaw11_GatePlays_l11 l ops true f) l ops true (mkU N V) w g i0 e N V (i : Int) = _
    unfold L_subwaylaw11_GatePlays_b11
    rw [show decide ((i : Int) < ((ops.length : Nat) : Int)) = false from decide_eq_false (by omega), cond_false]
  | succ d ih =>
    intro i f N V hd hi hf hI
    obtain ⟨f, rfl⟩ : ∃ g, f = g + 1 := ⟨f - 1, by omega⟩
    have hlt : i < ops.length := by omega
    obtain ⟨o1, o2, o3⟩ := ho _ (List.getElem_mem hlt)
    show L_subwaylaw11_GatePlays_b11 (L_subwaylaw11_GatePlays_l11 l ops true f) l ops true (mkU N V) w g i0 e N V (i : Int) = _
    unfold L_subwaylaw11_GatePlays_b11
    rw [show decide ((i : Int) < ((ops.length : Nat) : Int)) = true from decide_eq_true (by omega), cond_true, idx_get hlt, Option.bind_some]
    have k16 : ∀ N' V', GInv l N' V' → L_subwaylaw11_GatePlays_k16 (L_subwaylaw11_GatePlays_l11 l ops true f) l (i : Int) ops[i] (mkU N' V') w g i0 e N' V' = some true := by
      intro N' V' hI'
      unfold L_subwaylaw11_GatePlays_k16
      rw [pUsed _ _ hI', Option.bind_some, rUsed _ _ w g i0 e hI' (by omega), Option.bind_some, bne_self_eq_false, cond_false, show ((i : Int) + 1) = ((i + 1 : Nat) : Int) by omega, wrapn (by omega)]
      exact ih (i + 1) f N' V' (by omega) (by omega) (by omega) hI'
    unfold L_subwaylaw11_GatePlays_k17
    cases (ops[i].1 == 2) with
    | true =>
      rw [cond_true, pGive _ _ hI, Option.bind_some, rGive _ _ w g i0 e hI (by omega), Option.bind_some]
      simp only [beq_self_eq_true, Bool.not_true, cond_false]
      exact k16 _ _ (give_inv _ _ hI)
    | false =>
      rw [cond_false]
      cases (ops[i].1 == 3) with
      | true =>
        obtain ⟨a, ha⟩ : ∃ a : Nat, ops[i].2.2.2 = (a : Int) := ⟨ops[i].2.2.2.toNat, by omega⟩
        rw [cond_true, ha, pAdmit _ _ (by omega) hq, Option.bind_some, rAdmit _ _ _ (by omega) (by omega) hq hs, Option.bind_some, bne_self_eq_false, cond_false]
        exact k16 _ _ hI
      | false =>
        rw [cond_false, pTake _ _ hI, Option.bind_some, rTake _ _ w g i0 e hI (by omega), Option.bind_some]
        simp only [bne_self_eq_false, cond_false]
        exact k16 _ _ (take_inv _ _ hI)
theorem gatePlays_plain (w g i0 e : Int) (l : List TenantL) (ops : List OpG) (hl : l.length ≤ 140737488355328) (hq : ∀ t ∈ l, TenQ t) (hops : ops.length ≤ 140737488355328) (ho : ∀ o ∈ ops, OpGQ o) : L_subwaylaw11_GatePlays w g i0 e l ops = some true := by
  unfold L_subwaylaw11_GatePlays
  obtain ⟨b, hb, hb'⟩ := cfg_great w g i0 e l hl hq
  obtain ⟨c, hc, hc'⟩ := opsG_great ops hops
  rw [gateHead, Option.bind_some, hb, Option.bind_some]
  cases b with
  | true => rw [cond_true]; unfold L_subwaylaw11_GatePlays_k1; rw [cond_true]
  | false =>
    obtain ⟨s1, s2⟩ := hb' rfl
    rw [cond_false, hc, Option.bind_some]
    unfold L_subwaylaw11_GatePlays_k1
    cases c with
    | true => rw [cond_true]
    | false =>
      rw [cond_false, pNew w g i0 e l hl hq, Option.bind_some]
      unfold newL
      rw [rNew w g i0 e l (by omega) hq s2]
      cases hk : cfgOk w g i0 e l with
      | false => rfl
      | true =>
        rw [if_pos rfl, if_pos rfl]
        exact gplays_loop w g i0 e l ops (by omega) hq s2 (hc' rfl) ho ops.length 0 fuel _ _ (by omega) (by omega) (by have := hc' rfl; unfold fuel; omega) (inv_zeros hk)
end Go.Proofs.YtfffjaijflbeaaaDoor
