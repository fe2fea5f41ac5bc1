/- GateLook in plain lists. -/
import Derived.Test.YtfffjaijflbeaaaDoorGateHead
import Derived.Test.YtfffjaijflbeaaaDoorLGateLook
namespace Go.Proofs.YtfffjaijflbeaaaDoor
set_option linter.unusedSimpArgs false
set_option linter.unusedVariables false
theorem look_loop (w g i0 e : Int) (l : List TenantL) (ops : List OpG) (nm : Str) (ad : Nat) (had : ad < 4294967296) (hl : l.length ≤ 140737488355328) (hq : ∀ t ∈ l, TenQ t) (hk : cfgOk w g i0 e l = true) (hops : ops.length ≤ 200) (ho : ∀ o ∈ ops, OpGQ o) :
    ∀ (d i f : Nat) (N V : List Int), d = ops.length - i → i ≤ ops.length → d < f → GInv l N V → L_subwaylaw11_GateLook_l8 w g i0 e l ops nm (ad : Int) true f (mkU N V) (mkU N V) (i : Int) = some true := by
  intro d
  induction d with
  | zero =>
    intro i f N V hd hi hf hI
    obtain ⟨f, rfl⟩ : ∃ g, f = g + 1 := ⟨f - 1, by omega⟩
    show L_subwaylaw11_GateLook_b8 (L_subwaylaw11_GateLook_l8 w g i0 e l ops nm (ad : Int) true f) w g i0 e l ops nm (ad : Int) true (mkU N V) (mkU N V) (i : Int) = _
    unfold L_subwaylaw11_GateLook_b8 L_subwaylaw11_GateLook_k14
    rw [show decide ((i : Int) < ((ops.length : Nat) : Int)) = false from decide_eq_false (by omega), cond_false, pNew w g i0 e l hl hq, Option.bind_some]
    unfold newL
    rw [if_pos hk]
    unfold optE
    simp only [cond_true]
    rw [pAdmit _ _ had hq, Option.bind_some, pAdmit _ _ had hq, Option.bind_some, beq_self_eq_true]
  | succ d ih =>
    intro i f N V hd hi hf hI
    obtain ⟨f, rfl⟩ : ∃ g, f = g + 1 := ⟨f - 1, by omega⟩
    have hlt : i < ops.length := by omega
    obtain ⟨o1, o2, o3⟩ := ho _ (List.getElem_mem hlt)
    show L_subwaylaw11_GateLook_b8 (L_subwaylaw11_GateLook_l8 w g i0 e l ops nm (ad : Int) true f) w g i0 e l ops nm (ad : Int) true (mkU N V) (mkU N V) (i : Int) = _
    unfold L_subwaylaw11_GateLook_b8 L_subwaylaw11_GateLook_k12
    obtain ⟨a, ha⟩ : ∃ a : Nat, ops[i].2.2.2 = (a : Int) := ⟨ops[i].2.2.2.toNat, by omega⟩
    rw [show decide ((i : Int) < ((ops.length : Nat) : Int)) = true from decide_eq_true (by omega), cond_true, idx_get hlt, Option.bind_some, ha, pAdmit _ _ (by omega) hq, Option.bind_some, pUsed _ _ hI, Option.bind_some, pGive _ _ hI, Option.bind_some, Option.bind_some, pTake _ _ hI, Option.bind_some, Option.bind_some]
    simp only [beq_self_eq_true, Bool.not_true, cond_false, bne_self_eq_false]
    rw [show ((i : Int) + 1) = ((i + 1 : Nat) : Int) by omega, wrapn (by omega)]
    cases (ops[i].1 == 2) with
    | true => rw [cond_true]; exact ih (i + 1) f _ _ (by omega) (by omega) (by omega) (give_inv _ _ hI)
    | false => rw [cond_false]; exact ih (i + 1) f _ _ (by omega) (by omega) (by omega) (take_inv _ _ hI)
theorem gateLook_plain (w g i0 e : Int) (l : List TenantL) (ops : List OpG) (nm : Str) (ad : Int) (had : 0 ≤ ad ∧ ad < 4294967296) (hl : l.length ≤ 140737488355328) (hq : ∀ t ∈ l, TenQ t) (hops : ops.length ≤ 140737488355328) (ho : ∀ o ∈ ops, OpGQ o) : L_subwaylaw11_GateLook w g i0 e l ops nm ad = some true := by
  obtain ⟨a, rfl⟩ : ∃ a : Nat, ad = (a : Int) := ⟨ad.toNat, by omega⟩
  unfold L_subwaylaw11_GateLook
  obtain ⟨b, hb, hb'⟩ := cfg_great w g i0 e l hl hq
  obtain ⟨c, hc, hc'⟩ := opsG_great ops hops
  rw [gateHead, Option.bind_some, pNew w g i0 e l hl hq, Option.bind_some]
  unfold newL
  cases hk : cfgOk w g i0 e l with
  | false => rfl
  | true =>
    rw [if_pos rfl]
    unfold optE
    simp only [Option.bind_some]
    rw [hb, Option.bind_some]
    unfold L_subwaylaw11_GateLook_k1
    cases b with
    | true => rw [cond_true, cond_true]
    | false =>
      rw [cond_false, hc, Option.bind_some]
      cases c with
      | true => rw [cond_true, cond_true]
      | false =>
        rw [cond_false]
        by_cases hn : ((nm.length : Nat) : Int) > 1000
        · rw [decide_eq_true hn, cond_true]
        · rw [decide_eq_false hn, cond_false]
          exact look_loop w g i0 e l ops nm a (by omega) hl hq hk (hc' rfl) ho ops.length 0 fuel _ _ (by omega) (by omega) (by have := hc' rfl; unfold fuel; omega) (inv_zeros hk)
end Go.Proofs.YtfffjaijflbeaaaDoor
