/- GateApart in plain lists. -/
import Derived.Test.YtfffjaijflbeaaaDoorGateHead
import Derived.Test.YtfffjaijflbeaaaDoorLGateApart
namespace Go.Proofs.YtfffjaijflbeaaaDoor
set_option linter.unusedSimpArgs false
set_option linter.unusedVariables false
theorem apart_loop (l : List TenantL) (ops : List OpG) (nm : Str) (hq : ∀ t ∈ l, TenQ t) (hops : ops.length ≤ 200) (ho : ∀ o ∈ ops, OpGQ o) :
    ∀ (d i f : Nat) (N V N2 V2 : List Int), d = ops.length - i → i ≤ ops.length → d < f → GInv l N V → GInv l N2 V2 → (∀ of, usedF l N V nm of = usedF l N2 V2 nm of) → L_subwaylaw11_GateApart_l22 l ops nm true f (mkU N V) (mkU N2 V2) (i : Int) = some true := by
  intro d
  induction d with
  | zero =>
    intro i f N V N2 V2 hd hi hf hI hI2 hu
    obtain ⟨f, rfl⟩ : ∃ g, f = g + 1 := ⟨f - 1, by omega⟩
    show L_subwaylaw11_GateApart_b22 (L_subwaylaw11_GateApart_l22 l ops nm true f) l ops nm true (mkU N V) (mkU N2 V2) (i : Int) = _
    unfold L_subwaylaw11_GateApart_b22
    rw [show decide ((i : Int) < ((ops.length : Nat) : Int)) = false from decide_eq_false (by omega), cond_false]
  | succ d ih =>
    intro i f N V N2 V2 hd hi hf hI hI2 hu
    obtain ⟨f, rfl⟩ : ∃ g, f = g + 1 := ⟨f - 1, by omega⟩
    have hlt : i < ops.length := by omega
    obtain ⟨o1, o2, o3⟩ := ho _ (List.getElem_mem hlt)
    show L_subwaylaw11_GateApart_b22 (L_subwaylaw11_GateApart_l22 l ops nm true f) l ops nm true (mkU N V) (mkU N2 V2) (i : Int) = _
    generalize hR : L_subwaylaw11_GateApart_l22 l ops nm true f = R at *
    unfold L_subwaylaw11_GateApart_b22
    rw [show decide ((i : Int) < ((ops.length : Nat) : Int)) = true from decide_eq_true (by omega), cond_true, idx_get hlt, Option.bind_some]
    generalize ops[i] = x at *
    have k37 : ∀ M W M2 W2, GInv l M W → GInv l M2 W2 → (∀ of, usedF l M W nm of = usedF l M2 W2 nm of) → L_subwaylaw11_GateApart_k37 R l nm (i : Int) x (mkU M W) (mkU M2 W2) = some true := by
      intro M W M2 W2 h1 h2 h3
      obtain ⟨a, ha⟩ : ∃ a : Nat, x.2.2.2 = (a : Int) := ⟨x.2.2.2.toNat, by omega⟩
      unfold L_subwaylaw11_GateApart_k37 L_subwaylaw11_GateApart_k38
      rw [pUsed _ _ h1, Option.bind_some, pUsed _ _ h2, Option.bind_some, h3 1, bne_self_eq_false, cond_false, pUsed _ _ h1, Option.bind_some, pUsed _ _ h2, Option.bind_some, h3 2, bne_self_eq_false, cond_false, ha, pAdmit _ _ (by omega) hq, Option.bind_some, pAdmit _ _ (by omega) hq, Option.bind_some, bne_self_eq_false, cond_false,
        show ((i : Int) + 1) = ((i + 1 : Nat) : Int) by omega, wrapn (by omega), ← hR]
      exact ih (i + 1) f M W M2 W2 (by omega) (by omega) (by omega) h1 h2 h3
    unfold L_subwaylaw11_GateApart_k39 L_subwaylaw11_GateApart_k41 L_subwaylaw11_GateApart_k42
    cases (x.1 == 2) with
    | true =>
      rw [cond_true, pGive _ _ hI, Option.bind_some, pGive _ _ hI2, Option.bind_some]
      have hg := fun of => give_used (l := l) (N := N) (V := V) nm x.2.1 of x.2.2.1 hI
      have hg2 := fun of => give_used (l := l) (N := N2) (V := V2) nm x.2.1 of x.2.2.1 hI2
      have ha := give_ans (l := l) (N := N) (V := V) x.2.1 x.2.2.1
      have ha2 := give_ans (l := l) (N := N2) (V := V2) x.2.1 x.2.2.1
      have i1 := give_inv x.2.1 x.2.2.1 hI
      have i2 := give_inv x.2.1 x.2.2.1 hI2
      generalize giveF l N V x.2.1 x.2.2.1 = r at *
      generalize giveF l N2 V2 x.2.1 x.2.2.1 = r2 at *
      by_cases h1 : x.2.1 = nm
      · have he : r.1 = r2.1 := by rw [ha, ha2, h1, hu]
        rw [beq_iff_eq.2 h1, cond_true, he, beq_self_eq_true, Bool.not_true, cond_false]
        exact k37 _ _ _ _ i1 i2 fun of => by rw [hg, hg2, hu, he]
      · rw [beq_eq_false_iff_ne.2 h1, cond_false, cond_false]
        exact k37 _ _ _ _ i1 hI2 fun of => by rw [hg, if_neg (fun h => h1 h.2.1), hu]
    | false =>
      rw [cond_false]
      cases (x.1 != 3) with
      | false => rw [cond_false]; exact k37 _ _ _ _ hI hI2 hu
      | true =>
        rw [cond_true, pTake _ _ hI, Option.bind_some, pTake _ _ hI2, Option.bind_some]
        have hg := fun of => take_used (l := l) (N := N) (V := V) nm x.2.1 of x.2.2.1 hI
        have hg2 := fun of => take_used (l := l) (N := N2) (V := V2) nm x.2.1 of x.2.2.1 hI2
        have ha := take_ans (l := l) (N := N) (V := V) x.2.1 x.2.2.1
        have ha2 := take_ans (l := l) (N := N2) (V := V2) x.2.1 x.2.2.1
        have i1 := take_inv x.2.1 x.2.2.1 hI
        have i2 := take_inv x.2.1 x.2.2.1 hI2
        generalize takeF l N V x.2.1 x.2.2.1 = r at *
        generalize takeF l N2 V2 x.2.1 x.2.2.1 = r2 at *
        by_cases h1 : x.2.1 = nm
        · have he : r.1 = r2.1 := by rw [ha, ha2, h1, hu]
          rw [beq_iff_eq.2 h1, cond_true, he, bne_self_eq_false, cond_false]
          exact k37 _ _ _ _ i1 i2 fun of => by rw [hg, hg2, hu, he]
        · rw [beq_eq_false_iff_ne.2 h1, cond_false, cond_false]
          exact k37 _ _ _ _ i1 hI2 fun of => by rw [hg, if_neg (fun h => h1 h.2.1), hu]
theorem gateApart_plain (w g i0 e : Int) (l : List TenantL) (ops : List OpG) (nm : Str) (hl : l.length ≤ 140737488355328) (hq : ∀ t ∈ l, TenQ t) (hops : ops.length ≤ 140737488355328) (ho : ∀ o ∈ ops, OpGQ o) : L_subwaylaw11_GateApart w g i0 e l ops nm = some true := by
  unfold L_subwaylaw11_GateApart
  obtain ⟨b, hb, hb'⟩ := cfg_great w g i0 e l hl hq
  obtain ⟨c, hc, hc'⟩ := opsG_great ops hops
  rw [gateHead, Option.bind_some, pNew w g i0 e l hl hq, Option.bind_some]
  unfold newL
  cases hk : cfgOk w g i0 e l with
  | false => rfl
  | true =>
    rw [if_pos rfl]
    unfold optE
    simp only [Option.bind_some]
    rw [hb, Option.bind_some]
    unfold L_subwaylaw11_GateApart_k1
    cases b with
    | true => rw [cond_true, cond_true]
    | false =>
      rw [cond_false, hc, Option.bind_some]
      cases c with
      | true => rw [cond_true, cond_true]
      | false =>
        rw [cond_false]
        by_cases hn : ((nm.length : Nat) : Int) > 1000
        · rw [decide_eq_true hn, cond_true]
        · rw [decide_eq_false hn, cond_false]
          exact apart_loop l ops nm hq (hc' rfl) ho ops.length 0 fuel _ _ _ _ (by omega) (by omega) (by have := hc' rfl; unfold fuel; omega) (inv_zeros hk) (inv_zeros hk) (fun _ => rfl)
end Go.Proofs.YtfffjaijflbeaaaDoor
