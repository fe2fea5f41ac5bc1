/- GateCounts in plain lists. -/
import Derived.Test.YtfffjaijflbeaaaDoorGateHead
import Derived.Test.YtfffjaijflbeaaaDoorLGateCounts
namespace Go.Proofs.YtfffjaijflbeaaaDoor
set_option linter.unusedSimpArgs false
set_option linter.unusedVariables false
theorem counts_loop (l : List TenantL) (ops : List OpG) (nm : Str) (of : Int) (hops : ops.length ≤ 200) :
    ∀ (d i f : Nat) (N V : List Int), d = ops.length - i → i ≤ ops.length → d < f → GInv l N V → L_subwaylaw11_GateCounts_l38 l ops nm of true (mostF l nm of) f (mkU N V) (usedF l N V nm of) (i : Int) = some true := by
  intro d
  induction d with
  | zero =>
    intro i f N V hd hi hf hI
    obtain ⟨f, rfl⟩ : ∃ g, f = g + 1 := ⟨f - 1, by omega⟩
    show L_subwaylaw11_GateCounts_b38 (L_subwaylaw11_GateCounts_l38 l ops nm of true (mostF l nm of) f) l ops nm of true (mostF l nm of) (mkU N V) (usedF l N V nm of) (i : Int) = _
    unfold L_subwaylaw11_GateCounts_b38
    rw [show decide ((i : Int) < ((ops.length : Nat) : Int)) = false from decide_eq_false (by omega), cond_false]
  | succ d ih =>
    intro i f N V hd hi hf hI
    obtain ⟨f, rfl⟩ : ∃ g, f = g + 1 := ⟨f - 1, by omega⟩
    have hlt : i < ops.length := by omega
    have hb := used_bounds nm of hI
    show L_subwaylaw11_GateCounts_b38 (L_subwaylaw11_GateCounts_l38 l ops nm of true (mostF l nm of) f) l ops nm of true (mostF l nm of) (mkU N V) (usedF l N V nm of) (i : Int) = _
    generalize hR : L_subwaylaw11_GateCounts_l38 l ops nm of true (mostF l nm of) f = R at *
    have k64 : ∀ N' V' n, GInv l N' V' → n = usedF l N' V' nm of → L_subwaylaw11_GateCounts_k64 R l nm of (mostF l nm of) (i : Int) (mkU N' V') n = some true := by
      intro N' V' n hI' hn
      subst hn
      have hb' := used_bounds nm of hI'
      unfold L_subwaylaw11_GateCounts_k64 L_subwaylaw11_GateCounts_k65
      rw [pUsed _ _ hI', Option.bind_some, bne_self_eq_false, cond_false, decide_eq_false (by omega), cond_false, decide_eq_false (by omega), cond_false, show ((i : Int) + 1) = ((i + 1 : Nat) : Int) by omega, wrapn (by omega), ← hR]
      exact ih (i + 1) f N' V' (by omega) (by omega) (by omega) hI'
    unfold L_subwaylaw11_GateCounts_b38
    rw [show decide ((i : Int) < ((ops.length : Nat) : Int)) = true from decide_eq_true (by omega), cond_true, idx_get hlt, Option.bind_some]
    generalize ops[i] = x
    have k56 : ∀ own : Bool, (own = true ↔ x.2.1 = nm ∧ x.2.2.1 = of) → L_subwaylaw11_GateCounts_k56 R l nm of (mostF l nm of) (mkU N V) (usedF l N V nm of) (i : Int) x own = some true := by
      intro own hown
      unfold L_subwaylaw11_GateCounts_k56 L_subwaylaw11_GateCounts_k66 L_subwaylaw11_GateCounts_k67 L_subwaylaw11_GateCounts_k71 L_subwaylaw11_GateCounts_k72 L_subwaylaw11_GateCounts_k70
      rw [wrap64 (by omega), wrap64 (by omega)]
      cases (x.1 == 2) with
      | true =>
        rw [cond_true, pGive _ _ hI, Option.bind_some]
        have hu := give_used (l := l) (N := N) (V := V) nm x.2.1 of x.2.2.1 hI
        have hi' := give_inv x.2.1 x.2.2.1 hI
        generalize giveF l N V x.2.1 x.2.2.1 = r at *
        obtain ⟨r1, r2, r3⟩ := r
        simp only [] at *
        cases r1 with
        | false =>
          rw [cond_false, cond_false]
          exact k64 r2 r3 _ hi' (by rw [hu, if_neg (by simp)])
        | true =>
          rw [cond_true]
          cases own with
          | true => rw [cond_true]; exact k64 r2 r3 _ hi' (by rw [hu, if_pos ⟨rfl, hown.1 rfl⟩])
          | false => rw [cond_false]; exact k64 r2 r3 _ hi' (by rw [hu, if_neg (fun h => by have := hown.2 h.2; cases this)])
      | false =>
        rw [cond_false]
        cases (x.1 != 3) with
        | false => rw [cond_false]; exact k64 N V _ hI rfl
        | true =>
          rw [cond_true, pTake _ _ hI, Option.bind_some]
          have hu := take_used (l := l) (N := N) (V := V) nm x.2.1 of x.2.2.1 hI
          have hi' := take_inv x.2.1 x.2.2.1 hI
          generalize takeF l N V x.2.1 x.2.2.1 = r at *
          obtain ⟨r1, r2, r3⟩ := r
          simp only [] at *
          cases h0 : (r1 == 0) with
          | false =>
            rw [cond_false, cond_false]
            exact k64 r2 r3 _ hi' (by rw [hu, if_neg (fun h => beq_eq_false_iff_ne.1 h0 h.1)])
          | true =>
            rw [cond_true]
            cases own with
            | true => rw [cond_true]; exact k64 r2 r3 _ hi' (by rw [hu, if_pos ⟨beq_iff_eq.1 h0, hown.1 rfl⟩])
            | false => rw [cond_false]; exact k64 r2 r3 _ hi' (by rw [hu, if_neg (fun h => by have := hown.2 h.2; cases this)])
    by_cases h1 : x.2.1 = nm
    · rw [beq_iff_eq.2 h1, cond_true]
      exact k56 _ (by rw [beq_iff_eq]; simp [h1])
    · rw [beq_eq_false_iff_ne.2 h1, cond_false]
      exact k56 _ (by simp [h1])
theorem most_find (l : List TenantL) (nm : Str) (of : Int) : (if of = 2 then (findL l nm).2.2.1 else if of = 1 then (findL l nm).2.1 else 0) = mostF l nm of := by
  unfold mostF findL
  cases pl l nm with
  | none => simp
  | some k =>
    simp only [tn]
    by_cases h1 : of = 1
    · subst h1; rfl
    · rw [if_neg h1, if_neg h1]
theorem used_zeros {w g i e : Int} {l : List TenantL} (h : cfgOk w g i e l = true) (nm : Str) (of : Int) : usedF l (zeros l) (zeros l) nm of = 0 := by
  unfold usedF
  cases hp : pl l nm with
  | none => rfl
  | some k =>
    have hz : (zeros l).getD k 0 = 0 := by simp [zeros, List.getD, List.getElem?_replicate, pl_lt hp]
    simp only [hz]
    split
    · rfl
    · split <;> rfl
theorem gateCounts_plain (w g i0 e : Int) (l : List TenantL) (ops : List OpG) (nm : Str) (of : Int) (hl : l.length ≤ 140737488355328) (hq : ∀ t ∈ l, TenQ t) (hops : ops.length ≤ 140737488355328) : L_subwaylaw11_GateCounts w g i0 e l ops nm of = some true := by
  unfold L_subwaylaw11_GateCounts
  obtain ⟨b, hb, hb'⟩ := cfg_great w g i0 e l hl hq
  obtain ⟨c, hc, hc'⟩ := opsG_great ops hops
  rw [gateHead, Option.bind_some, pNew w g i0 e l hl hq, Option.bind_some]
  unfold newL
  cases hk : cfgOk w g i0 e l with
  | false => rfl
  | true =>
    rw [if_pos rfl]
    unfold optE
    simp only []
    rw [hb, Option.bind_some]
    unfold L_subwaylaw11_GateCounts_k1
    cases b with
    | true => rw [cond_true, cond_true]
    | false =>
      obtain ⟨s1, s2⟩ := hb' rfl
      rw [cond_false, hc, Option.bind_some]
      cases c with
      | true => rw [cond_true, cond_true]
      | false =>
        rw [cond_false]
        by_cases hn : ((nm.length : Nat) : Int) > 1000
        · rw [decide_eq_true hn, cond_true]
        · rw [decide_eq_false hn, cond_false, rFind _ _ _ _ _ _ (by omega), Option.bind_some]
          unfold L_subwaylaw11_GateCounts_k2 L_subwaylaw11_GateCounts_k3
          have hmain := counts_loop l ops nm of (hc' rfl) ops.length 0 fuel _ _ (by omega) (by omega) (by have := hc' rfl; unfold fuel; omega) (inv_zeros hk)
          rw [used_zeros hk, ← most_find, show ((0 : Nat) : Int) = 0 from rfl] at hmain
          by_cases h2 : of = 2
          · subst h2
            rw [if_pos rfl] at hmain
            rw [show ((2 : Int) == 1) = false from rfl, cond_false, show ((2 : Int) == 2) = true from rfl, cond_true]
            exact hmain
          · rw [if_neg h2] at hmain
            rw [beq_eq_false_iff_ne.2 h2]
            simp only [cond_false]
            by_cases h1 : of = 1
            · subst h1
              rw [if_pos rfl] at hmain
              rw [show ((1 : Int) == 1) = true from rfl, cond_true]
              exact hmain
            · rw [if_neg h1] at hmain
              rw [beq_eq_false_iff_ne.2 h1, cond_false]
              exact hmain
end Go.Proofs.YtfffjaijflbeaaaDoor
