/- GateNets in plain lists. -/
import Derived.Test.YtfffjaijflbeaaaDoorGateHead
import Derived.Test.YtfffjaijflbeaaaDoorLGateNets
namespace Go.Proofs.YtfffjaijflbeaaaDoor
set_option linter.unusedSimpArgs false
set_option linter.unusedVariables false
theorem bit_in {a x : Nat} {b : Int} (ha : a < 4294967296) (hx : x < 4294967296) (hr : rightN a b = true) (hb : 0 < b) : (bShr .u32 (x : Int) ((32 - b.toNat : Nat) : Int) == bShr .u32 (a : Int) ((32 - b.toNat : Nat) : Int)) = inN a b x := by
  have h := hr
  unfold rightN at h
  simp only [Bool.and_eq_true, decide_eq_true_eq] at h
  obtain ⟨h0, h1, h2⟩ := h
  rw [bShr32 _ _ (by omega), bShr32 _ _ (by omega)]
  unfold inN cutN
  rw [hr, Bool.true_and]
  generalize hp : 2 ^ (32 - b.toNat) = p at *
  have hpos : 0 < p := by rw [← hp]; exact Nat.two_pow_pos _
  have e : a / p * p = a := by have := Nat.div_add_mod a p; rw [h2, Nat.mul_comm] at this; omega
  by_cases hh : x / p = a / p
  · rw [hh, beq_self_eq_true, e, decide_eq_true rfl]
  · rw [beq_eq_false_iff_ne.2 (by omega), decide_eq_false]
    intro h3
    apply hh
    rw [← h3, Nat.mul_div_cancel _ hpos]
theorem bit0 {a x : Nat} (ha : a < 4294967296) (hx : x < 4294967296) (hr : rightN a 0 = true) : inN a 0 x = true := by
  have h := hr
  unfold rightN at h
  simp only [Bool.and_eq_true, decide_eq_true_eq] at h
  unfold inN cutN
  rw [hr, Bool.true_and]
  have h2 : a % 2 ^ 32 = 0 := h.2.2
  apply decide_eq_true
  show x / 2 ^ 32 * 2 ^ 32 = a
  rw [show (2 : Nat) ^ 32 = 4294967296 from rfl] at h2 ⊢
  omega
theorem nets_loop (l : List TenantL) (nm : Str) (x : Nat) (hx : x < 4294967296) (U : List (List Int)) (z : Str × Int × Int × List NetL × List TokL × Bool) (hq : ∀ t ∈ l, TenQ t) (hl : z.2.2.2.1.length ≤ 9000) (hn : ∀ n ∈ z.2.2.2.1, (0 ≤ n.1 ∧ n.1 < 4294967296) ∧ netOk n = true)
    (ht : ∀ b : Bool, b = (decide (z.2.2.2.1.length = 0) || z.2.2.2.1.any (inB x)) → cond (!z.2.2.2.2.2) (some (admitF l nm x == 3)) (cond ((admitF l nm x == 0) == b) (some ((admitF l nm x == 111) == (!b))) (some false)) = some true) :
    ∀ (d i f : Nat) (b : Bool), d = z.2.2.2.1.length - i → i ≤ z.2.2.2.1.length → d < f → b = (decide (z.2.2.2.1.length = 0) || (z.2.2.2.1.take i).any (inB x)) → L_subwaylaw11_GateNets_l5 l nm (x : Int) true U z f b (i : Int) = some true := by
  intro d
  induction d with
  | zero =>
    intro i f b hd hi hf hb
    obtain ⟨f, rfl⟩ : ∃ g, f = g + 1 := ⟨f - 1, by omega⟩
    show L_subwaylaw11_GateNets_b5 (L_subwaylaw11_GateNets_l5 l nm (x : Int) true U z f) l nm (x : Int) true U z b (i : Int) = _
    unfold L_subwaylaw11_GateNets_b5 L_subwaylaw11_GateNets_k10 L_subwaylaw11_GateNets_k11
    rw [List.take_of_length_le (by omega)] at hb
    rw [show decide ((i : Int) < ((z.2.2.2.1.length : Nat) : Int)) = false from decide_eq_false (by omega), cond_false, pAdmit _ _ hx hq, Option.bind_some, cond_true, cond_true]
    exact ht b hb
  | succ d ih =>
    intro i f b hd hi hf hb
    obtain ⟨f, rfl⟩ : ∃ g, f = g + 1 := ⟨f - 1, by omega⟩
    have hlt : i < z.2.2.2.1.length := by omega
    obtain ⟨⟨n1, n2⟩, n3⟩ := hn _ (List.getElem_mem hlt)
    show L_subwaylaw11_GateNets_b5 (L_subwaylaw11_GateNets_l5 l nm (x : Int) true U z f) l nm (x : Int) true U z b (i : Int) = _
    generalize hR : L_subwaylaw11_GateNets_l5 l nm (x : Int) true U z f = R at *
    unfold L_subwaylaw11_GateNets_b5 L_subwaylaw11_GateNets_k9
    rw [show decide ((i : Int) < ((z.2.2.2.1.length : Nat) : Int)) = true from decide_eq_true (by omega), cond_true, idx_get hlt, Option.bind_some, show ((i : Int) + 1) = ((i + 1 : Nat) : Int) by omega, wrapn (by omega)]
    have next : ∀ b', b' = (b || inB x z.2.2.2.1[i]) → R b' ((i + 1 : Nat) : Int) = some true := by
      intro b' hb'
      rw [← hR]
      refine ih (i + 1) f b' (by omega) (by omega) (by omega) ?_
      rw [hb', hb, List.take_add_one, List.getElem?_eq_getElem hlt, List.any_append]
      simp [Bool.or_assoc]
    cases b with
    | true => rw [cond_true]; exact next true rfl
    | false =>
      rw [cond_false]
      obtain ⟨a, ha⟩ : ∃ a : Nat, z.2.2.2.1[i].1 = (a : Int) := ⟨z.2.2.2.1[i].1.toNat, by omega⟩
      have hin : inB x z.2.2.2.1[i] = inN a z.2.2.2.1[i].2 x := by unfold inB; rw [ha, Int.toNat_natCast]
      have hr : rightN a z.2.2.2.1[i].2 = true := by unfold netOk at n3; rw [ha, Int.toNat_natCast] at n3; exact n3
      have hbits := bits_of_right hr
      by_cases h0 : z.2.2.2.1[i].2 = 0
      · rw [beq_iff_eq.2 h0, cond_true]
        refine next true ?_
        rw [hin, h0, bit0 (by omega) hx (h0 ▸ hr)]
        rfl
      · rw [beq_eq_false_iff_ne.2 h0, cond_false, decide_eq_true (by omega), cond_true, w32 hbits.1 hbits.2, show decide (0 ≤ ((32 - (z.2.2.2.1[i].2).toNat : Nat) : Int)) = true from decide_eq_true (by omega)]
        simp only [chk, Option.bind_some]
        rw [ha, bit_in (by omega) hx hr (by omega)]
        exact next _ (by rw [hin, Bool.false_or])
theorem gateNets_plain (w g i0 e : Int) (l : List TenantL) (nm : Str) (ad : Int) (had : 0 ≤ ad ∧ ad < 4294967296) (hl : l.length ≤ 140737488355328) (hq : ∀ t ∈ l, TenQ t) : L_subwaylaw11_GateNets w g i0 e l nm ad = some true := by
  obtain ⟨a, rfl⟩ : ∃ a : Nat, ad = (a : Int) := ⟨ad.toNat, by omega⟩
  unfold L_subwaylaw11_GateNets
  obtain ⟨b, hb, hb'⟩ := cfg_great w g i0 e l hl hq
  rw [gateHead, Option.bind_some, pNew w g i0 e l hl hq, Option.bind_some]
  unfold newL
  cases hk : cfgOk w g i0 e l with
  | false => rfl
  | true =>
    rw [if_pos rfl]
    unfold optE
    simp only [Option.bind_some]
    rw [hb, Option.bind_some]
    unfold L_subwaylaw11_GateNets_k1
    cases b with
    | true => rw [cond_true, cond_true]
    | false =>
      obtain ⟨s1, s2⟩ := hb' rfl
      rw [cond_false]
      by_cases hn : ((nm.length : Nat) : Int) > 1000
      · rw [decide_eq_true hn, cond_true]
      · rw [decide_eq_false hn, cond_false, rFind _ _ _ _ _ _ (by omega), Option.bind_some]
        have hten : ∀ t ∈ l, tenOk t = true := by
          unfold cfgOk at hk
          simp only [Bool.and_eq_true, List.all_eq_true] at hk
          exact hk.2.2.1
        have hz : (findL l nm).2.2.2.1.length ≤ 9000 ∧ (∀ n ∈ (findL l nm).2.2.2.1, (0 ≤ n.1 ∧ n.1 < 4294967296) ∧ netOk n = true) ∧ ∀ b : Bool, b = (decide ((findL l nm).2.2.2.1.length = 0) || (findL l nm).2.2.2.1.any (inB a)) →
            cond (!(findL l nm).2.2.2.2.2) (some (admitF l nm a == 3)) (cond ((admitF l nm a == 0) == b) (some ((admitF l nm a == 111) == (!b))) (some false)) = some true := by
          unfold findL
          cases hp : pl l nm with
          | none =>
            have hA : admitF l nm a = 3 := by unfold admitF; rw [hp]
            rw [hA]
            exact ⟨by simp, (fun n hn => by cases hn), fun b _ => rfl⟩
          | some k =>
            have hm := tn_mem (pl_lt hp)
            have hA : admitF l nm a = if (l.getD k dTen0).2.2.2.1.length = 0 ∨ (l.getD k dTen0).2.2.2.1.any (inB a) = true then 0 else 111 := by unfold admitF; rw [hp]; rfl
            refine ⟨(s2 _ hm).2.1, fun n hn => ⟨(hq _ hm).2.2.2.1 n hn, ?_⟩, fun b hb => ?_⟩
            · have := hten _ hm
              unfold tenOk at this
              simp only [Bool.and_eq_true, List.all_eq_true] at this
              exact this.1.1 n hn
            · by_cases h0 : (l.getD k dTen0).2.2.2.1.length = 0
              · rw [if_pos (Or.inl h0)] at hA
                rw [hA, hb, decide_eq_true h0]
                rfl
              · cases ha : (l.getD k dTen0).2.2.2.1.any (inB a) with
                | true =>
                  rw [if_pos (Or.inr ha)] at hA
                  rw [hA, hb, decide_eq_false h0, ha]
                  rfl
                | false =>
                  rw [if_neg (fun h => by rcases h with h | h; exact h0 h; rw [ha] at h; cases h)] at hA
                  rw [hA, hb, decide_eq_false h0, ha]
                  rfl
        have := nets_loop l nm a (by omega) (mkU (zeros l) (zeros l)) (findL l nm) hq hz.1 hz.2.1 hz.2.2 (findL l nm).2.2.2.1.length 0 fuel (decide ((findL l nm).2.2.2.1.length = 0)) (by omega) (by omega) (by have := hz.1; unfold fuel; omega) (by simp)
        rw [show ((0 : Nat) : Int) = 0 from rfl] at this
        rw [show ((((findL l nm).2.2.2.1.length : Nat) : Int) == 0) = decide ((findL l nm).2.2.2.1.length = 0) by
          by_cases h0 : (findL l nm).2.2.2.1.length = 0
          · rw [decide_eq_true h0, beq_iff_eq.2 (by omega)]
          · rw [decide_eq_false h0, beq_eq_false_iff_ne.2 (by omega)]]
        exact this
end Go.Proofs.YtfffjaijflbeaaaDoor
