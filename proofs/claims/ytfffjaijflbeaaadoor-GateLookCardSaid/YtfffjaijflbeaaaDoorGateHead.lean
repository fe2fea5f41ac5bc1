/- The live question of subwaylaw11; what its statements have in common. -/
import Derived.Test.YtfffjaijflbeaaaDoorGateSpec
import Derived.Test.YtfffjaijflbeaaaDoorLGH
namespace Go.Proofs.YtfffjaijflbeaaaDoor
set_option linter.unusedSimpArgs false
set_option linter.unusedVariables false
abbrev headT : List TenantL := [(([97, 110, 110] : List UInt8), 0, 1, ([(167772160, 8)] : List (Int × Int)), ([] : List (List UInt8 × List UInt8 × Int)))]
theorem headT_q : ∀ t ∈ headT, TenQ t := by
  intro t ht
  have : t = (([97, 110, 110] : List UInt8), 0, 1, ([(167772160, 8)] : List (Int × Int)), ([] : List (List UInt8 × List UInt8 × Int))) := by simpa [headT] using ht
  subst this
  refine ⟨by decide, by decide, by decide, fun n hn => ?_, fun x hx => by cases hx⟩
  have : n = (167772160, 8) := by simpa using hn
  subst this
  decide
theorem headNew : L_gate_New 9 9 9 9 headT = some (some (mkU [0] [0])) := by
  rw [pNew 9 9 9 9 headT (by decide) headT_q, show newL 9 9 9 9 headT = some (mkU [0] [0]) by kernel_rfl]
theorem headNone : L_gate_New 0 0 0 0 [] = some none := by
  rw [pNew 0 0 0 0 [] (by decide) (fun t ht => by cases ht), show newL 0 0 0 0 [] = none by kernel_rfl]
theorem headRest : L_subwaylaw11_head_k1 (mkU [0] [0]) false = some true := by kernel_rfl
set_option maxRecDepth 100000 in
theorem gateHead : L_subwaylaw11_head = some true := by
  unfold L_subwaylaw11_head
  rw [headNew, Option.bind_some, headNone]
  exact headRest
abbrev OpG := Int × Str × Int × Int
def OpGQ (o : OpG) : Prop := o.2.1.length ≤ 140737488355328 ∧ 0 ≤ o.2.2.2 ∧ o.2.2.2 < 4294967296
theorem opsG_loop (l : List OpG) (hl : l.length ≤ 140737488355328) : ∀ (d i f : Nat), d = min l.length 300 - i → i ≤ l.length → i ≤ 300 → d < f → ∃ b, L_subwaylaw11_great_l2 l f (i : Int) = some b ∧ (b = false → l.length ≤ 200) := by
  intro d
  induction d with
  | zero =>
    intro i f hd hi h3 hf
    obtain ⟨f, rfl⟩ : ∃ g, f = g + 1 := ⟨f - 1, by omega⟩
    show ∃ b, L_subwaylaw11_great_b2 (L_subwaylaw11_great_l2 l f) l (i : Int) = some b ∧ _
    unfold L_subwaylaw11_great_b2 L_subwaylaw11_great_k4
    by_cases hlt : i < l.length
    · rw [show decide ((i : Int) < ((l.length : Nat) : Int)) = true from decide_eq_true (by omega), cond_true, show decide ((i : Int) < 300) = false from decide_eq_false (by omega), cond_false]
      exact ⟨_, rfl, fun h => by have := of_decide_eq_false h; omega⟩
    · rw [show decide ((i : Int) < ((l.length : Nat) : Int)) = false from decide_eq_false (by omega), cond_false, cond_false]
      exact ⟨_, rfl, fun h => by have := of_decide_eq_false h; omega⟩
  | succ d ih =>
    intro i f hd hi h3 hf
    obtain ⟨f, rfl⟩ : ∃ g, f = g + 1 := ⟨f - 1, by omega⟩
    have hlt : i < l.length := by omega
    show ∃ b, L_subwaylaw11_great_b2 (L_subwaylaw11_great_l2 l f) l (i : Int) = some b ∧ _
    unfold L_subwaylaw11_great_b2 L_subwaylaw11_great_k4
    rw [show decide ((i : Int) < ((l.length : Nat) : Int)) = true from decide_eq_true (by omega), cond_true, show decide ((i : Int) < 300) = true from decide_eq_true (by omega), cond_true, idx_get hlt, Option.bind_some]
    by_cases hg : ((List.length l[i].2.1 : Nat) : Int) > 1000
    · rw [decide_eq_true hg, cond_true]
      exact ⟨true, rfl, fun h => by cases h⟩
    · rw [decide_eq_false hg, cond_false, show ((i : Int) + 1) = ((i + 1 : Nat) : Int) by omega, wrapn (by omega)]
      exact ih (i + 1) f (by omega) (by omega) (by omega) (by omega)
theorem opsG_great (l : List OpG) (hl : l.length ≤ 140737488355328) : ∃ b, L_subwaylaw11_great l = some b ∧ (b = false → l.length ≤ 200) :=
  opsG_loop l hl _ 0 fuel rfl (by omega) (by omega) (by unfold fuel; omega)
/-! what one has, behind a call -/
theorem pl_name {l : List TenantL} {nm : Str} {k : Nat} (h : pl l nm = some k) : (tn l k).1 = nm := by
  obtain ⟨hk, hx, _⟩ := List.findIdx?_eq_some_iff_getElem.1 h
  have : tn l k = l[k] := by simp [tn, List.getD, hk]
  rw [this]
  simpa using hx
theorem getD_set' (N : List Int) (k j : Nat) (x : Int) (hk : k < N.length) : (N.set k x).getD j 0 = if k = j then x else N.getD j 0 := by
  by_cases h : k = j
  · subst h; simp [List.getD, hk]
  · simp [List.getD, List.getElem?_set, h]
def mostF (l : List TenantL) (nm : Str) (what : Int) : Int := match pl l nm with
  | none => 0
  | some k => if what = 1 then (tn l k).2.1 else if what = 2 then (tn l k).2.2.1 else 0
section
variable {l : List TenantL} {N V : List Int} (nm nm2 : Str) (what of2 : Int)
theorem used_bounds (hI : GInv l N V) : 0 ≤ usedF l N V nm what ∧ usedF l N V nm what ≤ mostF l nm what ∧ mostF l nm what ≤ 8 := by
  unfold usedF mostF
  cases hp : pl l nm with
  | none => simp
  | some k =>
    have hk := pl_lt hp
    have b1 := hI.inN' k hk
    have b2 := hI.inV k hk
    have b3 := hI.m8 k hk
    simp only []
    by_cases h1 : what = 1
    · rw [if_pos h1, if_pos h1]; omega
    · rw [if_neg h1, if_neg h1]
      by_cases h2 : what = 2
      · rw [if_pos h2, if_pos h2]; omega
      · rw [if_neg h2, if_neg h2]; omega
theorem give_used (hI : GInv l N V) : usedF l (giveF l N V nm2 of2).2.1 (giveF l N V nm2 of2).2.2 nm what = if (giveF l N V nm2 of2).1 = true ∧ nm2 = nm ∧ of2 = what then usedF l N V nm what - 1 else usedF l N V nm what := by
  unfold usedF giveF
  cases hp2 : pl l nm2 with
  | none => simp
  | some k2 =>
    have hk2 := pl_lt hp2
    have hN2 : k2 < N.length := by rw [hI.lN]; exact hk2
    have hV2 : k2 < V.length := by rw [hI.lV]; exact hk2
    cases hp : pl l nm with
    | none =>
      have hne : nm2 ≠ nm := fun e => by subst e; rw [hp] at hp2; cases hp2
      rw [if_neg (fun h => hne h.2.1)]
    | some k =>
      have hkk : k2 = k ↔ nm2 = nm := ⟨fun e => by subst e; rw [← pl_name hp2, ← pl_name hp], fun e => by subst e; rw [hp] at hp2; injection hp2 with h; exact h.symm⟩
      simp only []
      by_cases h1 : of2 = 1
      · subst h1
        rw [if_pos rfl]
        by_cases h0 : N.getD k2 0 = 0
        · rw [if_pos h0]; simp
        · rw [if_neg h0]
          simp only [getD_set' N k2 k _ hN2, hkk, true_and]
          by_cases e : nm2 = nm
          · have := hkk.2 e
            subst this
            by_cases w : what = 1
            · subst w; simp [e]
            · simp [e, w]
              exact fun h => absurd h.symm w
          · simp [e]
      · rw [if_neg h1]
        by_cases h2 : of2 = 2
        · subst h2
          rw [if_pos rfl]
          by_cases h0 : V.getD k2 0 = 0
          · rw [if_pos h0]; simp
          · rw [if_neg h0]
            simp only [getD_set' V k2 k _ hV2, hkk, true_and]
            by_cases e : nm2 = nm
            · have := hkk.2 e
              subst this
              by_cases w : what = 2
              · subst w; simp [e]
              · simp [e, w]
                exact fun h => absurd h.symm w
            · simp [e]
        · rw [if_neg h2]; simp
theorem take_used (hI : GInv l N V) : usedF l (takeF l N V nm2 of2).2.1 (takeF l N V nm2 of2).2.2 nm what = if (takeF l N V nm2 of2).1 = 0 ∧ nm2 = nm ∧ of2 = what then usedF l N V nm what + 1 else usedF l N V nm what := by
  unfold usedF takeF
  cases hp2 : pl l nm2 with
  | none =>
    by_cases h1 : of2 = 1
    · simp [h1]
    · by_cases h2 : of2 = 2
      · simp [h2]
      · simp [h1, h2]
  | some k2 =>
    have hk2 := pl_lt hp2
    have hN2 : k2 < N.length := by rw [hI.lN]; exact hk2
    have hV2 : k2 < V.length := by rw [hI.lV]; exact hk2
    cases hp : pl l nm with
    | none =>
      have hne : nm2 ≠ nm := fun e => by subst e; rw [hp] at hp2; cases hp2
      simp [hne]
    | some k =>
      have hkk : k2 = k ↔ nm2 = nm := ⟨fun e => by subst e; rw [← pl_name hp2, ← pl_name hp], fun e => by subst e; rw [hp] at hp2; injection hp2 with h; exact h.symm⟩
      simp only []
      by_cases h1 : of2 = 1
      · subst h1
        rw [if_pos rfl]
        by_cases h0 : N.getD k2 0 = (tn l k2).2.1
        · rw [if_pos h0]; simp
        · rw [if_neg h0]
          simp only [getD_set' N k2 k _ hN2, hkk, true_and]
          by_cases e : nm2 = nm
          · have := hkk.2 e
            subst this
            by_cases w : what = 1
            · subst w; simp [e]
            · simp [e, w]
              exact fun h => absurd h.symm w
          · simp [e]
      · rw [if_neg h1]
        by_cases h2 : of2 = 2
        · subst h2
          rw [if_pos rfl]
          by_cases h0 : V.getD k2 0 = (tn l k2).2.2.1
          · rw [if_pos h0]; simp
          · rw [if_neg h0]
            simp only [getD_set' V k2 k _ hV2, hkk, true_and]
            by_cases e : nm2 = nm
            · have := hkk.2 e
              subst this
              by_cases w : what = 2
              · subst w; simp [e]
              · simp [e, w]
                exact fun h => absurd h.symm w
            · simp [e]
        · rw [if_neg h2]; simp
theorem give_ans : (giveF l N V nm what).1 = !(usedF l N V nm what == 0) := by
  unfold giveF usedF
  cases pl l nm with
  | none => rfl
  | some k =>
    simp only []
    by_cases h1 : what = 1
    · rw [if_pos h1, if_pos h1]
      by_cases h : N.getD k 0 = 0
      · rw [if_pos h, h]; rfl
      · rw [if_neg h, beq_eq_false_iff_ne.2 h]; rfl
    · rw [if_neg h1, if_neg h1]
      by_cases h2 : what = 2
      · rw [if_pos h2, if_pos h2]
        by_cases h : V.getD k 0 = 0
        · rw [if_pos h, h]; rfl
        · rw [if_neg h, beq_eq_false_iff_ne.2 h]; rfl
      · rw [if_neg h2, if_neg h2]; rfl
theorem take_ans : (takeF l N V nm what).1 = if what = 1 ∨ what = 2 then (match pl l nm with | none => 3 | some _ => if usedF l N V nm what = mostF l nm what then 112 else 0) else 1 := by
  unfold takeF usedF mostF
  by_cases h1 : what = 1
  · rw [if_pos h1, if_pos (.inl h1)]
    cases pl l nm with
    | none => rfl
    | some k =>
      simp only [if_pos h1]
      split <;> rfl
  · rw [if_neg h1]
    by_cases h2 : what = 2
    · rw [if_pos h2, if_pos (.inr h2)]
      cases pl l nm with
      | none => rfl
      | some k =>
        simp only [if_neg h1, if_pos h2]
        split <;> rfl
    · rw [if_neg h2, if_neg (by simp [h1, h2])]
end
end Go.Proofs.YtfffjaijflbeaaaDoor
