/- GateFill in plain lists. -/
import Derived.Test.YtfffjaijflbeaaaDoorGateCountsL
import Derived.Test.YtfffjaijflbeaaaDoorLGateFill
namespace Go.Proofs.YtfffjaijflbeaaaDoor
set_option linter.unusedSimpArgs false
set_option linter.unusedVariables false
theorem fill_back (r36 : List (List Int) → Int → Int → Option Bool) (l : List TenantL) (nm : Str) (of : Int) (m : Int) (hm : m = mostF l nm of) :
    ∀ (d i f : Nat) (N V : List Int), d = 20 - i → i ≤ 20 → d < f → GInv l N V → usedF l N V nm of = m - min (i : Int) m → L_subwaylaw11_GateFill_l43 r36 l nm of true m m f (mkU N V) (min (i : Int) m) (i : Int) = some true := by
  intro d
  induction d with
  | zero =>
    intro i f N V hd hi hf hI hu
    obtain ⟨f, rfl⟩ : ∃ g, f = g + 1 := ⟨f - 1, by omega⟩
    have hb := used_bounds nm of hI
    show L_subwaylaw11_GateFill_b43 r36 (L_subwaylaw11_GateFill_l43 r36 l nm of true m m f) l nm of true m m (mkU N V) (min (i : Int) m) (i : Int) = _
    unfold L_subwaylaw11_GateFill_b43 L_subwaylaw11_GateFill_k47
    rw [show decide ((i : Int) < 20) = false from decide_eq_false (by omega), cond_false, cond_true, beq_self_eq_true, cond_true, show min (i : Int) m = m by omega, beq_self_eq_true, cond_true, pUsed _ _ hI, Option.bind_some, hu, show m - min (i : Int) m = 0 by omega]
    rfl
  | succ d ih =>
    intro i f N V hd hi hf hI hu
    obtain ⟨f, rfl⟩ : ∃ g, f = g + 1 := ⟨f - 1, by omega⟩
    have hb := used_bounds nm of hI
    have hg := give_used (l := l) (N := N) (V := V) nm nm of of hI
    have ha := give_ans (l := l) (N := N) (V := V) nm of
    have i1 := give_inv nm of hI
    show L_subwaylaw11_GateFill_b43 r36 (L_subwaylaw11_GateFill_l43 r36 l nm of true m m f) l nm of true m m (mkU N V) (min (i : Int) m) (i : Int) = _
    unfold L_subwaylaw11_GateFill_b43 L_subwaylaw11_GateFill_k46
    rw [show decide ((i : Int) < 20) = true from decide_eq_true (by omega), cond_true, pGive _ _ hI, Option.bind_some, show ((i : Int) + 1) = ((i + 1 : Nat) : Int) by omega, wrapn (by omega), wrap64 (by omega)]
    generalize giveF l N V nm of = r at *
    by_cases h0 : usedF l N V nm of = 0
    · rw [beq_iff_eq.2 h0] at ha
      rw [if_neg (by rw [ha]; simp)] at hg
      simp only [ha, Bool.not_true, cond_false]
      have := ih (i + 1) f r.2.1 r.2.2 (by omega) (by omega) (by omega) i1 (by rw [hg, hu]; omega)
      rw [show min ((i + 1 : Nat) : Int) m = min (i : Int) m by omega] at this
      exact this
    · rw [beq_eq_false_iff_ne.2 h0] at ha
      rw [if_pos ⟨ha, rfl, rfl⟩] at hg
      simp only [ha, Bool.not_false, cond_true]
      have := ih (i + 1) f r.2.1 r.2.2 (by omega) (by omega) (by omega) i1 (by rw [hg, hu]; omega)
      rw [show min ((i + 1 : Nat) : Int) m = min (i : Int) m + 1 by omega] at this
      exact this
theorem fill_loop (l : List TenantL) (nm : Str) (of : Int) (hof : of = 1 ∨ of = 2) (m : Int) (hm : m = mostF l nm of) (z : Str × Int × Int × List NetL × List TokL × Bool) (hz : z.2.2.2.2.2 = (pl l nm).isSome) :
    ∀ (d i f : Nat) (N V : List Int), d = 20 - i → i ≤ 20 → d < f → GInv l N V → usedF l N V nm of = min (i : Int) m → L_subwaylaw11_GateFill_l25 l nm of true z m f (mkU N V) (min (i : Int) m) (i : Int) = some true := by
  intro d
  induction d with
  | zero =>
    intro i f N V hd hi hf hI hu
    obtain ⟨f, rfl⟩ : ∃ g, f = g + 1 := ⟨f - 1, by omega⟩
    have hb := used_bounds nm of hI
    show L_subwaylaw11_GateFill_b25 (L_subwaylaw11_GateFill_l25 l nm of true z m f) l nm of true z m (mkU N V) (min (i : Int) m) (i : Int) = _
    unfold L_subwaylaw11_GateFill_b25
    rw [show decide ((i : Int) < 20) = false from decide_eq_false (by omega), cond_false]
    have := fill_back (L_subwaylaw11_GateFill_l25 l nm of true z m f) l nm of m hm 20 0 fuel N V rfl (by omega) (by unfold fuel; omega) hI (by rw [hu]; omega)
    rw [show min ((0 : Nat) : Int) m = 0 by omega, show ((0 : Nat) : Int) = 0 from rfl] at this
    rw [show min (i : Int) m = m by omega]
    exact this
  | succ d ih =>
    intro i f N V hd hi hf hI hu
    obtain ⟨f, rfl⟩ : ∃ g, f = g + 1 := ⟨f - 1, by omega⟩
    have hb := used_bounds nm of hI
    have hg := take_used (l := l) (N := N) (V := V) nm nm of of hI
    have ha := take_ans (l := l) (N := N) (V := V) nm of
    have i1 := take_inv nm of hI
    show L_subwaylaw11_GateFill_b25 (L_subwaylaw11_GateFill_l25 l nm of true z m f) l nm of true z m (mkU N V) (min (i : Int) m) (i : Int) = _
    generalize hR : L_subwaylaw11_GateFill_l25 l nm of true z m f = R at *
    have next : ∀ N' V', GInv l N' V' → usedF l N' V' nm of = min ((i + 1 : Nat) : Int) m → R (mkU N' V') (min ((i + 1 : Nat) : Int) m) ((i + 1 : Nat) : Int) = some true := fun N' V' h1 h2 => by
      rw [← hR]
      exact ih (i + 1) f N' V' (by omega) (by omega) (by omega) h1 h2
    unfold L_subwaylaw11_GateFill_b25 L_subwaylaw11_GateFill_k37 L_subwaylaw11_GateFill_k38
    rw [show decide ((i : Int) < 20) = true from decide_eq_true (by omega), cond_true, pTake _ _ hI, Option.bind_some, show ((i : Int) + 1) = ((i + 1 : Nat) : Int) by omega, wrapn (by omega), wrap64 (by omega), hz]
    rw [if_pos hof] at ha
    generalize takeF l N V nm of = r at *
    cases hp : pl l nm with
    | none =>
      have hm0 : m = 0 := by rw [hm]; unfold mostF; rw [hp]
      rw [hp] at ha
      simp only [] at ha
      rw [if_neg (by simp [ha])] at hg
      simp only [ha, Option.isSome_none, Bool.not_false, cond_true, show ((3 : Int) == 0) = false from rfl, cond_false, show ((3 : Int) != 3) = false from rfl]
      have := next r.2.1 r.2.2 i1 (by rw [hg, hu]; omega)
      rw [show min ((i + 1 : Nat) : Int) m = min (i : Int) m by omega] at this
      exact this
    | some k =>
      rw [hp] at ha
      simp only [← hm] at ha
      simp only [Option.isSome_some, Bool.not_true, cond_false, cond_true]
      by_cases hi2 : (i : Int) < m
      · rw [if_neg (by omega)] at ha
        rw [if_pos ⟨ha, rfl, rfl⟩] at hg
        simp only [ha, show ((0 : Int) == 0) = true from rfl, cond_true]
        rw [decide_eq_true (by omega : min (i : Int) m + 1 ≤ m), cond_true, decide_eq_true hi2, beq_self_eq_true, Bool.not_true, cond_false]
        have := next r.2.1 r.2.2 i1 (by rw [hg, hu]; omega)
        rw [show min ((i + 1 : Nat) : Int) m = min (i : Int) m + 1 by omega] at this
        exact this
      · rw [if_pos (by omega)] at ha
        rw [if_neg (by simp [ha])] at hg
        simp only [ha, show ((112 : Int) == 0) = false from rfl, cond_false]
        rw [decide_eq_true (by omega : min (i : Int) m ≤ m), cond_true, decide_eq_false hi2, beq_self_eq_true, Bool.not_true, cond_false]
        have := next r.2.1 r.2.2 i1 (by rw [hg, hu]; omega)
        rw [show min ((i + 1 : Nat) : Int) m = min (i : Int) m by omega] at this
        exact this
theorem find_is (l : List TenantL) (nm : Str) : (findL l nm).2.2.2.2.2 = (pl l nm).isSome := by
  unfold findL
  cases pl l nm <;> rfl
theorem gateFill_plain (w g i0 e : Int) (l : List TenantL) (nm : Str) (of : Int) (hl : l.length ≤ 140737488355328) (hq : ∀ t ∈ l, TenQ t) : L_subwaylaw11_GateFill w g i0 e l nm of = some true := by
  unfold L_subwaylaw11_GateFill
  obtain ⟨b, hb, hb'⟩ := cfg_great w g i0 e l hl hq
  rw [gateHead, Option.bind_some, pNew w g i0 e l hl hq, Option.bind_some]
  unfold newL
  cases hk : cfgOk w g i0 e l with
  | false => rfl
  | true =>
    rw [if_pos rfl]
    unfold optE
    simp only [Option.bind_some]
    rw [hb, Option.bind_some]
    unfold L_subwaylaw11_GateFill_k1
    cases b with
    | true => rw [cond_true, cond_true]
    | false =>
      obtain ⟨s1, s2⟩ := hb' rfl
      rw [cond_false]
      by_cases hn : ((nm.length : Nat) : Int) > 1000
      · rw [decide_eq_true hn, cond_true, cond_true]
      · rw [decide_eq_false hn, cond_false, rFind _ _ _ _ _ _ (by omega), Option.bind_some]
        unfold L_subwaylaw11_GateFill_k2
        have hmain : ∀ m, (of = 1 ∨ of = 2) → m = mostF l nm of → L_subwaylaw11_GateFill_l25 l nm of true (findL l nm) m fuel (mkU (zeros l) (zeros l)) 0 0 = some true := by
          intro m h12 hm
          have hbd := used_bounds nm of (inv_zeros hk)
          have hu0 := used_zeros hk nm of
          have := fill_loop l nm of h12 m hm (findL l nm) (find_is l nm) 20 0 fuel _ _ rfl (by omega) (by unfold fuel; omega) (inv_zeros hk) (by rw [hu0]; omega)
          rw [show min ((0 : Nat) : Int) m = 0 by omega, show ((0 : Nat) : Int) = 0 from rfl] at this
          exact this
        have hmf := most_find l nm of
        by_cases h1 : of = 1
        · rw [show (of != 1) = false by simp [h1], cond_false, cond_false, show (of == 2) = false by simp [h1], cond_false]
          refine hmain _ (.inl h1) ?_
          rw [if_neg (by omega), if_pos h1] at hmf
          exact hmf
        · rw [show (of != 1) = true by simp [h1], cond_true]
          by_cases h2 : of = 2
          · rw [show (of != 2) = false by simp [h2], cond_false, show (of == 2) = true by simp [h2], cond_true]
            refine hmain _ (.inr h2) ?_
            rw [if_pos h2] at hmf
            exact hmf
          · rw [show (of != 2) = true by simp [h2], cond_true]
end Go.Proofs.YtfffjaijflbeaaaDoor
