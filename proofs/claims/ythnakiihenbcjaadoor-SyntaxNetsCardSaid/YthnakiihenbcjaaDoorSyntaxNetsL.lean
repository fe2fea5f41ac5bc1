/- The plain law of SyntaxNets. -/
import Derived.Test.YthnakiihenbcjaaDoorLSyntaxNets
import Derived.Test.YthnakiihenbcjaaDoorSynHead
namespace Go.Proofs.YthnakiihenbcjaaDoor
set_option linter.unusedSimpArgs false
set_option linter.unusedVariables false
theorem nets_k1 (a b u v i k : Nat) (ha : a < 4294967296) (hb : b < 4294967296) (hu : u < 4294967296) (hv : v < 4294967296) (hik : i ≤ k) (hk : k ≤ 32) :
    L_subwaylaw04_SyntaxNets_k1 (a : Int) (b : Int) true ((cutN u (i : Int) : Nat) : Int) (i : Int) ((cutN v (k : Int) : Nat) : Int) (k : Int) = some true := by
  have hX : cutN u (i : Int) < 4294967296 := Nat.lt_of_le_of_lt (cut_le u i) hu
  have hY : cutN v (k : Int) < 4294967296 := Nat.lt_of_le_of_lt (cut_le v k) hv
  have f : ∀ c, cutN c (k : Int) = cutN v (k : Int) → cutN c (i : Int) = cutN v (i : Int) := fun c h => by rw [← cut_cut c i k hik hk, h, cut_cut v i k hik hk]
  unfold L_subwaylaw04_SyntaxNets_k1 L_subwaylaw04_SyntaxNets_k2
  simp only [lIn _ _ hX hY, lIn _ _ hX hX, lIn _ _ hY hY, lIn _ _ hX ha, lIn _ _ hX hb, lIn _ _ hY ha, lIn _ _ hY hb, in_cut u i _ (by omega), in_cut v k _ hk, cut_cut v i k hik hk, cut_cut u i i (Nat.le_refl _) (by omega), cut_cut v k k (Nat.le_refl _) hk, Option.bind_some, decide_true, cond_true]
  have q1 := f a
  have q2 := f b
  by_cases p : cutN v (i : Int) = cutN u (i : Int)
  · rw [decide_eq_true p]
    by_cases r1 : cutN a (k : Int) = cutN v (k : Int)
    · rw [decide_eq_true r1, decide_eq_true ((q1 r1).trans p)]
      by_cases r2 : cutN b (k : Int) = cutN v (k : Int)
      · rw [decide_eq_true r2, decide_eq_true ((q2 r2).trans p)]; rfl
      · rw [decide_eq_false r2]; cases decide (cutN b (i : Int) = cutN u (i : Int)) <;> rfl
    · rw [decide_eq_false r1]
      by_cases r2 : cutN b (k : Int) = cutN v (k : Int)
      · rw [decide_eq_true r2, decide_eq_true ((q2 r2).trans p)]; cases decide (cutN a (i : Int) = cutN u (i : Int)) <;> rfl
      · rw [decide_eq_false r2]; cases decide (cutN a (i : Int) = cutN u (i : Int)) <;> cases decide (cutN b (i : Int) = cutN u (i : Int)) <;> rfl
  · rw [decide_eq_false p]
    have n1 : ¬ (cutN a (i : Int) = cutN u (i : Int) ∧ cutN a (k : Int) = cutN v (k : Int)) := fun h => p ((q1 h.2).symm.trans h.1)
    have n2 : ¬ (cutN b (i : Int) = cutN u (i : Int) ∧ cutN b (k : Int) = cutN v (k : Int)) := fun h => p ((q2 h.2).symm.trans h.1)
    by_cases s1 : cutN a (i : Int) = cutN u (i : Int)
    · rw [decide_eq_true s1, decide_eq_false fun h => n1 ⟨s1, h⟩]
      by_cases s2 : cutN b (i : Int) = cutN u (i : Int)
      · rw [decide_eq_true s2, decide_eq_false fun h => n2 ⟨s2, h⟩]; rfl
      · rw [decide_eq_false s2]; cases decide (cutN b (k : Int) = cutN v (k : Int)) <;> rfl
    · rw [decide_eq_false s1]
      by_cases s2 : cutN b (i : Int) = cutN u (i : Int)
      · rw [decide_eq_true s2, decide_eq_false fun h => n2 ⟨s2, h⟩]; cases decide (cutN a (k : Int) = cutN v (k : Int)) <;> rfl
      · rw [decide_eq_false s2]; cases decide (cutN a (k : Int) = cutN v (k : Int)) <;> cases decide (cutN b (k : Int) = cutN v (k : Int)) <;> rfl
theorem syntaxNets_true (a b : Int) (i k : UInt8) (ha : 0 ≤ a ∧ a < 4294967296) (hb : 0 ≤ b ∧ b < 4294967296) : L_subwaylaw04_SyntaxNets a b i k = some true := by
  obtain ⟨a, rfl⟩ := Int.eq_ofNat_of_zero_le ha.1
  obtain ⟨b, rfl⟩ := Int.eq_ofNat_of_zero_le hb.1
  have ha : a < 4294967296 := by omega
  have hb : b < 4294967296 := by omega
  unfold L_subwaylaw04_SyntaxNets
  rw [synHead_true, mod33, mod33]
  have hi : i.toNat % 33 ≤ 32 := by omega
  have hk : k.toNat % 33 ≤ 32 := by omega
  generalize i.toNat % 33 = i at hi ⊢
  generalize k.toNat % 33 = k at hk ⊢
  rw [lNetOf a i ha hi, lNetOf b k hb hk]
  simp only [Option.bind_some]
  by_cases h : k < i
  · show cond (decide ((i : Int) > (k : Int))) _ _ = _
    rw [show decide ((i : Int) > (k : Int)) = true by simp; omega]
    exact nets_k1 a b b a k i ha hb hb ha (by omega) hi
  · show cond (decide ((i : Int) > (k : Int))) _ _ = _
    rw [show decide ((i : Int) > (k : Int)) = false by simp; omega]
    exact nets_k1 a b a b i k ha hb ha hb (by omega) hk
end Go.Proofs.YthnakiihenbcjaaDoor
