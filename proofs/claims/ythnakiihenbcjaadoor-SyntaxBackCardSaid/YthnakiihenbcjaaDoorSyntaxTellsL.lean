/- The plain laws of SyntaxTells and SyntaxBack. -/
import Derived.Test.YthnakiihenbcjaaDoorLSyntaxTells
import Derived.Test.YthnakiihenbcjaaDoorLSyntaxBack
import Derived.Test.YthnakiihenbcjaaDoorSynHead
namespace Go.Proofs.YthnakiihenbcjaaDoor
set_option linter.unusedSimpArgs false
set_option linter.unusedVariables false
theorem syntaxTells_true (s : List UInt8) (a A B : Int) (ha : 0 ≤ a ∧ a < 4294967296) (hA : 0 ≤ A ∧ A < 4294967296) : L_subwaylaw04_SyntaxTells s a A B = some true := by
  obtain ⟨a, rfl⟩ := Int.eq_ofNat_of_zero_le ha.1
  obtain ⟨A, rfl⟩ := Int.eq_ofNat_of_zero_le hA.1
  have ha : a < 4294967296 := by omega
  have hA : A < 4294967296 := by omega
  unfold L_subwaylaw04_SyntaxTells L_subwaylaw04_SyntaxTells_k1
  rw [synHead_true]
  simp only [Option.bind_some]
  by_cases hs : 9000 < s.length
  · rw [show decide (((List.length s : Nat) : Int) > 9000) = true by simp; omega]
    rfl
  · rw [show decide (((List.length s : Nat) : Int) > 9000) = false by simp; omega]
    have hs : s.length ≤ 9000 := by omega
    simp only [cond_false, cond_true, lAddr s hs, rAddr s hs, lNet s hs, rNet s hs, lName s hs, rName s hs, lDots a ha, rDots a ha, lSlash A hA, rSlash A hA, lIn A a hA ha, rIn A a hA ha, Option.bind_some, beq_self_eq_true, Bool.and_self]
theorem slash_ne {a : Nat} {b : Int} : (!(slashL a b == ([] : List UInt8))) = rightN a b := by
  unfold slashL
  cases rightN a b with
  | false => rfl
  | true => cases h : dotsL a <;> rfl
theorem back_k2 (s : List UInt8) (hs : s.length ≤ 9000) : L_subwaylaw04_SyntaxBack_k2 s true false = some true := by
  unfold L_subwaylaw04_SyntaxBack_k2 L_subwaylaw04_SyntaxBack_k3
  rw [lAddr s hs, lNet s hs]
  simp only [cond_false, Option.bind_some, cond_true]
  rcases Option.eq_none_or_eq_some (netL s) with hn | ⟨⟨A, n⟩, hn⟩
  · rw [hn]
    rcases Option.eq_none_or_eq_some (addrL s) with hx | ⟨a, hx⟩
    · rw [hx]; rfl
    · rw [hx]
      have hd := lDots a (addrL_lt hx)
      rw [dots_addr hx] at hd
      show ((L_syntax_Dots ((a : Nat) : Int)).bind fun z121 => cond (z121 == s) _ _) = _
      rw [hd]
      simp [netD, addrD]
  · obtain ⟨h1, h47, hlt⟩ := slash_net hn
    have hx : addrL s = none := by
      rcases Option.eq_none_or_eq_some (addrL s) with hx | ⟨a, hx⟩
      · exact hx
      · exact absurd (by rw [dots_addr hx]; exact h47) (no47_dots a)
    rw [hn, hx]
    have hsl := lSlash A hlt ((n : Nat) : Int)
    rw [h1] at hsl
    show ((L_syntax_Slash ((A : Nat) : Int) ((n : Nat) : Int)).bind fun z113 => cond (z113 == s) _ _) = _
    rw [hsl]
    simp [addrD]
theorem syntaxBack_true (a A B : Int) (s : List UInt8) (ha : 0 ≤ a ∧ a < 4294967296) (hA : 0 ≤ A ∧ A < 4294967296) : L_subwaylaw04_SyntaxBack a A B s = some true := by
  obtain ⟨a, rfl⟩ := Int.eq_ofNat_of_zero_le ha.1
  obtain ⟨A, rfl⟩ := Int.eq_ofNat_of_zero_le hA.1
  have ha : a < 4294967296 := by omega
  have hA : A < 4294967296 := by omega
  unfold L_subwaylaw04_SyntaxBack
  rw [synHead_true]
  simp only [Option.bind_some]
  by_cases hs : 9000 < s.length
  · rw [show decide (((List.length s : Nat) : Int) > 9000) = true by simp; omega]
    rfl
  · rw [show decide (((List.length s : Nat) : Int) > 9000) = false by simp; omega]
    have hs : s.length ≤ 9000 := by omega
    have hd := dotsL_len a
    rw [lDots a ha]
    simp only [cond_false, Option.bind_some]
    rw [lAddr (dotsL a) (by omega), addr_dots ha]
    have hsl : (slashL A B).length ≤ 9000 := by
      unfold slashL
      cases hr : rightN A B with
      | false => simp
      | true =>
        have h1 := dotsL_len A
        obtain ⟨b0, b1⟩ := bits_of_right hr
        have h2 := dec_len3 (n := B.toNat) (by omega)
        simp only [List.length_append, List.length_cons]
        omega
    have main : L_subwaylaw04_SyntaxBack_k1 (A : Int) B s true false = some true := by
      unfold L_subwaylaw04_SyntaxBack_k1
      rw [lSlash A hA B]
      simp only [cond_false, Option.bind_some]
      rw [lNet _ hsl, net_slash hA B, slash_ne]
      simp only [Option.bind_some]
      cases hr : rightN A B with
      | false => exact back_k2 s hs
      | true =>
        obtain ⟨b0, b1⟩ := bits_of_right hr
        have hb : ((B.toNat : Nat) : Int) = B := Int.toNat_of_nonneg b0
        show L_subwaylaw04_SyntaxBack_k2 s true (!((((A : Nat) : Int) == ((A : Nat) : Int)) && (((B.toNat : Nat) : Int) == B))) = _
        rw [hb, beq_self_eq_true, beq_self_eq_true]
        exact back_k2 s hs
    show L_subwaylaw04_SyntaxBack_k1 (A : Int) B s true ((a : Int) != (a : Int)) = _
    rw [show ((a : Int) != (a : Int)) = false by simp]
    exact main
end Go.Proofs.YthnakiihenbcjaaDoor
