/- num.Decimal and the document's: in the words of Dec (SpecD's first part, for seats without num.Parse). -/
import Derived.Test.YtjllaeceghmjgaaDoorLNum
import Derived.Test.YtjllaeceghmjgaaDoorLR1d
import Derived.Test.YtjllaeceghmjgaaDoorPlain
import Derived.Test.YtjllaeceghmjgaaDoorNumOrd
namespace Go.Proofs.YtjllaeceghmjgaaDoor
set_option linter.unusedSimpArgs false
set_option linter.unusedVariables false
open Go.Lib (decDigits)
theorem lDecimal (n : Int) : L_num_Decimal n = some (decL n) := by
  unfold L_num_Decimal decL
  by_cases h : 0 ≤ n ∧ n ≤ 1099511627776
  · rw [if_pos h, show decide (n < 0) = false by simp; omega, show decide (n > 1099511627776) = false by simp; omega]
    obtain ⟨m, rfl⟩ := Int.eq_ofNat_of_zero_le h.1
    simp only [cond_false, L_num_Decimal_k1, L_strconv_FormatInt]
    rw [show (((10 : Int) == 10) && (decide (-9223372036854775808 ≤ (m : Int)) && decide ((m : Int) ≤ 9223372036854775807))) = true by simp; omega]
    simp only [cond_true, Option.bind_some, Go.Lib.itoa_nonneg]
    rfl
  · rw [if_neg h]
    by_cases h0 : n < 0
    · rw [show decide (n < 0) = true by simp; omega]
      rfl
    · rw [show decide (n < 0) = false by simp; omega, show decide (n > 1099511627776) = true by simp; omega]
      rfl
theorem rDigit (m : Nat) : toU8 (IntKind.wrap .u8 (IntKind.wrap .i64 (48 + Int.tmod (m : Int) 10))) = UInt8.ofNat (48 + m % 10) := by
  have := tmod_nat m 10
  rw [show ((10 : Nat) : Int) = 10 from rfl] at this
  rw [this, wrap64 (by omega), show (48 + ((m % 10 : Nat) : Int)) = ((48 + m % 10 : Nat) : Int) by omega, toU8_wrap]
theorem rDiv (m : Nat) (h : m ≤ 1099511627776) : IntKind.wrap .i64 (Int.tdiv (m : Int) 10) = ((m / 10 : Nat) : Int) := by
  have := tdiv_nat m 10
  rw [show ((10 : Nat) : Int) = 10 from rfl] at this
  rw [this]
  exact wrap64 (by omega)
theorem rDecimal_loop : ∀ (j : Nat) (v : Nat) (out : List UInt8) (f : Nat), v < 10 ^ j → v ≤ 1099511627776 → j < f → out.length + j ≤ 100 → L_subwayref01_Decimal_l2 f (v : Int) out = some (decTail v ++ out) := by
  intro j
  induction j with
  | zero =>
    intro v out f hv _ hf _
    have : v = 0 := by simpa using hv
    subst this
    obtain ⟨f, rfl⟩ : ∃ g, f = g + 1 := ⟨f - 1, by omega⟩
    rfl
  | succ j ih =>
    intro v out f hv hm hf ho
    obtain ⟨f, rfl⟩ : ∃ g, f = g + 1 := ⟨f - 1, by omega⟩
    show L_subwayref01_Decimal_b2 (L_subwayref01_Decimal_l2 f) (v : Int) out = _
    unfold L_subwayref01_Decimal_b2
    by_cases h0 : v = 0
    · subst h0
      rfl
    · rw [show decide ((v : Int) > 0) = true by simp; omega, rDigit, rDiv v hm, app_ok (by simp only [List.length_cons, List.length_nil]; omega)]
      simp only [cond_true, Option.bind_some]
      rw [ih (v / 10) _ f (by rw [Nat.pow_succ] at hv; omega) (by omega) (by omega) (by simp only [List.length_append, List.length_cons, List.length_nil]; omega)]
      unfold decTail
      rw [if_neg h0]
      by_cases hs : v < 10
      · rw [if_pos (by omega), dec_small hs, Nat.mod_eq_of_lt hs]
        rfl
      · rw [if_neg (by omega), dec_big hs]
        simp
theorem rDecimal (n : Int) : L_subwayref01_Decimal n = some (decL n) := by
  unfold L_subwayref01_Decimal decL
  by_cases h : 0 ≤ n ∧ n ≤ 1099511627776
  · rw [if_pos h, show decide (n < 0) = false by simp; omega, show decide (n > 1099511627776) = false by simp; omega]
    obtain ⟨m, rfl⟩ := Int.eq_ofNat_of_zero_le h.1
    have hm : m ≤ 1099511627776 := by omega
    simp only [cond_false, L_subwayref01_Decimal_k1, rDigit, rDiv m hm]
    rw [rDecimal_loop 13 (m / 10) _ fuel (by have h6 : (10 : Nat) ^ 13 = 10000000000000 := by decide
                                             omega) (by omega) (by rw [fuel_eq]; omega) (by simp)]
    show some (decTail (m / 10) ++ [UInt8.ofNat (48 + m % 10)]) = some (decDigits m)
    unfold decTail
    by_cases hs : m < 10
    · rw [if_pos (by omega), dec_small hs, Nat.mod_eq_of_lt hs]
      rfl
    · rw [if_neg (by omega), dec_big hs]
  · rw [if_neg h]
    by_cases h0 : n < 0
    · rw [show decide (n < 0) = true by simp; omega]
      rfl
    · rw [show decide (n < 0) = false by simp; omega, show decide (n > 1099511627776) = true by simp; omega]
      rfl
end Go.Proofs.YtjllaeceghmjgaaDoor
