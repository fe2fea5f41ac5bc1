/- num.Decimal in the words of Dec (SpecDec's first part). -/
import Derived.Test.YtfffjaijflbeaaaDoorLNum
import Derived.Test.YtfffjaijflbeaaaDoorPlain
import Derived.Test.YtfffjaijflbeaaaDoorNumOrd
namespace Go.Proofs.YtfffjaijflbeaaaDoor
set_option linter.unusedSimpArgs false
set_option linter.unusedVariables false
open Go.Lib (decDigits)
theorem lDecimal (n : Int) : L_num_Decimal n = some (decL n) := by
  unfold L_num_Decimal decL
  by_cases h : 0 ≤ n ∧ n ≤ 1099511627776
  · rw [if_pos h, show decide (n < 0) = false by simp; omega, show decide (n > 1099511627776) = false by simp; omega]
    obtain ⟨m, rfl⟩ := Int.eq_ofNat_of_zero_le h.1
    simp only [cond_false, L_num_Decimal_k1, L_strconv_FormatInt]
    rw [show (((10 : Int) == 10) && (decide (-9223372036854775808 ≤ (m : Int)) && decide ((m : Int) ≤ 9223372036854775807))) = true by simp; omega]
    simp only [cond_true, Option.bind_some, Go.Lib.itoa_nonneg]
    rfl
  · rw [if_neg h]
    by_cases h0 : n < 0
    · rw [show decide (n < 0) = true by simp; omega]
      rfl
    · rw [show decide (n < 0) = false by simp; omega, show decide (n > 1099511627776) = true by simp; omega]
      rfl
end Go.Proofs.YtfffjaijflbeaaaDoor
