/- The plain law of NumTells: what the lifted law computes is true. -/
import Derived.Test.YtjpchjbbfbmjgaaDoorLNumTells
import Derived.Test.YtjpchjbbfbmjgaaDoorSpecD
namespace Go.Proofs.YtjpchjbbfbmjgaaDoor
set_option linter.unusedSimpArgs false
set_option linter.unusedVariables false
theorem numHead_tells : L_subwaylaw01_head = some true := by
  unfold L_subwaylaw01_head
  simp only [lDecimal, lParse _ (show List.length ([51, 48, 48] : List UInt8) ≤ 2147483648 by decide), lParse _ (show List.length ([48, 51, 48] : List UInt8) ≤ 2147483648 by decide)]
  decide +kernel
theorem tText {s : List UInt8} (hs : s.length ≤ maxLen) : L_num_Text s = some (textL s) := by
  unfold L_num_Text
  rw [Nat.ble_eq_true_of_le hs]
  rfl
theorem numTells_true (n : Int) (l s : List UInt8) (hl : l.length ≤ maxLen) (hs : s.length ≤ maxLen) : L_subwaylaw01_NumTells n l s = some true := by
  unfold L_subwaylaw01_NumTells
  rw [numHead_tells]
  simp only [Option.bind_some]
  have main : s.length ≤ 9000 → L_subwaylaw01_NumTells_k1 n l s true false = some true := by
    intro h9
    unfold L_subwaylaw01_NumTells_k1 L_num_Get L_num_Read L_num_Put
    simp only [cond_false, cond_true, rGet_eq l hl, rRead_eq l hl, lParse s (by omega), rParse s hs, rPut_eq, tText hs, rText_eq, lDecimal, rDecimal, Option.bind_some, beq_self_eq_true]
    rfl
  cases decide (((List.length l : Nat) : Int) > 9000) with
  | true => rfl
  | false =>
    simp only [cond_false]
    by_cases h : 9000 < s.length
    · rw [show decide (((List.length s : Nat) : Int) > 9000) = true by simp; omega]
      rfl
    · rw [show decide (((List.length s : Nat) : Int) > 9000) = false by simp; omega]
      exact main (by omega)
end Go.Proofs.YtjpchjbbfbmjgaaDoor
