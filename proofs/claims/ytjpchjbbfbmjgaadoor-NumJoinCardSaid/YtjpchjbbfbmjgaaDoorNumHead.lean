/- The live question of layer 1 is answered yes; what num's functions compute. -/
import Derived.Test.YtjpchjbbfbmjgaaDoorSpecD
namespace Go.Proofs.YtjpchjbbfbmjgaaDoor
set_option linter.unusedSimpArgs false
set_option linter.unusedVariables false
theorem numHead_true : L_subwaylaw01_head = some true := by
  unfold L_subwaylaw01_head
  simp only [lDecimal, lParse _ (show List.length ([51, 48, 48] : List UInt8) ≤ 2147483648 by decide), lParse _ (show List.length ([48, 51, 48] : List UInt8) ≤ 2147483648 by decide)]
  decide +kernel
theorem tText {s : List UInt8} (hs : s.length ≤ maxLen) : L_num_Text s = some (textL s) := by
  unfold L_num_Text
  rw [Nat.ble_eq_true_of_le hs]
  rfl
end Go.Proofs.YtjpchjbbfbmjgaaDoor
