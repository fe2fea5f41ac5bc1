/- The plain law of WireTells: what the lifted law computes is true. -/
import Derived.Test.YtjpchjbbfbmjgaaLWireTells
import Derived.Test.YtjpchjbbfbmjgaaSpecR5
import Derived.Test.YtjpchjbbfbmjgaaWireLaw
namespace Go.Proofs.Ytjpchjbbfbmjgaa
set_option linter.unusedSimpArgs false
set_option linter.unusedVariables false
theorem wireHead_tells : L_subwaylaw05_head = some true := by decide +kernel
theorem tRight {k n m : Int} {a b : List UInt8} (ha : a.length ≤ maxLen) (hb : b.length ≤ maxLen) : L_wire_Right k a b n m = some (rightB k ⟨a.toArray⟩ ⟨b.toArray⟩ n m) := by
  unfold L_wire_Right smallB
  rw [Nat.ble_eq_true_of_le ha, Nat.ble_eq_true_of_le hb]
  rfl
theorem tPut {k n m : Int} {a b : List UInt8} (ha : a.length ≤ maxLen) (hb : b.length ≤ maxLen) : L_wire_Put k a b n m = some (wputL k ⟨a.toArray⟩ ⟨b.toArray⟩ n m) := by
  unfold L_wire_Put smallB
  rw [Nat.ble_eq_true_of_le ha, Nat.ble_eq_true_of_le hb]
  rfl
theorem tGet (l : List UInt8) : L_wire_Get l = some (msgD' (wgetL l)) := by
  unfold L_wire_Get
  cases wgetL l <;> rfl
theorem wireTells_true (k : Int) (a b : List UInt8) (n m : Int) (l : List UInt8) (ha : a.length ≤ maxLen) (hb : b.length ≤ maxLen) (hl : l.length ≤ maxLen) : L_subwaylaw05_WireTells k a b n m l = some true := by
  have main : L_subwaylaw05_WireTells_k1 k a b n m l true false = some true := by
    unfold L_subwaylaw05_WireTells_k1
    simp only [cond_false, cond_true, tRight ha hb, tPut ha hb, tGet, rRight_eq, rPutM_eq, rGetM_eq l hl, Option.bind_some, beq_self_eq_true, Bool.and_self]
    rfl
  unfold L_subwaylaw05_WireTells L_subwaylaw05_Great
  simp only [wireHead_tells, Option.bind_some]
  cases decide (IntKind.wrap .i64 (((List.length a : Nat) : Int) + ((List.length b : Nat) : Int)) > 9000) with
  | true => rfl
  | false =>
    simp only [cond_false]
    cases decide (((List.length l : Nat) : Int) > 9000) with
    | true => rfl
    | false => exact main
end Go.Proofs.Ytjpchjbbfbmjgaa
