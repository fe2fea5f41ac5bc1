/- Bits: small laws on the model's 'bits' and wraps. -/
import Derived.WalkKit
import Derived.IntWalk
import Derived.Laws.BitsAllLaws
import Derived.Laws.BitsLemmas
namespace Go.Proofs.YtjpchjbbfbmjgaaDoor
set_option linter.unusedSimpArgs false
set_option linter.unusedVariables false
open Go.RowKit Go.IntWalk
theorem ofInt_i64 (a : Nat) (ha : a < 9223372036854775808) : (BitVec.ofInt 64 (a : Int)).toNat = a := by
  rw [BitVec.ofInt_natCast, BitVec.toNat_ofNat]; exact Nat.mod_eq_of_lt (by omega)
theorem i64_and_nat (a b : Nat) (ha : a < 9223372036854775808) (hb : b < 9223372036854775808) : bits .and .i64 (a : Int) (b : Int) = ((a &&& b : Nat) : Int) := by
  have hx : a &&& b < 2 ^ 63 := Nat.and_lt_two_pow _ (by omega)
  show IntKind.i64.wrap ((BitVec.ofInt 64 (a : Int) &&& BitVec.ofInt 64 (b : Int)).toNat : Int) = _
  rw [BitVec.toNat_and, ofInt_i64 a ha, ofInt_i64 b hb, IntKind.wrap_i64]
  omega
theorem i64_or_nat (a b : Nat) (ha : a < 9223372036854775808) (hb : b < 9223372036854775808) : bits .or .i64 (a : Int) (b : Int) = ((a ||| b : Nat) : Int) := by
  have hx : a ||| b < 2 ^ 63 := Nat.or_lt_two_pow (by omega) (by omega)
  show IntKind.i64.wrap ((BitVec.ofInt 64 (a : Int) ||| BitVec.ofInt 64 (b : Int)).toNat : Int) = _
  rw [BitVec.toNat_or, ofInt_i64 a ha, ofInt_i64 b hb, IntKind.wrap_i64]
  omega
theorem or_low7 (V d : Nat) (hd : d < 128) : (V * 128) ||| d = 128 * V + d := by
  have h := Nat.shiftLeft_add_eq_or_of_lt (i := 7) (b := d) (by omega) V
  rw [Nat.shiftLeft_eq] at h
  rw [show V * 128 = V * 2 ^ 7 from rfl, ← h]
  omega
theorem and_low7 (d : Nat) : d &&& 127 = d % 128 := Nat.and_two_pow_sub_one_eq_mod d 7
theorem u8_and127 (y : Nat) (hy : y < 256) : bits .and .u8 (y : Int) 127 = ((y % 128 : Nat) : Int) := by
  rw [show (127 : Int) = ((127 : Nat) : Int) from rfl, u8_and_nat _ _ hy (by omega), and_low7]
/-- a digit of base 128 joined behind a number -/
theorem join7 (V y : Nat) (hV : V < 2 ^ 50) (hy : y < 256) :
    bits .or .i64 (wrap64 ((V : Int) * 128)) (wrap64 (bits .and .u8 (y : Int) 127)) = ((128 * V + y % 128 : Nat) : Int) := by
  rw [u8_and127 y hy, wrap64_in _ (by omega), wrap64_in _ (by omega)]
  rw [show (V : Int) * 128 = ((V * 128 : Nat) : Int) by omega, i64_or_nat _ _ (by omega) (by omega), or_low7 _ _ (by omega)]
end Go.Proofs.YtjpchjbbfbmjgaaDoor
