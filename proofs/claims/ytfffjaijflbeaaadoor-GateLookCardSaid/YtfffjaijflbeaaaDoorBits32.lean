/- Words of 32 bits: shifts, masks, turned bits, as numbers. -/
import Derived.Test.YtfffjaijflbeaaaDoorPlain
namespace Go.Proofs.YtfffjaijflbeaaaDoor
set_option linter.unusedSimpArgs false
set_option linter.unusedVariables false
theorem wrap32u (x : Int) : IntKind.wrap .u32 x = x % 4294967296 := by
  unfold IntKind.wrap
  simp only [IntKind.bits, IntKind.signed]
  simp
theorem bShr32 (a k : Nat) (hk : k ≤ 32) : bShr .u32 (a : Int) (k : Int) = ((a / 2 ^ k : Nat) : Int) := by
  unfold bShr
  have : min ((k : Int).toNat) (IntKind.bits .u32) = k := by simp only [Int.toNat_natCast, IntKind.bits]; omega
  rw [this, Int.fdiv_eq_ediv_of_nonneg _ (by exact_mod_cast Nat.zero_le (2 ^ k))]
  push_cast
  rfl
theorem bShl32 (a k : Nat) (hk : k ≤ 32) : bShl .u32 (a : Int) (k : Int) = ((a * 2 ^ k % 4294967296 : Nat) : Int) := by
  unfold bShl
  have : min ((k : Int).toNat) (IntKind.bits .u32) = k := by simp only [Int.toNat_natCast, IntKind.bits]; omega
  have e : ((a : Int) * 2 ^ k) = ((a * 2 ^ k : Nat) : Int) := by push_cast; rfl
  rw [this, wrap32u, e]
  generalize a * 2 ^ k = q
  omega
theorem ofInt32 (a : Nat) (h : a < 4294967296) : (BitVec.ofInt (IntKind.bits .u32) (a : Int)).toNat = a := by
  show (BitVec.ofInt 32 (a : Int)).toNat = a
  rw [BitVec.ofInt_natCast, BitVec.toNat_ofNat]
  exact Nat.mod_eq_of_lt (by omega)
theorem bAnd32 (a b : Nat) (ha : a < 4294967296) (hb : b < 4294967296) : bAnd .u32 (a : Int) (b : Int) = ((a &&& b : Nat) : Int) := by
  unfold bAnd
  rw [BitVec.toNat_and, ofInt32 a ha, ofInt32 b hb, wrap32u]
  have : a &&& b < 2 ^ 32 := Nat.and_lt_two_pow _ (by omega)
  omega
theorem bOr32 (a b : Nat) (ha : a < 4294967296) (hb : b < 4294967296) : bOr .u32 (a : Int) (b : Int) = ((a ||| b : Nat) : Int) := by
  unfold bOr
  rw [BitVec.toNat_or, ofInt32 a ha, ofInt32 b hb, wrap32u]
  have : a ||| b < 2 ^ 32 := Nat.or_lt_two_pow (by omega) (by omega)
  omega
theorem bXor32 (a b : Nat) (ha : a < 4294967296) (hb : b < 4294967296) : bXor .u32 (a : Int) (b : Int) = ((a ^^^ b : Nat) : Int) := by
  unfold bXor
  rw [BitVec.toNat_xor, ofInt32 a ha, ofInt32 b hb, wrap32u]
  have : a ^^^ b < 2 ^ 32 := Nat.xor_lt_two_pow (by omega) (by omega)
  omega
/-- the first bits' mask, the last k bits being 0 -/
theorem mask_eq (k : Nat) (hk : k ≤ 32) : 4294967295 * 2 ^ k % 4294967296 = 4294967296 - 2 ^ k := by
  have h : ∀ k : Fin 33, 4294967295 * 2 ^ k.val % 4294967296 = 4294967296 - 2 ^ k.val := by decide
  exact h ⟨k, by omega⟩
theorem mask_shift (k : Nat) (hk : k ≤ 32) : 4294967296 - 2 ^ k = (2 ^ (32 - k) - 1) <<< k := by
  have h : ∀ k : Fin 33, 4294967296 - 2 ^ k.val = (2 ^ (32 - k.val) - 1) <<< k.val := by decide
  exact h ⟨k, by omega⟩
theorem and_mask (x k : Nat) (hk : k ≤ 32) (hx : x < 4294967296) : x &&& (4294967296 - 2 ^ k) = x / 2 ^ k * 2 ^ k := by
  rw [mask_shift k hk]
  apply Nat.eq_of_testBit_eq
  intro i
  rw [Nat.testBit_and, Nat.testBit_shiftLeft, Nat.testBit_two_pow_sub_one, ← Nat.shiftLeft_eq, ← Nat.shiftRight_eq_div_pow, Nat.testBit_shiftLeft, Nat.testBit_shiftRight]
  by_cases h1 : k ≤ i
  · rw [show k + (i - k) = i by omega]
    by_cases h2 : i < 32
    · have e1 : decide (i ≥ k) = true := by simpa using h1
      have e2 : decide (i - k < 32 - k) = true := by simp; omega
      rw [e1, e2]
      simp
    · have : x.testBit i = false := Nat.testBit_lt_two_pow (Nat.lt_of_lt_of_le hx (Nat.pow_le_pow_right (show 0 < 2 by omega) (show 32 ≤ i by omega)))
      rw [this]
      simp
  · have e1 : decide (i ≥ k) = false := by simp; omega
    rw [e1]
    simp
theorem andNot_mask (x k : Nat) (hk : k ≤ 32) (hx : x < 4294967296) : bAndNot .u32 (x : Int) ((4294967296 - 2 ^ k : Nat) : Int) = ((x % 2 ^ k : Nat) : Int) := by
  have hp : 2 ^ k ≤ 4294967296 := by
    have := Nat.pow_le_pow_right (show 0 < 2 by omega) hk
    simpa using this
  have hp1 : 1 ≤ 2 ^ k := Nat.one_le_two_pow
  unfold bAndNot
  rw [BitVec.toNat_and, BitVec.toNat_not, ofInt32 x hx, ofInt32 _ (by omega), wrap32u]
  have e : 2 ^ (IntKind.bits .u32) - 1 - (4294967296 - 2 ^ k) = 2 ^ k - 1 := by
    show 4294967296 - 1 - (4294967296 - 2 ^ k) = 2 ^ k - 1
    omega
  rw [e, Nat.and_two_pow_sub_one_eq_mod]
  have := Nat.mod_le x (2 ^ k)
  omega
/-- a bit turned -/
theorem xor_shift (a j m : Nat) : (a ^^^ 2 ^ j) / 2 ^ m = if j < m then a / 2 ^ m else (a / 2 ^ m) ^^^ 2 ^ (j - m) := by
  rw [← Nat.shiftRight_eq_div_pow, ← Nat.shiftRight_eq_div_pow, Nat.shiftRight_xor_distrib]
  by_cases h : j < m
  · rw [if_pos h, Nat.shiftRight_eq_div_pow (2 ^ j), Nat.div_eq_of_lt (Nat.pow_lt_pow_right (by omega) h), Nat.xor_zero]
  · rw [if_neg h, Nat.shiftRight_eq_div_pow (2 ^ j), Nat.pow_div (by omega) (by omega)]
theorem xor_ne (a j : Nat) : a ^^^ 2 ^ j ≠ a := by
  intro h
  have h2 := congrArg (fun x => a ^^^ x) h
  simp only [← Nat.xor_assoc, Nat.xor_self, Nat.zero_xor] at h2
  have := Nat.one_le_two_pow (n := j)
  omega
end Go.Proofs.YtfffjaijflbeaaaDoor
