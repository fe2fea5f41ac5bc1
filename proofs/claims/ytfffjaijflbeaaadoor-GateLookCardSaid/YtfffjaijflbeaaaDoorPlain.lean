/- Plain words for the laws of lifted functions: wraps, bytes, indexes, parts. -/
import Derived.Test.YtfffjaijflbeaaaDoorDraw
namespace Go.Proofs.YtfffjaijflbeaaaDoor
set_option linter.unusedSimpArgs false
set_option linter.unusedVariables false
theorem wrap64 {x : Int} (h : -9223372036854775808 ≤ x ∧ x < 9223372036854775808) : IntKind.wrap .i64 x = x := IntWalk.i64_in _ (by omega)
theorem wrap8 (x : Int) : IntKind.wrap .u8 x = x % 256 := by
  unfold IntKind.wrap
  simp only [IntKind.bits, IntKind.signed]
  simp
theorem toU8_nat (n : Nat) : toU8 (n : Int) = UInt8.ofNat n := by simp [toU8]
theorem toU8_wrap (n : Nat) : toU8 (IntKind.wrap .u8 (n : Int)) = UInt8.ofNat n := by
  rw [wrap8, show ((n : Int) % 256) = ((n % 256 : Nat) : Int) by omega, toU8_nat]
  apply UInt8.toNat_inj.1
  simp [UInt8.toNat_ofNat']
theorem wrap8_small {x : Int} (h : 0 ≤ x ∧ x < 256) : IntKind.wrap .u8 x = x := by rw [wrap8]; omega
theorem tdiv_nat (a b : Nat) : Int.tdiv (a : Int) (b : Int) = ((a / b : Nat) : Int) := by
  rw [Int.tdiv_eq_ediv_of_nonneg (by omega)]; rfl
theorem tmod_nat (a b : Nat) : Int.tmod (a : Int) (b : Int) = ((a % b : Nat) : Int) := by
  rw [Int.tmod_eq_emod_of_nonneg (by omega)]; rfl
theorem idx_ok {α : Type} {l : List α} {i : Int} {x : α} (h0 : 0 ≤ i) (hx : l[i.toNat]? = some x) : idx l i = some x := by unfold idx; rw [if_pos h0]; exact hx
theorem idx_nat {α : Type} (l : List α) (i : Nat) : idx l (i : Int) = l[i]? := by unfold idx; rw [if_pos (by omega)]; simp
theorem idx_get {α : Type} {l : List α} {i : Nat} (h : i < l.length) : idx l (i : Int) = some l[i] := by rw [idx_nat, List.getElem?_eq_getElem h]
theorem sub_nat {α : Type} (l : List α) {i j : Nat} (h : i ≤ j) (hj : j ≤ l.length) : sub l (i : Int) (j : Int) = some ((l.take j).drop i) := by
  unfold sub
  rw [if_pos ⟨by omega, by omega, by omega⟩]
  simp
theorem app_ok {α : Type} {l m : List α} (h : l.length + m.length ≤ 2147483648) : app l m = some (l ++ m) := by unfold app; rw [if_pos h]
theorem fuel_eq : fuel = 18446744073709551616 := rfl
theorem u8_lt (c : UInt8) : c.toNat < 256 := c.toNat_lt
theorem wrapn {n : Nat} (h : n < 4611686018427387904) : IntKind.wrap .i64 (n : Int) = (n : Int) := wrap64 (by omega)
end Go.Proofs.YtfffjaijflbeaaaDoor
