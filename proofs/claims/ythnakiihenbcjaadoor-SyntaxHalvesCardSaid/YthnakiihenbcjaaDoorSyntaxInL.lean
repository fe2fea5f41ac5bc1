/- The plain laws of SyntaxIn and SyntaxHalves. -/
import Derived.Test.YthnakiihenbcjaaDoorLSyntaxIn
import Derived.Test.YthnakiihenbcjaaDoorLSyntaxHalves
import Derived.Test.YthnakiihenbcjaaDoorSynHead
namespace Go.Proofs.YthnakiihenbcjaaDoor
set_option linter.unusedSimpArgs false
set_option linter.unusedVariables false
theorem pow_le31 {j : Nat} (h : j ≤ 31) : 2 ^ j ≤ 2147483648 := by
  have := Nat.pow_le_pow_right (show 0 < 2 by omega) h
  have h31 : (2 : Nat) ^ 31 = 2147483648 := by decide
  omega
theorem cut_turn_in (a n k : Nat) (hk : k < n) (hn : n ≤ 32) : cutN (a ^^^ 2 ^ (31 - k)) (n : Int) ≠ cutN a (n : Int) := by
  unfold cutN
  rw [Int.toNat_natCast, xor_shift, if_neg (by omega)]
  intro h
  have := Nat.eq_of_mul_eq_mul_right (Nat.two_pow_pos _) h
  exact xor_ne _ _ this
theorem cut_turn_out (a k : Nat) (hk : k < 32) : cutN (a ^^^ 2 ^ (31 - k)) (k : Int) = cutN a (k : Int) := by
  unfold cutN
  rw [Int.toNat_natCast, xor_shift, if_pos (by omega)]
theorem syntaxIn_true (a : Int) (bits at_ : UInt8) (ha : 0 ≤ a ∧ a < 4294967296) : L_subwaylaw04_SyntaxIn a bits at_ = some true := by
  obtain ⟨a, rfl⟩ := Int.eq_ofNat_of_zero_le ha.1
  have ha : a < 4294967296 := by omega
  have hn : bits.toNat % 33 ≤ 32 := by omega
  have h00 : L_subwaylaw04_net 0 0 = some (0, 0) := by
    have := lNetOf 0 0 (by omega) (by omega)
    exact this.trans (by decide +kernel)
  have hin0 : L_syntax_In 0 0 (a : Int) = some true := by
    have := lIn 0 a (by omega) ha 0
    refine this.trans ?_
    have e : cutN a 0 = 0 := by unfold cutN; rw [Nat.div_eq_of_lt (by simpa using ha), Nat.zero_mul]
    unfold inN
    rw [e]
    decide +kernel
  have hX := Nat.lt_of_le_of_lt (cut_le a ((bits.toNat % 33 : Nat) : Int)) ha
  unfold L_subwaylaw04_SyntaxIn
  rw [synHead_true, mod33, lNetOf a _ ha hn]
  simp only [Option.bind_some, lIn _ _ hX ha, in_cut a _ _ hn, decide_true, Bool.not_true, cond_false, h00, hin0]
  unfold L_subwaylaw04_SyntaxIn_k1
  rw [mod33]
  generalize bits.toNat % 33 = n at hn hX ⊢
  simp only [cond_false]
  by_cases h0 : n = 0
  · subst h0
    rfl
  · have hne : (((n : Nat) : Int) == 0) = false := by rw [beq_eq_false_iff_ne]; omega
    have hk : Int.tmod (IntKind.wrap .i64 (at_.toNat : Int)) ((n : Nat) : Int) = ((at_.toNat % n : Nat) : Int) := by
      rw [wrap64 (by have := at_.toNat_lt; omega), tmod_nat]
    have hlt : at_.toNat % n < n := Nat.mod_lt _ (by omega)
    rw [hne, hk]
    generalize at_.toNat % n = k at hlt ⊢
    have hb : 2 ^ (31 - k) ≤ 2147483648 := pow_le31 (by omega)
    have hx : a ^^^ 2 ^ (31 - k) < 4294967296 := Nat.xor_lt_two_pow (n := 32) ha (by omega)
    have hK := Nat.lt_of_le_of_lt (cut_le a ((k : Nat) : Int)) ha
    have hchk : decide (0 ≤ IntKind.wrap .i64 (31 - ((k : Nat) : Int))) = true := by rw [wrap64 (by omega)]; simp; omega
    rw [lNetOf a n ha hn, lNetOf a k ha (by omega), bit_at k (by omega), bXor32 a _ ha (by omega), hchk]
    simp only [cond_false, chk, Bool.not_false, Option.bind_some, cond_true, lIn _ _ hX hx, lIn _ _ hK hx, in_cut a _ _ hn, in_cut a k _ (by omega : k ≤ 32), decide_eq_false (cut_turn_in a n k hlt hn), decide_eq_true (cut_turn_out a k (by omega))]
    rfl
/-- a net's halves -/
theorem half_cut (b n : Nat) (hn : n ≤ 31) : cutN b (n : Int) = b / 2 ^ (31 - n) / 2 * (2 ^ (31 - n) * 2) ∧ cutN b ((n + 1 : Nat) : Int) = b / 2 ^ (31 - n) * 2 ^ (31 - n) := by
  unfold cutN
  rw [Int.toNat_natCast, Int.toNat_natCast, show 32 - (n + 1) = 31 - n by omega, show 32 - n = 31 - n + 1 by omega, Nat.pow_succ, Nat.div_div_eq_div_mul]
  exact ⟨rfl, rfl⟩
theorem syntaxHalves_true (a : Int) (bits : UInt8) (b : Int) (ha : 0 ≤ a ∧ a < 4294967296) (hb : 0 ≤ b ∧ b < 4294967296) : L_subwaylaw04_SyntaxHalves a bits b = some true := by
  obtain ⟨a, rfl⟩ := Int.eq_ofNat_of_zero_le ha.1
  obtain ⟨b, rfl⟩ := Int.eq_ofNat_of_zero_le hb.1
  have ha : a < 4294967296 := by omega
  have hb : b < 4294967296 := by omega
  unfold L_subwaylaw04_SyntaxHalves L_subwaylaw04_SyntaxHalves_k1
  have hn : bits.toNat % 32 ≤ 31 := by omega
  rw [synHead_true, mod32]
  generalize bits.toNat % 32 = n at hn ⊢
  have hM : 2 ^ (31 - n) ≤ 2147483648 := pow_le31 (by omega)
  have hM0 : 0 < 2 ^ (31 - n) := Nat.two_pow_pos _
  have hX := Nat.lt_of_le_of_lt (cut_le a ((n : Nat) : Int)) ha
  have w1 : IntKind.wrap .i64 (((n : Nat) : Int) + 1) = ((n + 1 : Nat) : Int) := by rw [wrap64 (by omega)]; omega
  have hchk : decide (0 ≤ IntKind.wrap .i64 (31 - ((n : Nat) : Int))) = true := by rw [wrap64 (by omega)]; simp; omega
  obtain ⟨ca, ca1⟩ := half_cut a n hn
  obtain ⟨cb, cb1⟩ := half_cut b n hn
  have hle : cutN a (n : Int) + 2 ^ (31 - n) < 4294967296 := by
    have h1 : a / 2 ^ (31 - n) / 2 * (2 ^ (31 - n) * 2) + 2 ^ (31 - n) ≤ 2 ^ 32 - 2 ^ (31 - n) ∨ True := .inr trivial
    have hq : a / 2 ^ (31 - n) / 2 * (2 ^ (31 - n) * 2) < 2 ^ (n) * (2 ^ (31 - n) * 2) := by
      refine Nat.mul_lt_mul_of_pos_right ?_ (by omega)
      rw [Nat.div_div_eq_div_mul]
      refine Nat.div_lt_of_lt_mul ?_
      have e : 2 ^ (31 - n) * 2 * 2 ^ n = 4294967296 := by
        rw [← Nat.pow_succ, ← Nat.pow_add, show 31 - n + 1 + n = 32 by omega]
      rw [e]; exact ha
    have e : 2 ^ n * (2 ^ (31 - n) * 2) = 4294967296 := by
      rw [← Nat.pow_succ, ← Nat.pow_add, show n + (31 - n + 1) = 32 by omega]
    have hq2 : a / 2 ^ (31 - n) / 2 + 1 ≤ 2 ^ n := Nat.lt_of_mul_lt_mul_right hq
    have hq3 : (a / 2 ^ (31 - n) / 2 + 1) * (2 ^ (31 - n) * 2) ≤ 2 ^ n * (2 ^ (31 - n) * 2) := Nat.mul_le_mul_right _ hq2
    rw [Nat.add_mul] at hq3
    rw [ca]
    omega
  have hor : cutN a (n : Int) ||| 2 ^ (31 - n) = cutN a (n : Int) + 2 ^ (31 - n) := by
    have h := Nat.two_pow_add_eq_or_of_lt (i := 31 - n + 1) (b := 2 ^ (31 - n)) (Nat.pow_lt_pow_right (by omega) (by omega)) (a / 2 ^ (31 - n) / 2)
    rw [Nat.pow_succ] at h
    rw [ca, Nat.mul_comm]
    exact h.symm
  rw [lNetOf a n ha (by omega), hchk, w1, bit_at n (by omega)]
  simp only [Option.bind_some]
  rw [bOr32 _ _ hX (by omega), hor]
  have r1 : rightN (cutN a (n : Int)) ((n + 1 : Nat) : Int) = true := by
    unfold rightN
    rw [decide_eq_true (by omega : (0 : Int) ≤ ((n + 1 : Nat) : Int)), decide_eq_true (by omega : ((n + 1 : Nat) : Int) ≤ 32), Int.toNat_natCast, show 32 - (n + 1) = 31 - n by omega, ca, ← Nat.mul_assoc, Nat.mul_right_comm, Nat.mul_mod_left]
    rfl
  have r2 : rightN (cutN a (n : Int) + 2 ^ (31 - n)) ((n + 1 : Nat) : Int) = true := by
    unfold rightN
    rw [decide_eq_true (by omega : (0 : Int) ≤ ((n + 1 : Nat) : Int)), decide_eq_true (by omega : ((n + 1 : Nat) : Int) ≤ 32), Int.toNat_natCast, show 32 - (n + 1) = 31 - n by omega, ca, ← Nat.mul_assoc, Nat.mul_right_comm, Nat.add_mod_right, Nat.mul_mod_left]
    rfl
  have i1 : inN (cutN a (n : Int)) ((n + 1 : Nat) : Int) b = decide (cutN b ((n + 1 : Nat) : Int) = cutN a (n : Int)) := by unfold inN; rw [r1]; rfl
  have i2 : inN (cutN a (n : Int) + 2 ^ (31 - n)) ((n + 1 : Nat) : Int) b = decide (cutN b ((n + 1 : Nat) : Int) = cutN a (n : Int) + 2 ^ (31 - n)) := by unfold inN; rw [r2]; rfl
  have i3 : cutN (cutN a (n : Int)) (n : Int) = cutN a (n : Int) := cut_cut a n n (Nat.le_refl _) (by omega)
  have i4 : cutN (cutN a (n : Int) + 2 ^ (31 - n)) (n : Int) = cutN a (n : Int) := by
    have hc : ∀ c, cutN c (n : Int) = c / (2 ^ (31 - n) * 2) * (2 ^ (31 - n) * 2) := fun c => by unfold cutN; rw [Int.toNat_natCast, show 32 - n = 31 - n + 1 by omega, Nat.pow_succ]
    rw [hc (cutN a (n : Int) + 2 ^ (31 - n)), ca]
    generalize a / 2 ^ (31 - n) / 2 = q
    rw [Nat.mul_comm q, Nat.mul_add_div (by omega), Nat.div_eq_of_lt (by omega : 2 ^ (31 - n) < 2 ^ (31 - n) * 2), Nat.add_zero, Nat.mul_comm q]
  simp only [Option.bind_some, chk, cond_true, lIn _ _ hX hb, lIn _ _ hle hb, lIn _ _ hX hX, lIn _ _ hX hle, in_cut a n _ (by omega : n ≤ 32), i1, i2, i3, i4, decide_true]
  have key : (cutN b (n : Int) = cutN a (n : Int)) ↔ (cutN b ((n + 1 : Nat) : Int) = cutN a (n : Int) ∨ cutN b ((n + 1 : Nat) : Int) = cutN a (n : Int) + 2 ^ (31 - n)) := by
    rw [ca, cb, cb1]
    generalize b / 2 ^ (31 - n) = t
    generalize a / 2 ^ (31 - n) / 2 = q
    have e1 : q * (2 ^ (31 - n) * 2) = (2 * q) * 2 ^ (31 - n) := by rw [Nat.mul_comm (2 ^ (31 - n)) 2, ← Nat.mul_assoc, Nat.mul_comm q 2]
    have e2 : q * (2 ^ (31 - n) * 2) + 2 ^ (31 - n) = (2 * q + 1) * 2 ^ (31 - n) := by rw [e1, Nat.add_mul, Nat.one_mul]
    rw [e2]
    have c0 : t / 2 * (2 ^ (31 - n) * 2) = q * (2 ^ (31 - n) * 2) ↔ t / 2 = q := ⟨fun h => Nat.eq_of_mul_eq_mul_right (by omega) h, fun h => by rw [h]⟩
    have c1 : t * 2 ^ (31 - n) = (2 * q) * 2 ^ (31 - n) ↔ t = 2 * q := ⟨fun h => Nat.eq_of_mul_eq_mul_right hM0 h, fun h => by rw [h]⟩
    have c2 : t * 2 ^ (31 - n) = (2 * q + 1) * 2 ^ (31 - n) ↔ t = 2 * q + 1 := ⟨fun h => Nat.eq_of_mul_eq_mul_right hM0 h, fun h => by rw [h]⟩
    rw [c0, e1, c1, c2]
    omega
  by_cases p1 : cutN b ((n + 1 : Nat) : Int) = cutN a (n : Int)
  · rw [decide_eq_true p1, decide_eq_true (key.2 (.inl p1)), decide_eq_false (by omega : ¬ cutN b ((n + 1 : Nat) : Int) = cutN a (n : Int) + 2 ^ (31 - n))]
    rfl
  · rw [decide_eq_false p1]
    by_cases p2 : cutN b ((n + 1 : Nat) : Int) = cutN a (n : Int) + 2 ^ (31 - n)
    · rw [decide_eq_true p2, decide_eq_true (key.2 (.inr p2))]
      rfl
    · rw [decide_eq_false p2, decide_eq_false fun h => by rcases key.1 h with h | h; exact p1 h; exact p2 h]
      rfl
end Go.Proofs.YthnakiihenbcjaaDoor
