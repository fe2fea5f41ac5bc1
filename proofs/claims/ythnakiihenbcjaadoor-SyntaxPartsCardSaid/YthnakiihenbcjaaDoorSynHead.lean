/- The live question of layer 4 is answered yes; the law's own net. -/
import Derived.Test.YthnakiihenbcjaaDoorLSH
import Derived.Test.YthnakiihenbcjaaDoorSynNet
namespace Go.Proofs.YthnakiihenbcjaaDoor
set_option linter.unusedSimpArgs false
set_option linter.unusedVariables false
theorem lIn' {a x : Int} {A X : Nat} {b : Int} (ea : a = (A : Int)) (ex : x = (X : Int)) (ha : A < 4294967296) (hx : X < 4294967296) : L_syntax_In a b x = some (inN A b X) := by subst ea ex; exact lIn A X ha hx b
theorem synHead_true : L_subwaylaw04_head = some true := by
  unfold L_subwaylaw04_head
  rw [lAddr _ (by decide), lNet _ (by decide), lNet _ (by decide), lAddr _ (by decide)]
  have e1 : addrL [49, 48, 46, 49, 46, 50, 46, 51] = some 167838211 := by decide +kernel
  have e2 : netL [49, 48, 46, 49, 46, 48, 46, 48, 47, 49, 54] = some (167837696, 16) := by decide +kernel
  have e3 : netL [49, 48, 46, 49, 46, 50, 46, 48, 47, 49, 54] = none := by decide +kernel
  have e4 : addrL [49, 48, 46, 49, 46, 50, 46, 48, 51] = none := by decide +kernel
  rw [e1, e2, e3, e4]
  have i1 : L_syntax_In 167837696 16 167838211 = some true := (lIn' (A := 167837696) (X := 167838211) rfl rfl (by decide) (by decide)).trans (by decide +kernel)
  have i2 : L_syntax_In 167837696 16 167903747 = some false := (lIn' (A := 167837696) (X := 167903747) rfl rfl (by decide) (by decide)).trans (by decide +kernel)
  have s1 : L_syntax_Slash 167837696 16 = some [49, 48, 46, 49, 46, 48, 46, 48, 47, 49, 54] := by
    rw [show (167837696 : Int) = ((167837696 : Nat) : Int) from rfl, lSlash _ (by decide)]; decide +kernel
  have d1 : L_syntax_Dots 167838211 = some [49, 48, 46, 49, 46, 50, 46, 51] := by
    rw [show (167838211 : Int) = ((167838211 : Nat) : Int) from rfl, lDots _ (by decide)]; decide +kernel
  show ((L_syntax_In 167837696 16 167838211).bind fun z100 => _) = _
  rw [i1]
  show ((L_syntax_In 167837696 16 167903747).bind fun z107 => _) = _
  rw [i2]
  show ((L_syntax_Slash 167837696 16).bind fun z116 => _) = _
  rw [s1]
  show ((L_syntax_Dots 167838211).bind fun z116 => _) = _
  rw [d1]
  show ((L_syntax_Name [97, 45, 49]).bind fun z130 => cond z130 ((L_syntax_Name [45, 97]).bind fun z137 => cond (!z137) ((L_syntax_Name []).bind fun z144 => _) _) _) = _
  rw [lName _ (by decide), lName _ (by decide), lName _ (by decide)]
  decide +kernel
theorem or_mask (i : Nat) (hi : i < 32) : (4294967296 - 2 ^ (32 - i)) ||| 2 ^ (31 - i) = 4294967296 - 2 ^ (32 - (i + 1)) := by
  have h : ∀ i : Fin 32, (4294967296 - 2 ^ (32 - i.val)) ||| 2 ^ (31 - i.val) = 4294967296 - 2 ^ (32 - (i.val + 1)) := by decide +kernel
  exact h ⟨i, hi⟩
theorem bit_at (i : Nat) (hi : i < 32) : bShl .u32 1 (IntKind.wrap .i64 (31 - (i : Int))) = ((2 ^ (31 - i) : Nat) : Int) := by
  rw [show IntKind.wrap .i64 (31 - (i : Int)) = ((31 - i : Nat) : Int) by rw [wrap64 (by omega)]; omega]
  have := bShl32 1 (31 - i) (by omega)
  rw [show ((1 : Nat) : Int) = 1 from rfl] at this
  rw [this, Nat.one_mul, Nat.mod_eq_of_lt]
  have := Nat.pow_le_pow_right (show 0 < 2 by omega) (show 31 - i ≤ 31 by omega)
  have h31 : (2 : Nat) ^ 31 = 2147483648 := by decide
  omega
theorem net_loop (a n : Nat) (ha : a < 4294967296) (hn : n ≤ 32) : ∀ (d i f : Nat), d = n - i → i ≤ n → d < f → L_subwaylaw04_net_l1 (a : Int) (n : Int) f ((4294967296 - 2 ^ (32 - i) : Nat) : Int) (i : Int) = some (((cutN a (n : Int) : Nat) : Int), (n : Int)) := by
  intro d
  induction d with
  | zero =>
    intro i f hd hi hf
    obtain ⟨f, rfl⟩ : ∃ g, f = g + 1 := ⟨f - 1, by omega⟩
    have hin : i = n := by omega
    subst hin
    show L_subwaylaw04_net_b1 (L_subwaylaw04_net_l1 (a : Int) (i : Int) f) (a : Int) (i : Int) _ _ = _
    unfold L_subwaylaw04_net_b1
    have hp : 1 ≤ 2 ^ (32 - i) := Nat.one_le_two_pow
    rw [show decide ((i : Int) < (i : Int)) = false by simp, bAnd32 a _ ha (by omega), and_mask a _ (by omega) ha]
    unfold cutN
    rw [Int.toNat_natCast]
    rfl
  | succ d ih =>
    intro i f hd hi hf
    obtain ⟨f, rfl⟩ : ∃ g, f = g + 1 := ⟨f - 1, by omega⟩
    show L_subwaylaw04_net_b1 (L_subwaylaw04_net_l1 (a : Int) (n : Int) f) (a : Int) (n : Int) _ _ = _
    unfold L_subwaylaw04_net_b1
    have hp : 1 ≤ 2 ^ (32 - i) := Nat.one_le_two_pow
    have hp2 : 2 ^ (31 - i) ≤ 2147483648 := by
      have := Nat.pow_le_pow_right (show 0 < 2 by omega) (show 31 - i ≤ 31 by omega)
      have h31 : (2 : Nat) ^ 31 = 2147483648 := by decide
      omega
    have w4 : IntKind.wrap .i64 ((i : Int) + 1) = ((i + 1 : Nat) : Int) := by rw [wrap64 (by omega)]; omega
    rw [show decide ((i : Int) < (n : Int)) = true by simp; omega, bit_at i (by omega), bOr32 _ _ (by omega) (by omega), or_mask i (by omega), w4, show decide (0 ≤ IntKind.wrap .i64 (31 - (i : Int))) = true by rw [wrap64 (by omega)]; simp; omega]
    simp only [cond_true, chk, Option.bind_some]
    exact ih (i + 1) f (by omega) (by omega) (by omega)
theorem lNetOf (a n : Nat) (ha : a < 4294967296) (hn : n ≤ 32) : L_subwaylaw04_net (a : Int) (n : Int) = some (((cutN a (n : Int) : Nat) : Int), (n : Int)) := by
  unfold L_subwaylaw04_net
  exact net_loop a n ha hn n 0 fuel (by omega) (by omega) (by rw [fuel_eq]; omega)
theorem right_cut (a n : Nat) (hn : n ≤ 32) : rightN (cutN a (n : Int)) (n : Int) = true := by
  unfold rightN
  rw [decide_eq_true (by omega : (0 : Int) ≤ n), decide_eq_true (by omega : (n : Int) ≤ 32), decide_eq_true (cut_right a n)]
  rfl
theorem in_cut (a n x : Nat) (hn : n ≤ 32) : inN (cutN a (n : Int)) (n : Int) x = decide (cutN x (n : Int) = cutN a (n : Int)) := by
  unfold inN
  rw [right_cut a n hn]
  rfl
theorem mod33 (c : UInt8) : IntKind.wrap .i64 (Int.tmod (c.toNat : Int) 33) = ((c.toNat % 33 : Nat) : Int) := by
  have := tmod_nat c.toNat 33
  rw [show ((33 : Nat) : Int) = 33 from rfl] at this
  rw [this]
  exact wrap64 (by omega)
theorem mod32 (c : UInt8) : IntKind.wrap .i64 (Int.tmod (c.toNat : Int) 32) = ((c.toNat % 32 : Nat) : Int) := by
  have := tmod_nat c.toNat 32
  rw [show ((32 : Nat) : Int) = 32 from rfl] at this
  rw [this]
  exact wrap64 (by omega)
/-- fewer first bits of some first bits -/
theorem cut_cut (x i k : Nat) (h : i ≤ k) (hk : k ≤ 32) : cutN (cutN x (k : Int)) (i : Int) = cutN x (i : Int) := by
  unfold cutN
  simp only [Int.toNat_natCast]
  have e : 2 ^ (32 - i) = 2 ^ (32 - k) * 2 ^ (k - i) := by rw [← Nat.pow_add]; congr 1; omega
  rw [e, ← Nat.div_div_eq_div_mul, Nat.mul_div_cancel _ (Nat.two_pow_pos _), Nat.div_div_eq_div_mul]
end Go.Proofs.YthnakiihenbcjaaDoor
