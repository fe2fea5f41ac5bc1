/- The plain law of NumBack: what the lifted law computes is true. -/
import Derived.Test.YtjpchjbbfbmjgaaDoorLNumBack
import Derived.Test.YtjpchjbbfbmjgaaDoorNumHead
namespace Go.Proofs.YtjpchjbbfbmjgaaDoor
set_option linter.unusedSimpArgs false
set_option linter.unusedVariables false
open Go.Lib (decDigits)
theorem back_k7 (s : List UInt8) (hs : s.length ≤ 9000) : L_subwaylaw01_NumBack_k7 s true false = some true := by
  unfold L_subwaylaw01_NumBack_k7
  simp only [cond_false, lParse s (by omega), Option.bind_some, cond_true]
  cases hp : parseL s with
  | none => rfl
  | some n =>
    obtain ⟨h1, h2⟩ := dec_parse hp
    unfold maxNum at h2
    have hd : decL ((n : Nat) : Int) = s := by unfold decL; rw [if_pos (by omega), Int.toNat_natCast, h1]
    simp only [parseD, Bool.not_true, cond_false, lDecimal, Option.bind_some, hd, beq_self_eq_true]
    rfl
theorem back_k6 (l s : List UInt8) (hs : s.length ≤ 9000) : L_subwaylaw01_NumBack_k6 l s true = some true := by
  unfold L_subwaylaw01_NumBack_k6 L_num_Get
  simp only [Option.bind_some]
  cases hg : getL l with
  | none =>
    simp only [getD3, cond_false, Bool.not_false, cond_true]
    exact back_k7 s hs
  | some x =>
    obtain ⟨n, k⟩ := x
    have hle := getL_le hg
    obtain ⟨h1, h2, h3⟩ := put_get hg
    have hm := h3
    unfold maxNum at hm
    have hput : putL ((n : Nat) : Int) = putN n := by unfold putL; rw [if_pos (by omega), Int.toNat_natCast]
    have htk : l.take k = putN n := by
      conv => lhs; rw [h1, h2]
      exact List.take_left' rfl
    have hsub : sub l 0 ((k : Nat) : Int) = some (putN n) := by
      have := sub_nat l (i := 0) (j := k) (by omega) hle.2.2.1
      rw [htk] at this
      exact this
    have c1 : decide (((k : Nat) : Int) < 1) = false := by simp; omega
    have c2 : decide (((k : Nat) : Int) > ((List.length l : Nat) : Int)) = false := by simp; omega
    show cond true (cond (decide (((k : Nat) : Int) < 1)) _ (cond (decide (((k : Nat) : Int) > ((List.length l : Nat) : Int))) _ ((L_num_Put ((n : Nat) : Int)).bind fun z => (sub l 0 ((k : Nat) : Int)).bind fun y => _))) _ = _
    rw [c1, c2, hsub]
    simp only [cond_true, cond_false, L_num_Put, hput, Option.bind_some, beq_self_eq_true, Bool.not_true]
    exact back_k7 s hs
theorem numBack_true (n : Int) (l s : List UInt8) (hl : l.length ≤ maxLen) (hs : s.length ≤ maxLen) : L_subwaylaw01_NumBack n l s = some true := by
  unfold L_subwaylaw01_NumBack
  rw [numHead_true]
  simp only [Option.bind_some]
  have main : l.length ≤ 9000 → s.length ≤ 9000 → L_subwaylaw01_NumBack_k1 n l s true false = some true := by
    intro hl9 hs9
    unfold L_subwaylaw01_NumBack_k1
    have not : ¬ (0 ≤ n ∧ n ≤ 1099511627776) → L_subwaylaw01_NumBack_k2 n l s true false = some true := by
      intro h
      have e1 : putL n = [] := by unfold putL; rw [if_neg h]
      have e2 : decL n = [] := by unfold decL; rw [if_neg h]
      unfold L_subwaylaw01_NumBack_k2 L_num_Put
      simp only [e1, e2, lDecimal, Option.bind_some]
      exact back_k6 l s hs9
    by_cases h0 : 0 ≤ n
    · rw [show decide (n ≥ 0) = true by simp; omega]
      simp only [cond_false, cond_true]
      by_cases h1 : n ≤ 1099511627776
      · rw [show decide (n ≤ 1099511627776) = true by simp; omega]
        obtain ⟨m, rfl⟩ := Int.eq_ofNat_of_zero_le h0
        have hm : m ≤ maxNum := by unfold maxNum; omega
        have e1 : putL ((m : Nat) : Int) = putN m := by unfold putL; rw [if_pos (by omega), Int.toNat_natCast]
        have e2 : decL ((m : Nat) : Int) = decDigits m := by unfold decL; rw [if_pos (by omega), Int.toNat_natCast]
        have g1 := get_put hm l
        have g2 := get_cut m
        have pl := putN_length_le m
        have pn := putN_ne m
        have d13 := dec_len13 hm
        have hpd := parse_dec hm
        have dn := dec_ne m
        unfold L_subwaylaw01_NumBack_k2 L_num_Put
        simp only [e1, e2, lDecimal, Option.bind_some]
        generalize putN m = T at e1 g1 g2 pl pn ⊢
        generalize decDigits m = D at e2 d13 hpd dn ⊢
        have hT : 0 < T.length := by cases T with
          | nil => exact absurd rfl pn
          | cons c r => simp
        have a1 : app ([] : List UInt8) T = some T := by rw [app_ok (by simp only [List.length_nil]; omega)]; rfl
        have hs' : sub T 0 (IntKind.wrap .i64 (((List.length T : Nat) : Int) - 1)) = some (T.take (T.length - 1)) := by
          rw [wrap64 (by omega), show (((List.length T : Nat) : Int) - 1) = ((T.length - 1 : Nat) : Int) by omega]
          exact sub_nat T (i := 0) (by omega) (by omega)
        have hne : (D == ([] : List UInt8)) = false := by simpa using dn
        have dT : decide (((List.length T : Nat) : Int) > 0) = true := by simp; omega
        have hbe : ∀ x : Int, (x != x) = false := fun x => by simp
        simp only [dT, beq_self_eq_true, Bool.not_true, cond_false, hne, Bool.not_false, L_subwaylaw01_NumBack_k3, cond_true, L_subwaylaw01_NumBack_k4, a1, Option.bind_some, app_ok (show T.length + l.length ≤ 2147483648 by omega), L_num_Get, g1, g2, hs', getD3, e2, lDecimal,
          lParse D (by omega), hpd, parseD, hbe, L_subwaylaw01_NumBack_k9]
        exact back_k6 l s hs9
      · rw [show decide (n ≤ 1099511627776) = false by simp; omega]
        exact not (by omega)
    · rw [show decide (n ≥ 0) = false by simp; omega]
      exact not (by omega)
  by_cases h1 : 9000 < l.length
  · rw [show decide (((List.length l : Nat) : Int) > 9000) = true by simp; omega]
    rfl
  · rw [show decide (((List.length l : Nat) : Int) > 9000) = false by simp; omega]
    simp only [cond_false]
    by_cases h : 9000 < s.length
    · rw [show decide (((List.length s : Nat) : Int) > 9000) = true by simp; omega]
      rfl
    · rw [show decide (((List.length s : Nat) : Int) > 9000) = false by simp; omega]
      exact main (by omega) (by omega)
end Go.Proofs.YtjpchjbbfbmjgaaDoor
