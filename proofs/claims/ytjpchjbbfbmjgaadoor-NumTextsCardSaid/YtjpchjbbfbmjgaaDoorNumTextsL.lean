/- The plain law of NumTexts: what the lifted law computes is true. -/
import Derived.Test.YtjpchjbbfbmjgaaDoorLNumTexts
import Derived.Test.YtjpchjbbfbmjgaaDoorNumHead
namespace Go.Proofs.YtjpchjbbfbmjgaaDoor
set_option linter.unusedSimpArgs false
set_option linter.unusedVariables false
theorem numTexts_true (s l : List UInt8) (hs : s.length ≤ maxLen) (hl : l.length ≤ maxLen) : L_subwaylaw01_NumTexts s l = some true := by
  unfold L_subwaylaw01_NumTexts
  rw [numHead_true]
  simp only [Option.bind_some]
  have main : l.length ≤ 9000 → L_subwaylaw01_NumTexts_k1 s l true false = some true := by
    intro h9
    unfold L_subwaylaw01_NumTexts_k1
    simp only [cond_false, tText hs, Option.bind_some]
    by_cases h : 255 < s.length
    · have ht : textL s = [] := by unfold textL; rw [if_pos h]
      rw [show decide (((List.length s : Nat) : Int) > 255) = true by simp; omega, ht]
      rfl
    · have hlen : (textL s).length = s.length + 1 := by unfold textL; rw [if_neg h]; rfl
      have hr := read_text (s := s) (by omega) l
      have hc := read_cut (s := s) (by omega)
      rw [show decide (((List.length s : Nat) : Int) > 255) = false by simp; omega]
      generalize textL s = T at hlen hr hc ⊢
      rw [show (((List.length T : Nat) : Int) != IntKind.wrap .i64 (((List.length s : Nat) : Int) + 1)) = false by rw [wrap64 (by omega), hlen]; simp]
      have a1 : app ([] : List UInt8) T = some T := by rw [app_ok (by simp only [List.length_nil]; omega)]; rfl
      have hs : sub T 0 (IntKind.wrap .i64 (((List.length T : Nat) : Int) - 1)) = some (T.take (T.length - 1)) := by
        rw [wrap64 (by omega), show (((List.length T : Nat) : Int) - 1) = ((T.length - 1 : Nat) : Int) by omega]
        exact sub_nat T (i := 0) (by omega) (by omega)
      simp only [cond_false, cond_true, a1, Option.bind_some, app_ok (show T.length + l.length ≤ 2147483648 by omega), L_num_Read, hr, hs, hc, readD, beq_self_eq_true]
      rw [show (((s.length + 1 : Nat) : Int) == ((List.length T : Nat) : Int)) = true by rw [hlen]; simp]
      rfl
  by_cases h1 : 9000 < s.length
  · rw [show decide (((List.length s : Nat) : Int) > 9000) = true by simp; omega]
    rfl
  · rw [show decide (((List.length s : Nat) : Int) > 9000) = false by simp; omega]
    simp only [cond_false]
    by_cases h : 9000 < l.length
    · rw [show decide (((List.length l : Nat) : Int) > 9000) = true by simp; omega]
      rfl
    · rw [show decide (((List.length l : Nat) : Int) > 9000) = false by simp; omega]
      exact main (by omega)
end Go.Proofs.YtjpchjbbfbmjgaaDoor
