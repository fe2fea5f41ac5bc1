/- Equality of messages and of strings, as the program asks it. -/
import Derived.Test.YtjpchjbbfbmjgaaWireL
namespace Go.Proofs.Ytjpchjbbfbmjgaa
set_option linter.unusedSimpArgs false
set_option linter.unusedVariables false
open Go.RowKit
theorem bytes_beq (a b : ByteArray) : (a == b) = decide (a = b) := by
  rw [beq_toListBytes, ByteArray.toList_eq, ByteArray.toList_eq]
  obtain ⟨⟨x⟩⟩ := a
  obtain ⟨⟨y⟩⟩ := b
  by_cases h : x = y
  · subst h; simp
  · simp [h]
theorem toList_eq_iff (a b : ByteArray) : a.toList = b.toList ↔ a = b := by
  have h := bytes_beq a b
  rw [beq_toListBytes] at h
  by_cases e : a = b
  · subst e; simp
  · rw [decide_eq_false e] at h
    simp only [beq_eq_false_iff_ne] at h
    exact ⟨fun h' => absurd h' h, fun h' => absurd h' e⟩
theorem run_eql_string (w : World) (a b : ByteArray) : (binOp .eql 9 (.string a) (.string b)).run Try.prog w = .ok (.bool (decide (a = b))) w := by
  rw [← bytes_beq, beq_toListBytes]
  go_simp
theorem run_eql_msg (w : World) (k n m k' n' m' : Int) (a b a' b' : ByteArray) :
    (binOp .eql 23 (msgV k a b n m) (msgV k' a' b' n' m')).run Try.prog w = .ok (.bool (decide (k = k' ∧ a = a' ∧ b = b' ∧ n = n' ∧ m = m'))) w := by
  unfold msgV
  go_simp
  simp only [toList_eq_iff]
  by_cases h1 : k = k' <;> by_cases h2 : a = a' <;> by_cases h3 : b = b' <;> by_cases h4 : n = n' <;> by_cases h5 : m = m' <;> simp [h1, h2, h3, h4, h5]
theorem run_neq_msg (w : World) (k n m k' n' m' : Int) (a b a' b' : ByteArray) :
    (binOp .neq 23 (msgV k a b n m) (msgV k' a' b' n' m')).run Try.prog w = .ok (.bool (!decide (k = k' ∧ a = a' ∧ b = b' ∧ n = n' ∧ m = m'))) w := by
  unfold msgV
  go_simp
  simp only [toList_eq_iff]
  by_cases h1 : k = k' <;> by_cases h2 : a = a' <;> by_cases h3 : b = b' <;> by_cases h4 : n = n' <;> by_cases h5 : m = m' <;> simp [h1, h2, h3, h4, h5]
end Go.Proofs.Ytjpchjbbfbmjgaa
