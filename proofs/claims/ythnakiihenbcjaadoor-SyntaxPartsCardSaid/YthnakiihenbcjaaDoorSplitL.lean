/- Splitting a text at a byte: what it is, and how it goes on. Nothing of the program. -/
import Derived.Lib.Bytealg
namespace Go.Proofs.YthnakiihenbcjaaDoor
set_option linter.unusedSimpArgs false
set_option linter.unusedVariables false
def splitL (c : UInt8) : List UInt8 → List (List UInt8)
  | [] => [[]]
  | x :: r => if x = c then [] :: splitL c r else match splitL c r with | [] => [[x]] | p :: ps => (x :: p) :: ps
theorem splitL_ne (c : UInt8) (s : List UInt8) : splitL c s ≠ [] := by
  cases s with
  | nil => simp [splitL]
  | cons x r =>
    unfold splitL
    split
    · simp
    · split <;> simp
theorem splitL_len (c : UInt8) : ∀ (s : List UInt8), ∀ p ∈ splitL c s, p.length ≤ s.length
  | [], p, hp => by simp [splitL] at hp; simp [hp]
  | x :: r, p, hp => by
    unfold splitL at hp
    by_cases h : x = c
    · rw [if_pos h] at hp
      rcases List.mem_cons.1 hp with rfl | hp
      · simp
      · have := splitL_len c r p hp
        simp only [List.length_cons]
        omega
    · rw [if_neg h] at hp
      cases hs : splitL c r with
      | nil => exact absurd hs (splitL_ne c r)
      | cons q qs =>
        rw [hs] at hp
        simp only at hp
        rcases List.mem_cons.1 hp with rfl | hp
        · have := splitL_len c r q (by rw [hs]; simp)
          simp only [List.length_cons]
          omega
        · have := splitL_len c r p (by rw [hs]; simp [hp])
          simp only [List.length_cons]
          omega
theorem indexByte_cases (c : UInt8) (s : List UInt8) : (Lib.indexByte s c = -1 ∧ splitL c s = [s] ∧ c ∉ s) ∨ ∃ i : Nat, Lib.indexByte s c = (i : Int) ∧ i < s.length ∧ s[i]? = some c ∧ c ∉ s.take i ∧ splitL c s = s.take i :: splitL c (s.drop (i + 1)) := by
  induction s with
  | nil => exact .inl ⟨rfl, rfl, by simp⟩
  | cons x r ih =>
    by_cases h : x = c
    · subst h
      refine .inr ⟨0, ?_, by simp, rfl, by simp, ?_⟩
      · simp [Lib.indexByte]
      · simp [splitL]
    · have hb : (x == c) = false := by simpa using h
      rcases ih with ⟨h1, h2, h3⟩ | ⟨i, h1, h2, h3, h4, h5⟩
      · refine .inl ⟨?_, ?_, ?_⟩
        · simp [Lib.indexByte, hb, h1]
        · unfold splitL; rw [if_neg h, h2]
        · simp [h3]; exact fun e => h e.symm
      · refine .inr ⟨i + 1, ?_, by simpa using h2, by simpa using h3, ?_, ?_⟩
        · have h0 : (Lib.indexByte r c == -1) = false := by rw [h1, beq_eq_false_iff_ne]; omega
          simp only [Lib.indexByte, hb, h0, h1]
          simp
        · simp [h4]; exact fun e => h e.symm
        · rw [List.take_succ_cons, List.drop_succ_cons]
          conv => lhs; unfold splitL
          rw [if_neg h, h5]
end Go.Proofs.YthnakiihenbcjaaDoor
