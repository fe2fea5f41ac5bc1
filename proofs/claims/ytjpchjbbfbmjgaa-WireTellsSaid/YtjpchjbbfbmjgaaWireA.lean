/- Walks of wire: kinds, kind, word, number, Right. -/
import Derived.Test.YtjpchjbbfbmjgaaBase
import Derived.Test.YtjpchjbbfbmjgaaWireSpec
namespace Go.Proofs.Ytjpchjbbfbmjgaa
set_option linter.unusedSimpArgs false
set_option linter.unusedVariables false
open Go.RowKit
set_option maxHeartbeats 400000 in
theorem word_any (s : ByteArray) (b : Bool) (w : World) (hs : s.size ≤ maxLen) :
    Calls Try.prog 30 #[.string s, .bool b] w fun e w' => e = .returned (.bool (wordB s b)) ∧ w = w' := by
  unfold maxLen at hs
  by_cases h : s.size ≤ 64
  · have h' : (s.size : Int) ≤ 64 := by omega
    go_enter Try.func30, Try.ntmps30
    go_wp2
    all_goals go_ret
    all_goals exact ⟨ret_bool (by simp_all [wordB, ByteArray.toList_eq]), rfl⟩
  · have h' : ¬ (s.size : Int) ≤ 64 := by omega
    go_enter Try.func30, Try.ntmps30
    go_wp2
    go_ret
    exact ⟨ret_bool (by simp [wordB, h]), rfl⟩
set_option maxHeartbeats 400000 in
theorem number_any (n : Int) (b : Bool) (w : World) :
    Calls Try.prog 31 #[.int .i64 n, .bool b] w fun e w' => e = .returned (.bool (numB n b)) ∧ w = w' := by
  go_enter Try.func31, Try.ntmps31
  go_wp2
  all_goals go_ret
  all_goals refine ⟨ret_bool ?_, rfl⟩
  all_goals simp_all [numB]
  all_goals omega
def kindsA : Array Value := #[.int .i64 16, .int .i64 3, .int .i64 1, .int .i64 1, .int .i64 0, .int .i64 4, .int .i64 5, .int .i64 13, .int .i64 13, .int .i64 5, .int .i64 5, .int .i64 3, .int .i64 2, .int .i64 0, .int .i64 1]
theorem kinds_any (w : World) :
    Calls Try.prog 38 #[] w fun e w' => e = .returned (.agg kindsA) ∧ Below w.heap.size w w' := by
  go_enter Try.func38, Try.ntmps38
  go_wp2
  exact bodyPost_ret (v := .agg kindsA) (results_cell_row rfl _ _ w.heap.size 57 kindsA (0, 0) _ rfl (heap_alloc_new w _) Try.underlying57 rfl (by kernel_rfl)) rfl ⟨rfl, (Below.refl _ _).alloc (Nat.le_refl _) _⟩
theorem kinds_index (k : Int) (h0 : 0 ≤ k) (h : k ≤ 14) (w : World) : (Instr.index 57 (.agg kindsA) (.int .i64 k)).run Try.prog w = .ok (.int .i64 (kbits k)) w := by
  obtain ⟨n, rfl⟩ := Int.eq_ofNat_of_zero_le h0
  have : n = 0 ∨ n = 1 ∨ n = 2 ∨ n = 3 ∨ n = 4 ∨ n = 5 ∨ n = 6 ∨ n = 7 ∨ n = 8 ∨ n = 9 ∨ n = 10 ∨ n = 11 ∨ n = 12 ∨ n = 13 ∨ n = 14 := by omega
  rcases this with rfl | rfl | rfl | rfl | rfl | rfl | rfl | rfl | rfl | rfl | rfl | rfl | rfl | rfl | rfl <;> (show _ = _; kernel_rfl)
theorem kbits_out (k : Int) (h : k < 0 ∨ 14 < k) : kbits k = 16 := by unfold kbits; rw [if_pos h]
theorem kind_any (k : Int) (w : World) :
    Calls Try.prog 25 #[.int .i64 k] w fun e w' => e = .returned (.int .i64 (kbits k)) ∧ Below w.heap.size w w' := by
  by_cases h0 : k < 0
  · have e := kbits_out k (.inl h0)
    have E := Lib.hid e; clear e
    go_enter Try.func25, Try.ntmps25
    go_wp2
    go_ret
    exact ⟨ret_int E.out.symm, Below.refl _ _⟩
  · have h0' : 0 ≤ k := by omega
    by_cases h1 : 14 < k
    · have e := kbits_out k (.inr h1)
      have E := Lib.hid e; clear e
      go_enter Try.func25, Try.ntmps25
      go_wp2
      go_ret
      exact ⟨ret_int E.out.symm, Below.refl _ _⟩
    · have hi := kinds_index k h0' (by omega)
      go_enter Try.func25, Try.ntmps25
      go_wp2_with (go_at_call 38; refine (kinds_any _).mono ?_; rintro e w' ⟨rfl, hb⟩)
      go_ret
      exact ⟨rfl, ‹Below _ _ _›⟩

/-- a message as a value -/
def msgV (k : Int) (a b : ByteArray) (n m : Int) : Value := .agg #[.int .i64 k, .string a, .string b, .int .i64 n, .int .i64 m]
theorem and1 (k : Int) : decide (0 < bits .and .i64 (kbits k) 1) = hasA k := by
  unfold hasA
  rcases kbits_cases k with ⟨h, e⟩ | ⟨h, e⟩
  · rw [e]; rfl
  · simp only [List.mem_cons, List.not_mem_nil, or_false] at e
    rcases e with e | e | e | e | e | e | e <;> rw [e] <;> rfl
theorem and2 (k : Int) : decide (0 < bits .and .i64 (kbits k) 2) = hasB k := by
  unfold hasB
  rcases kbits_cases k with ⟨h, e⟩ | ⟨h, e⟩
  · rw [e]; rfl
  · simp only [List.mem_cons, List.not_mem_nil, or_false] at e
    rcases e with e | e | e | e | e | e | e <;> rw [e] <;> rfl
theorem and4 (k : Int) : decide (0 < bits .and .i64 (kbits k) 4) = hasN k := by
  unfold hasN
  rcases kbits_cases k with ⟨h, e⟩ | ⟨h, e⟩
  · rw [e]; rfl
  · simp only [List.mem_cons, List.not_mem_nil, or_false] at e
    rcases e with e | e | e | e | e | e | e <;> rw [e] <;> rfl
theorem and8 (k : Int) : decide (0 < bits .and .i64 (kbits k) 8) = hasM k := by
  unfold hasM
  rcases kbits_cases k with ⟨h, e⟩ | ⟨h, e⟩
  · rw [e]; rfl
  · simp only [List.mem_cons, List.not_mem_nil, or_false] at e
    rcases e with e | e | e | e | e | e | e <;> rw [e] <;> rfl
set_option maxHeartbeats 1000000 in
theorem right_any (k n m : Int) (a b : ByteArray) (w : World) (ha : a.size ≤ maxLen) (hb : b.size ≤ maxLen) :
    Calls Try.prog 13 #[msgV k a b n m] w fun e w' => e = .returned (.bool (rightB k a b n m)) ∧ Below w.heap.size w w' := by
  unfold msgV
  go_enter Try.func13, Try.ntmps13
  go_wp2_with (first | (go_at_call 25; refine (kind_any _ _).mono ?_; rintro e w1 ⟨rfl, hb1⟩; obtain ⟨hc, hf⟩ := bcell hb1; have hz := hb1.size) | (go_at_call 30; refine (word_any _ _ _ (by assumption)).mono ?_; rintro e w2 ⟨rfl, rfl⟩) | (go_at_call 31; refine (number_any _ _ _).mono ?_; rintro e w2 ⟨rfl, rfl⟩))
  all_goals go_ret
  all_goals refine ⟨ret_bool ?_, ?_⟩
  all_goals first
    | (simp only [rightB, ← isKind_eq, ← and1, ← and2, ← and4, ← and8]; simp_all; done)
    | exact (((Below.refl _ _).alloc (Nat.le_refl _) _).trans (Below.mono (by assumption) (by simp)))
end Go.Proofs.Ytjpchjbbfbmjgaa
