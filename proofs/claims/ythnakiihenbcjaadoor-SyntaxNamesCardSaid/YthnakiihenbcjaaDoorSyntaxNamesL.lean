/- The plain law of SyntaxNames. -/
import Derived.Test.YthnakiihenbcjaaDoorLSyntaxNames
import Derived.Test.YthnakiihenbcjaaDoorSynHead
namespace Go.Proofs.YthnakiihenbcjaaDoor
set_option linter.unusedSimpArgs false
set_option linter.unusedVariables false
theorem let_ne45 (c : UInt8) : (isNm c && !(c == 45)) = isLet c := by
  unfold isNm
  by_cases h : c = 45
  · subst h; decide
  · rw [show (c == 45) = false by simpa using h]; simp
theorem nameB_snoc (s : List UInt8) (c : UInt8) (hs : s ≠ []) : nameB (s ++ [c]) = (decide (s.length < 20) && s.all isNm && !(s.headD 0 == 45) && isLet c) := by
  unfold nameB
  rw [← let_ne45 c]
  have h1 : (s ++ [c]).length = s.length + 1 := by simp
  have h2 : (s ++ [c]).headD 0 = s.headD 0 := by cases s with | nil => exact absurd rfl hs | cons x r => rfl
  have h3 : (s ++ [c]).getLastD 0 = c := by rw [List.getLastD_eq_getLast?]; simp
  have h4 : (s ++ [c]).all isNm = (s.all isNm && isNm c) := by simp
  rw [h1, h2, h3, h4, decide_eq_true (by omega : 1 ≤ s.length + 1), show decide (s.length + 1 ≤ 20) = decide (s.length < 20) by rw [decide_eq_decide]; omega]
  cases decide (s.length < 20) <;> cases s.all isNm <;> cases isNm c <;> cases s.headD 0 == 45 <;> cases c == 45 <;> rfl
theorem nameB_cons45 (s : List UInt8) : nameB (45 :: s) = false := by
  unfold nameB
  rw [show (List.headD (45 :: s) 0 == 45) = true from rfl]
  simp
theorem nameB_one (c : UInt8) : nameB [c] = isLet c := by
  rw [← let_ne45 c]
  unfold nameB
  simp only [List.length_cons, List.length_nil, List.all_cons, List.all_nil, List.headD_cons]
  rw [show List.getLastD [c] 0 = c from rfl]
  cases isNm c <;> cases c == 45 <;> rfl
theorem nameB_parts {s : List UInt8} (h : nameB s = true) : s.all isNm = true ∧ (s.headD 0 == 45) = false ∧ s.length ≤ 20 ∧ s ≠ [] := by
  unfold nameB at h
  simp only [Bool.and_eq_true, decide_eq_true_eq, Bool.not_eq_true'] at h
  obtain ⟨⟨⟨⟨h1, h2⟩, h3⟩, h4⟩, h5⟩ := h
  exact ⟨h3, h4, h2, fun e => by subst e; simp at h1⟩
theorem names_k1 (s : List UInt8) (c : UInt8) (hs : s.length ≤ 1000) : L_subwaylaw04_SyntaxNames_k1 s c true (isLet c) = some true := by
  unfold L_subwaylaw04_SyntaxNames_k1 L_subwaylaw04_SyntaxNames_k2 L_subwaylaw04_SyntaxNames_k3
  rw [lName s (by omega)]
  simp only [Option.bind_some]
  by_cases h0 : s = []
  · subst h0
    rw [lName [c] (by simp), nameB_one]
    show (cond true (cond true ((some (isLet c)).bind fun z41 => some (z41 == isLet c)) _) _) = _
    simp
  · have hne : (s == ([] : List UInt8)) = false := by simpa using h0
    rw [hne]
    simp only [cond_false, cond_true]
    cases hn : nameB s with
    | false => rfl
    | true =>
      obtain ⟨p1, p2, p3, p4⟩ := nameB_parts hn
      have e1 := nameB_snoc s c h0
      have e2 := nameB_snoc s 45 h0
      have e3 := nameB_snoc (s ++ [45]) c (by simp)
      have hall : (s ++ ([45] : List UInt8)).all isNm = true := by simp [p1]; decide
      have hhd : (s ++ ([45] : List UInt8)).headD 0 = s.headD 0 := by cases s with | nil => exact absurd rfl h0 | cons x r => rfl
      rw [p1, p2] at e1 e2
      rw [hall, hhd, p2, show (s ++ ([45] : List UInt8)).length = s.length + 1 by simp] at e3
      rw [let45] at e2
      have a1 : app s [c] = some (s ++ [c]) := app_ok (by simp only [List.length_cons, List.length_nil]; omega)
      have a2 : app s ([45] : List UInt8) = some (s ++ [45]) := app_ok (by simp only [List.length_cons, List.length_nil]; omega)
      have a3 : app ([45] : List UInt8) s = some ([45] ++ s) := app_ok (by simp only [List.length_cons, List.length_nil]; omega)
      have a4 : app (s ++ [45]) [c] = some (s ++ [45] ++ [c]) := app_ok (by simp only [List.length_append, List.length_cons, List.length_nil]; omega)
      have n1 : L_syntax_Name (s ++ [c]) = some (nameB (s ++ [c])) := lName _ (by simp only [List.length_append, List.length_cons, List.length_nil]; omega)
      have n2 : L_syntax_Name (s ++ [45]) = some (nameB (s ++ [45])) := lName _ (by simp only [List.length_append, List.length_cons, List.length_nil]; omega)
      have n3 : L_syntax_Name ([45] ++ s) = some false := by rw [lName _ (by simp only [List.length_append, List.length_cons, List.length_nil]; omega)]; exact congrArg some (nameB_cons45 s)
      have n4 : L_syntax_Name (s ++ [45] ++ [c]) = some (nameB (s ++ [45] ++ [c])) := lName _ (by simp only [List.length_append, List.length_cons, List.length_nil]; omega)
      have d1 : decide (((List.length s : Nat) : Int) < 20) = decide (s.length < 20) := by rw [decide_eq_decide]; omega
      have d2 : decide (((List.length s : Nat) : Int) < 19) = decide (s.length + 1 < 20) := by rw [decide_eq_decide]; omega
      simp only [Bool.not_true, cond_false, a1, a2, a3, a4, Option.bind_some, n1, n2, n3, n4, e1, e2, e3, d1, d2, Bool.and_true, Bool.not_false, Bool.and_false, cond_true]
      cases isLet c <;> cases decide (s.length < 20) <;> cases decide (s.length + 1 < 20) <;> rfl
theorem syntaxNames_true (s : List UInt8) (c : UInt8) : L_subwaylaw04_SyntaxNames s c = some true := by
  unfold L_subwaylaw04_SyntaxNames
  rw [synHead_true]
  simp only [Option.bind_some]
  by_cases hs : 1000 < s.length
  · rw [show decide (((List.length s : Nat) : Int) > 1000) = true by simp; omega]
    rfl
  · rw [show decide (((List.length s : Nat) : Int) > 1000) = false by simp; omega]
    have hk := names_k1 s c (by omega)
    simp only [cond_false]
    have e : isLet c = ((decide (97 ≤ c.toNat) && decide (c.toNat ≤ 122)) || (decide (48 ≤ c.toNat) && decide (c.toNat ≤ 57))) := rfl
    rw [show decide (((c.toNat : Nat) : Int) ≥ 97) = decide (97 ≤ c.toNat) by rw [decide_eq_decide]; omega, show decide (((c.toNat : Nat) : Int) ≤ 122) = decide (c.toNat ≤ 122) by rw [decide_eq_decide]; omega,
      show decide (((c.toNat : Nat) : Int) ≥ 48) = decide (48 ≤ c.toNat) by rw [decide_eq_decide]; omega, show decide (((c.toNat : Nat) : Int) ≤ 57) = decide (c.toNat ≤ 57) by rw [decide_eq_decide]; omega]
    rw [e] at hk
    revert hk
    cases decide (97 ≤ c.toNat) <;> cases decide (c.toNat ≤ 122) <;> cases decide (48 ≤ c.toNat) <;> cases decide (c.toNat ≤ 57) <;> intro hk <;> exact hk
end Go.Proofs.YthnakiihenbcjaaDoor
