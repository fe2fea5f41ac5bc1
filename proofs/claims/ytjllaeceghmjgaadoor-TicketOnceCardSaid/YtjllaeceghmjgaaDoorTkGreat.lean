/- Calls that are not too great; the ticket that a call shows. -/
import Derived.Test.YtjllaeceghmjgaaDoorTkSpec
import Derived.SizedLaws
namespace Go.Proofs.YtjllaeceghmjgaaDoor
set_option linter.unusedSimpArgs false
set_option linter.unusedVariables false
abbrev Op := Int × Int × Str × Str × Int × Str × Int × Str × Str
def OpQ (r : Nat) (o : Op) : Prop :=
  (Lit.int .i64 o.1).wf = true ∧ (Lit.int .i64 o.2.1).wf = true ∧ o.2.2.1.length ≤ r ∧ o.2.2.2.1.length ≤ r ∧ (Lit.int .i64 o.2.2.2.2.1).wf = true ∧ o.2.2.2.2.2.1.length ≤ r ∧ (Lit.int .i64 o.2.2.2.2.2.2.1).wf = true ∧ o.2.2.2.2.2.2.2.1.length ≤ r ∧ o.2.2.2.2.2.2.2.2.length ≤ r
def OpS (o : Op) : Prop := o.2.2.1.length ≤ 3000 ∧ o.2.2.2.1.length ≤ 3000 ∧ o.2.2.2.2.2.1.length ≤ 3000 ∧ o.2.2.2.2.2.2.2.1.length ≤ 3000 ∧ o.2.2.2.2.2.2.2.2.length ≤ 3000
theorem reach47 : reachBytes ≤ 140737488355328 := by decide
theorem great_loop (l : List Op) (hl : l.length ≤ reachBytes) (hq : ∀ o ∈ l, OpQ reachBytes o) :
    ∀ (d i f : Nat), d = min l.length 300 - i → i ≤ l.length → i ≤ 300 → d < f → (∀ o ∈ l.take i, OpS o) → ∃ b, L_subwaylaw15_great_l2 l f (i : Int) = some b ∧ (b = false → l.length ≤ 200 ∧ ∀ o ∈ l, OpS o) := by
  have h47 := reach47
  intro d
  induction d with
  | zero =>
    intro i f hd hi h3 hf hS
    obtain ⟨f, rfl⟩ : ∃ g, f = g + 1 := ⟨f - 1, by omega⟩
    show ∃ b, L_subwaylaw15_great_b2 (L_subwaylaw15_great_l2 l f) l (i : Int) = some b ∧ _
    unfold L_subwaylaw15_great_b2 L_subwaylaw15_great_k4
    by_cases hlt : i < l.length
    · rw [show decide ((i : Int) < ((l.length : Nat) : Int)) = true from decide_eq_true (by omega), cond_true, show decide ((i : Int) < 300) = false from decide_eq_false (by omega), cond_false]
      exact ⟨_, rfl, fun h => by rw [show decide (((l.length : Nat) : Int) > 200) = true from decide_eq_true (by omega)] at h; cases h⟩
    · rw [show decide ((i : Int) < ((l.length : Nat) : Int)) = false from decide_eq_false (by omega), cond_false, cond_false]
      refine ⟨_, rfl, fun h => ?_⟩
      have := of_decide_eq_false h
      rw [List.take_of_length_le (by omega)] at hS
      exact ⟨by omega, hS⟩
  | succ d ih =>
    intro i f hd hi h3 hf hS
    obtain ⟨f, rfl⟩ : ∃ g, f = g + 1 := ⟨f - 1, by omega⟩
    show ∃ b, L_subwaylaw15_great_b2 (L_subwaylaw15_great_l2 l f) l (i : Int) = some b ∧ _
    unfold L_subwaylaw15_great_b2 L_subwaylaw15_great_k4
    have hlt : i < l.length := by omega
    obtain ⟨q1, q2, q3, q4, q5, q6, q7, q8, q9⟩ := hq l[i] (List.getElem_mem hlt)
    rw [show decide ((i : Int) < ((l.length : Nat) : Int)) = true from decide_eq_true (by omega), cond_true, show decide ((i : Int) < 300) = true from decide_eq_true (by omega), cond_true]
    simp only [idx_get hlt, Option.bind_some]
    generalize hx : l[i] = x at *
    rw [wrap64 (x := ((x.2.2.1.length : Nat) : Int) + ((x.2.2.2.1.length : Nat) : Int)) (by omega), wrap64 (x := ((x.2.2.1.length : Nat) : Int) + ((x.2.2.2.1.length : Nat) : Int) + ((x.2.2.2.2.2.1.length : Nat) : Int)) (by omega),
      wrap64 (x := ((x.2.2.1.length : Nat) : Int) + ((x.2.2.2.1.length : Nat) : Int) + ((x.2.2.2.2.2.1.length : Nat) : Int) + ((x.2.2.2.2.2.2.2.1.length : Nat) : Int)) (by omega),
      wrap64 (x := ((x.2.2.1.length : Nat) : Int) + ((x.2.2.2.1.length : Nat) : Int) + ((x.2.2.2.2.2.1.length : Nat) : Int) + ((x.2.2.2.2.2.2.2.1.length : Nat) : Int) + ((x.2.2.2.2.2.2.2.2.length : Nat) : Int)) (by omega)]
    by_cases hg : ((x.2.2.1.length : Nat) : Int) + ((x.2.2.2.1.length : Nat) : Int) + ((x.2.2.2.2.2.1.length : Nat) : Int) + ((x.2.2.2.2.2.2.2.1.length : Nat) : Int) + ((x.2.2.2.2.2.2.2.2.length : Nat) : Int) > 3000
    · rw [decide_eq_true hg, cond_true]
      exact ⟨true, rfl, fun h => by cases h⟩
    · rw [decide_eq_false hg, cond_false, show ((i : Int) + 1) = ((i + 1 : Nat) : Int) by omega, wrap64 (by omega)]
      refine ih (i + 1) f (by omega) (by omega) (by omega) (by omega) fun o ho => ?_
      rw [List.take_add_one, List.getElem?_eq_getElem hlt, List.mem_append] at ho
      rcases ho with ho | ho
      · exact hS o ho
      · simp only [Option.toList_some, List.mem_singleton] at ho
        subst ho
        rw [hx]
        exact ⟨by omega, by omega, by omega, by omega, by omega⟩
theorem ops_great (l : List Op) (hl : l.length ≤ reachBytes) (hq : ∀ o ∈ l, OpQ reachBytes o) : ∃ b, L_subwaylaw15_great l = some b ∧ (b = false → l.length ≤ 200 ∧ ∀ o ∈ l, OpS o) :=
  great_loop l hl hq _ 0 fuel rfl (by omega) (by omega) (by unfold fuel; omega) (fun o ho => by simp at ho)
theorem shown_ok (a b : Int) (c d : Str) (e : Int) (g : Str) (at' : Int) (text h : Str) (told : List Str) : ∃ s, L_subwaylaw15_shown a b c d e g at' text h told = some s := by
  unfold L_subwaylaw15_shown L_subwaylaw15_shown_k1
  by_cases h1 : at' ≥ 0
  · rw [decide_eq_true h1, cond_true]
    by_cases h2 : at' < ((told.length : Nat) : Int)
    · rw [decide_eq_true h2, cond_true, show at' = ((at'.toNat : Nat) : Int) by omega, idx_get (by omega)]
      exact ⟨_, rfl⟩
    · rw [decide_eq_false h2, cond_false]
      exact ⟨_, rfl⟩
  · rw [decide_eq_false h1, cond_false, cond_false]
    exact ⟨_, rfl⟩
/-! what the calls leave -/
theorem redeemL_left (key : Str) (n : Int) (l : List Tk) (s tn : Str) : ∃ a b c d e l', redeemL key n l s tn = (a, b, c, d, e, key, n, l') ∧ l'.length ≤ l.length := by
  unfold redeemL
  split
  · exact ⟨_, _, _, _, _, _, rfl, Nat.le_refl _⟩
  · split
    · exact ⟨_, _, _, _, _, _, rfl, List.length_eraseIdx_le _ _⟩
    · exact ⟨_, _, _, _, _, _, rfl, Nat.le_refl _⟩
theorem voidL_left (key : Str) (n : Int) (l : List Tk) (v : Int) : ∃ a l', voidL key n l v = (a, key, n, l') ∧ l'.length ≤ l.length := by
  unfold voidL
  split
  · exact ⟨_, _, rfl, Nat.le_refl _⟩
  · exact ⟨_, _, rfl, List.length_eraseIdx_le _ _⟩
theorem issueL_left (key : Str) (n : Int) (l : List Tk) (v : Int) (nm tn : Str) (ep : Int) (dr : Str) (h : l.length ≤ 64) : ∃ s e n' l', issueL key n l v nm tn ep dr = (s, e, key, n', l') ∧ l'.length ≤ 64 ∧ n ≤ n' ∧ n' ≤ n + 1 := by
  unfold issueL
  split
  · exact ⟨_, _, _, _, rfl, h, by omega, by omega⟩
  · split
    · exact ⟨_, _, _, _, rfl, h, by omega, by omega⟩
    · exact ⟨_, _, _, _, rfl, by simp; omega, by omega, by omega⟩
theorem ref_new (key : Str) : L_subwayref15_New key = some (key, 0, []) := rfl
theorem many_ok (key : Str) (n : Int) (l : List Tk) : L_ticket_Book_Many key n l = some ((l.length : Nat) : Int) := rfl
end Go.Proofs.YtjllaeceghmjgaaDoor
