/- Plain functions: numbers and texts in bytes and decimals (layer 1). Nothing of the program. -/
namespace Go.Proofs.YtfffjaijflbeaaaDoor
set_option linter.unusedSimpArgs false
set_option linter.unusedVariables false
def maxNum : Nat := 1099511627776
/-- digits of base 128, the highest first, none for 0; f: as many as there may be -/
def digs : Nat → Nat → List Nat
  | 0, _ => []
  | f + 1, m => if m = 0 then [] else digs f (m / 128) ++ [m % 128]
def hi (d : Nat) : UInt8 := UInt8.ofNat (d + 128)
/-- a number's bytes -/
def putN (n : Nat) : List UInt8 := (digs 6 (n / 128)).map hi ++ [UInt8.ofNat (n % 128)]
def putL (n : Int) : List UInt8 := if 0 ≤ n ∧ n ≤ 1099511627776 then putN n.toNat else []
def val (l : List UInt8) : Nat := l.foldl (fun a c => 128 * a + c.toNat % 128) 0
def low (l : List UInt8) : Option Nat := (l.take 6).findIdx? (fun c => decide (c.toNat < 128))
def getL (l : List UInt8) : Option (Nat × Nat) :=
  match low l with
  | none => none
  | some e => if l.headD 0 = 128 ∨ maxNum < val (l.take (e + 1)) then none else some (val (l.take (e + 1)), e + 1)
def textL (s : List UInt8) : List UInt8 := if 255 < s.length then [] else UInt8.ofNat s.length :: s
def readL : List UInt8 → Option (List UInt8 × Nat)
  | [] => none
  | c :: r => if r.length < c.toNat then none else some (r.take c.toNat, c.toNat + 1)

theorem digs_zero (f : Nat) : digs f 0 = [] := by cases f <;> simp [digs]
theorem digs_pos {f m : Nat} (h : m ≠ 0) : digs (f + 1) m = digs f (m / 128) ++ [m % 128] := by simp [digs, h]
/-- more room than a number needs gives the same digits -/
theorem digs_more (f k m : Nat) (h : m < 128 ^ f) : digs (f + k) m = digs f m := by
  induction f generalizing m with
  | zero =>
    have : m = 0 := by simpa using h
    subst this
    rw [digs_zero, digs_zero]
  | succ f ih =>
    by_cases h0 : m = 0
    · subst h0; rw [digs_zero, digs_zero]
    · rw [show f + 1 + k = (f + k) + 1 by omega, digs_pos h0, digs_pos h0, ih]
      rw [Nat.pow_succ] at h
      exact Nat.div_lt_of_lt_mul (by rw [Nat.mul_comm]; exact h)
theorem digs_lt (f m : Nat) : ∀ d ∈ digs f m, d < 128 := by
  induction f generalizing m with
  | zero => simp [digs]
  | succ f ih =>
    intro d hd
    unfold digs at hd
    split at hd
    · simp at hd
    · rcases List.mem_append.1 hd with h | h
      · exact ih _ _ h
      · simp at h; omega
theorem digs_length_le (f m : Nat) : (digs f m).length ≤ f := by
  induction f generalizing m with
  | zero => simp [digs]
  | succ f ih =>
    unfold digs
    split
    · simp
    · simp; exact ih _
theorem digs_nil {f m : Nat} (h : digs (f + 1) m = []) : m = 0 := by
  unfold digs at h
  split at h
  · assumption
  · simp at h
theorem putN_ne (n : Nat) : putN n ≠ [] := by simp [putN]
theorem putN_length_le (n : Nat) : (putN n).length ≤ 7 := by
  have := digs_length_le 6 (n / 128)
  simp [putN]; omega
theorem low_lt {l : List UInt8} {e : Nat} (h : low l = some e) : e < l.length ∧ e < 6 := by
  unfold low at h
  rw [List.findIdx?_eq_some_iff_getElem] at h
  obtain ⟨h1, _⟩ := h
  simp at h1
  omega
theorem val_snoc (l : List UInt8) (c : UInt8) : val (l ++ [c]) = 128 * val l + c.toNat % 128 := by simp [val]
theorem val_lt (l : List UInt8) : val l < 128 ^ l.length := by
  suffices h : ∀ (l : List UInt8) a k, a < 128 ^ k → l.foldl (fun a c => 128 * a + c.toNat % 128) a < 128 ^ (k + l.length) by
    have := h l 0 0 (by simp)
    simpa [val] using this
  intro l
  induction l with
  | nil => intro a k h; simpa using h
  | cons c r ih =>
    intro a k h
    have : 128 * a + c.toNat % 128 < 128 ^ (k + 1) := by rw [Nat.pow_succ]; omega
    have := ih _ _ this
    simp only [List.foldl_cons, List.length_cons]
    rw [show k + (r.length + 1) = k + 1 + r.length by omega]
    exact this
theorem getL_le {l : List UInt8} {n k : Nat} (h : getL l = some (n, k)) : n ≤ maxNum ∧ 1 ≤ k ∧ k ≤ l.length ∧ k ≤ 6 := by
  unfold getL at h
  split at h
  · cases h
  · rename_i e he
    have := low_lt he
    split at h
    · cases h
    · rename_i hn
      simp only [Option.some.injEq, Prod.mk.injEq] at h
      obtain ⟨rfl, rfl⟩ := h
      omega
theorem readL_le {l s : List UInt8} {k : Nat} (h : readL l = some (s, k)) : 1 ≤ k ∧ k ≤ l.length ∧ s.length + 1 = k ∧ s.length ≤ 255 := by
  cases l with
  | nil => cases h
  | cons c r =>
    by_cases hc : r.length < c.toNat
    · rw [readL, if_pos hc] at h; cases h
    · rw [readL, if_neg hc] at h
      injection h with h
      injection h with h1 h2
      subst h1 h2
      have := c.toNat_lt
      simp only [List.length_cons, List.length_take]
      omega
end Go.Proofs.YtfffjaijflbeaaaDoor
