/- Decimals: what they are of a number, and which number they are of. Nothing of the program. -/
import Derived.Test.YtfffjaijflbeaaaDoorNumLaw
import Derived.Lib.ItoaNum
import Derived.Lib.ItoaMem
namespace Go.Proofs.YtfffjaijflbeaaaDoor
set_option linter.unusedSimpArgs false
set_option linter.unusedVariables false
open Go.Lib (decDigits)
def decL (n : Int) : List UInt8 := if 0 ≤ n ∧ n ≤ 1099511627776 then decDigits n.toNat else []
def isDig (c : UInt8) : Bool := decide (48 ≤ c.toNat) && decide (c.toNat ≤ 57)
def dval (l : List UInt8) : Nat := l.foldl (fun a c => 10 * a + (c.toNat - 48)) 0
def parseL (s : List UInt8) : Option Nat := if s.all isDig = true ∧ dval s ≤ maxNum ∧ decDigits (dval s) = s then some (dval s) else none
def parseD (x : Option Nat) : Int × Bool := match x with | none => (0, false) | some n => ((n : Int), true)
theorem dec_small {u : Nat} (h : u < 10) : decDigits u = [UInt8.ofNat (48 + u)] := by rw [decDigits, dif_pos h]
theorem dec_big {u : Nat} (h : ¬ u < 10) : decDigits u = decDigits (u / 10) ++ [UInt8.ofNat (48 + u % 10)] := by rw [decDigits, dif_neg h]
theorem dval_snoc (l : List UInt8) (c : UInt8) : dval (l ++ [c]) = 10 * dval l + (c.toNat - 48) := by simp [dval]
theorem dig_toNat {d : Nat} (h : d < 10) : (UInt8.ofNat (48 + d)).toNat = 48 + d := by simp; omega
theorem dval_dec (n : Nat) : dval (decDigits n) = n := by
  induction n using Nat.strongRecOn with
  | _ n ih =>
    by_cases h : n < 10
    · rw [dec_small h]
      show 10 * 0 + ((UInt8.ofNat (48 + n)).toNat - 48) = n
      rw [dig_toNat h]
      omega
    · rw [dec_big h, dval_snoc, ih (n / 10) (by omega), dig_toNat (by omega)]
      omega
theorem isDig_of {d : Nat} (h : d < 10) : isDig (UInt8.ofNat (48 + d)) = true := by
  unfold isDig
  rw [dig_toNat h]
  simp
  omega
theorem dec_all (n : Nat) : (decDigits n).all isDig = true := by
  induction n using Nat.strongRecOn with
  | _ n ih =>
    by_cases h : n < 10
    · rw [dec_small h, List.all_cons, isDig_of h]
      rfl
    · rw [dec_big h, List.all_append, ih (n / 10) (by omega)]
      rw [List.all_cons, isDig_of (show n % 10 < 10 by omega)]
      rfl
theorem dec_ne (n : Nat) : decDigits n ≠ [] := by
  by_cases h : n < 10
  · rw [dec_small h]; simp
  · rw [dec_big h]; simp
theorem dec_head {n : Nat} (h0 : n ≠ 0) : (decDigits n).headD 0 ≠ 48 := by
  induction n using Nat.strongRecOn with
  | _ n ih =>
    by_cases h : n < 10
    · rw [dec_small h]
      intro e
      have := congrArg UInt8.toNat e
      simp only [List.headD_cons] at this
      rw [dig_toNat h] at this
      have h48 : (48 : UInt8).toNat = 48 := rfl
      omega
    · rw [dec_big h]
      have := ih (n / 10) (by omega) (by omega)
      cases hd : decDigits (n / 10) with
      | nil => exact absurd hd (dec_ne _)
      | cons c r => rw [hd] at this; simpa using this
theorem dec_len {n k : Nat} (hk : 1 ≤ k) (h : n < 10 ^ k) : (decDigits n).length ≤ k := by
  induction k generalizing n with
  | zero => omega
  | succ k ih =>
    by_cases hs : n < 10
    · rw [dec_small hs]; simp
    · rw [dec_big hs, List.length_append, List.length_singleton]
      have hk1 : 1 ≤ k := by
        rcases Nat.eq_zero_or_pos k with rfl | h1
        · exact absurd (by simpa using h) hs
        · exact h1
      have := ih hk1 (n := n / 10) (by rw [Nat.pow_succ] at h; omega)
      omega
theorem dec_len13 {n : Nat} (h : n ≤ maxNum) : (decDigits n).length ≤ 13 := dec_len (by omega) (by
  have : (10 : Nat) ^ 13 = 10000000000000 := by decide
  unfold maxNum at h
  omega)
theorem dval_app (l m : List UInt8) : dval l ≤ dval (l ++ m) := by
  unfold dval
  rw [List.foldl_append]
  suffices h : ∀ (m : List UInt8) (a : Nat), a ≤ m.foldl (fun a c => 10 * a + (c.toNat - 48)) a by exact h m _
  intro m
  induction m with
  | nil => intro a; exact Nat.le_refl _
  | cons c m ih => intro a; rw [List.foldl_cons]; exact Nat.le_trans (by omega) (ih _)
theorem dval_pos {c : UInt8} (xs : List UInt8) (h : 48 < c.toNat) : 0 < dval (c :: xs) := by
  have := dval_app [c] xs
  have e : dval [c] = 10 * 0 + (c.toNat - 48) := rfl
  rw [List.singleton_append] at this
  omega
/-- digits without a nought ahead are those of their number -/
theorem dec_dval (s : List UInt8) (hd : s.all isDig = true) (hne : s ≠ []) (hh : s.headD 0 ≠ 48 ∨ s.length = 1) : decDigits (dval s) = s := by
  suffices H : ∀ (k : Nat) (s : List UInt8), s.length = k → s.all isDig = true → s ≠ [] → (s.headD 0 ≠ 48 ∨ s.length = 1) → decDigits (dval s) = s by exact H _ s rfl hd hne hh
  intro k
  induction k with
  | zero => intro s h _ hne; exact absurd (List.length_eq_zero_iff.1 h) hne
  | succ k ih =>
    intro s hk hd hne hh
    rcases List.eq_nil_or_concat s with rfl | ⟨ys, c, rfl⟩
    · exact absurd rfl hne
    · simp only [List.concat_eq_append] at hk hd hh ⊢
      rw [List.all_append, Bool.and_eq_true] at hd
      have hc : 48 ≤ c.toNat ∧ c.toNat ≤ 57 := by
        have := hd.2
        simpa [isDig] using this
      have ec : UInt8.ofNat (48 + (c.toNat - 48)) = c := UInt8.toNat_inj.1 (by rw [dig_toNat (by omega)]; omega)
      rw [dval_snoc]
      cases ys with
      | nil =>
        have e0 : dval [] = 0 := rfl
        rw [e0, dec_small (by omega), show 10 * 0 + (c.toNat - 48) = c.toNat - 48 by omega, ec]
        rfl
      | cons y ys =>
        have hy : y ≠ 48 := by
          rcases hh with h | h
          · simpa using h
          · simp at h
        have hy2 : 48 ≤ y.toNat := by
          have := hd.1
          simp [isDig] at this
          exact this.1.1
        have hy3 : 48 < y.toNat := by
          rcases Nat.lt_or_ge 48 y.toNat with h | h
          · exact h
          · exact absurd (UInt8.toNat_inj.1 (show y.toNat = (48 : UInt8).toNat from by have h48 : (48 : UInt8).toNat = 48 := rfl; omega)) hy
        have hp := dval_pos ys hy3
        have hi := ih (y :: ys) (by simpa using hk) hd.1 (by simp) (.inl (by simpa using hy))
        rw [dec_big (by omega), show (10 * dval (y :: ys) + (c.toNat - 48)) / 10 = dval (y :: ys) by omega, show (10 * dval (y :: ys) + (c.toNat - 48)) % 10 = c.toNat - 48 by omega, hi, ec]
theorem parse_dec {n : Nat} (h : n ≤ maxNum) : parseL (decDigits n) = some n := by
  unfold parseL
  rw [dval_dec, if_pos ⟨dec_all n, h, rfl⟩]
theorem dec_parse {s : List UInt8} {n : Nat} (h : parseL s = some n) : decDigits n = s ∧ n ≤ maxNum := by
  unfold parseL at h
  split at h
  · rename_i hc
    injection h with h
    subst h
    exact ⟨hc.2.2, hc.2.1⟩
  · cases h
theorem dval_step {l : List UInt8} {k : Nat} (hk : k < l.length) : dval (l.take (k + 1)) = 10 * dval (l.take k) + (l[k].toNat - 48) := by
  rw [List.take_succ_eq_append_getElem hk, dval_snoc]
theorem all_step {l : List UInt8} {k : Nat} (hk : k < l.length) (h : (l.take k).all isDig = true) (hx : isDig l[k] = true) : (l.take (k + 1)).all isDig = true := by
  rw [List.take_succ_eq_append_getElem hk, List.all_append, h]
  simp [hx]
theorem parse_not {l : List UInt8} {k : Nat} (hk : k < l.length) (hx : isDig l[k] = false) : parseL l = none := by
  unfold parseL
  rw [if_neg]
  rintro ⟨h, _⟩
  rw [List.all_eq_true] at h
  rw [h _ (List.getElem_mem hk)] at hx
  cases hx
theorem parse_great {l : List UInt8} {k : Nat} (h : maxNum < dval (l.take k)) : parseL l = none := by
  unfold parseL
  rw [if_neg]
  rintro ⟨_, h2, _⟩
  have := dval_app (l.take k) (l.drop k)
  rw [List.take_append_drop] at this
  omega
end Go.Proofs.YtfffjaijflbeaaaDoor
