/- Plain functions: what the messages' layer reckons. Nothing of the program. -/
import Derived.Test.YtjpchjbbfbmjgaaNumSpec
namespace Go.Proofs.Ytjpchjbbfbmjgaa
set_option linter.unusedSimpArgs false
set_option linter.unusedVariables false
def bitsList : List Int := [16, 3, 1, 1, 0, 4, 5, 13, 13, 5, 5, 3, 2, 0, 1]
/-- what a kind has, as bits; 16: none -/
def kbits (k : Int) : Int := if k < 0 ∨ 14 < k then 16 else bitsList.getD k.toNat 0
def wordB (s : ByteArray) (b : Bool) : Bool := decide (s.size ≤ 64) && (b || s.data.toList.isEmpty)
def numB (n : Int) (b : Bool) : Bool := decide (0 ≤ n) && decide (n ≤ 1099511627776) && (b || n == 0)
def hasA (k : Int) : Bool := kbits k ∈ [1, 3, 5, 13]
def hasB (k : Int) : Bool := kbits k ∈ [2, 3]
def hasN (k : Int) : Bool := kbits k ∈ [4, 5, 13]
def hasM (k : Int) : Bool := kbits k ∈ [13]
def isKind (k : Int) : Bool := decide (1 ≤ k) && decide (k ≤ 14)
def rightB (k : Int) (a b : ByteArray) (n m : Int) : Bool :=
  isKind k && (wordB a (hasA k) && (wordB b (hasB k) && (numB n (hasN k) && numB m (hasM k))))
theorem kbits_cases (k : Int) : (k < 1 ∨ 14 < k) ∧ kbits k = 16 ∨ (1 ≤ k ∧ k ≤ 14) ∧ kbits k ∈ [0, 1, 2, 3, 4, 5, 13] := by
  by_cases h : 1 ≤ k ∧ k ≤ 14
  · refine .inr ⟨h, ?_⟩
    obtain ⟨n, rfl⟩ := Int.eq_ofNat_of_zero_le (show 0 ≤ k by omega)
    have : n = 1 ∨ n = 2 ∨ n = 3 ∨ n = 4 ∨ n = 5 ∨ n = 6 ∨ n = 7 ∨ n = 8 ∨ n = 9 ∨ n = 10 ∨ n = 11 ∨ n = 12 ∨ n = 13 ∨ n = 14 := by omega
    rcases this with rfl | rfl | rfl | rfl | rfl | rfl | rfl | rfl | rfl | rfl | rfl | rfl | rfl | rfl <;> decide
  · refine .inl ⟨by omega, ?_⟩
    unfold kbits
    by_cases h0 : k = 0
    · subst h0; decide
    · rw [if_pos (by omega)]
theorem isKind_eq (k : Int) : (kbits k != 16) = isKind k := by
  rcases kbits_cases k with ⟨h, e⟩ | ⟨h, e⟩
  · rw [e]; simp [isKind]; omega
  · have : isKind k = true := by simp [isKind]; omega
    rw [this]
    simp at e ⊢
    omega

def putT (has : Bool) (s : ByteArray) : List UInt8 := if has then textL s.data.toList else []
def putI (has : Bool) (n : Int) : List UInt8 := if has then putL n else []
/-- a message's bytes -/
def wputL (k : Int) (a b : ByteArray) (n m : Int) : List UInt8 :=
  if rightB k a b n m then UInt8.ofNat k.toNat :: (putT (hasA k) a ++ (putT (hasB k) b ++ (putI (hasN k) n ++ putI (hasM k) m))) else []
structure WMsg where
  k : Int
  a : ByteArray
  b : ByteArray
  n : Int
  m : Int
def rdT (has : Bool) (l : List UInt8) : Option (ByteArray × List UInt8) :=
  if has then (match readL l with | none => none | some (s, k) => some (⟨s.toArray⟩, l.drop k)) else some (⟨#[]⟩, l)
def rdI (has : Bool) (l : List UInt8) : Option (Int × List UInt8) :=
  if has then (match getL l with | none => none | some (n, k) => some ((n : Int), l.drop k)) else some (0, l)
/-- the message of a kind, and bytes behind it -/
def wgetK (k : Int) (r0 : List UInt8) : Option WMsg :=
  match rdT (hasA k) r0 with
  | none => none
  | some (a, r1) =>
    match rdT (hasB k) r1 with
    | none => none
    | some (b, r2) =>
      match rdI (hasN k) r2 with
      | none => none
      | some (n, r3) =>
        match rdI (hasM k) r3 with
        | none => none
        | some (m, r4) => if r4 = [] ∧ rightB k a b n m = true then some ⟨k, a, b, n, m⟩ else none
/-- the message of bytes -/
def wgetL : List UInt8 → Option WMsg
  | [] => none
  | c :: r0 => wgetK (c.toNat : Int) r0
end Go.Proofs.Ytjpchjbbfbmjgaa
