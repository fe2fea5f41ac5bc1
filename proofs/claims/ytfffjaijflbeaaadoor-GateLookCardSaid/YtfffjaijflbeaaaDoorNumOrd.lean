/- Of two numbers the lesser one has fewer digits, or as many that are less: in any base. What is cut is none. Nothing of the program. -/
import Derived.Test.YtfffjaijflbeaaaDoorDec
import GoSem.Op.String
namespace Go.Proofs.YtfffjaijflbeaaaDoor
set_option linter.unusedSimpArgs false
set_option linter.unusedVariables false
open Go.Lib (decDigits)
theorem less_nil (l : List UInt8) : Op.bytesLess l [] = false := by cases l <;> rfl
theorem less_snoc (a b : UInt8) : ∀ (A B : List UInt8), A.length = B.length → Op.bytesLess (A ++ [a]) (B ++ [b]) = (Op.bytesLess A B || (A == B && decide (a.toNat < b.toNat)))
  | [], [], _ => by
    show (decide (a < b) || (a == b && Op.bytesLess [] [])) = (false || (true && decide (a.toNat < b.toNat)))
    simp [Op.bytesLess, UInt8.lt_iff_toNat_lt]
  | [], y :: ys, h => by simp at h
  | x :: xs, [], h => by simp at h
  | x :: xs, y :: ys, h => by
    have ih := less_snoc a b xs ys (by simpa using h)
    show (decide (x < y) || (x == y && Op.bytesLess (xs ++ [a]) (ys ++ [b]))) = (decide (x < y) || (x == y && Op.bytesLess xs ys) || ((x :: xs) == (y :: ys) && decide (a.toNat < b.toNat)))
    rw [ih, List.cons_beq_cons]
    cases decide (x < y) <;> cases x == y <;> simp
/-- digits in a base: H m those of m, none for 0 -/
structure Digits (B K : Nat) (E : Nat → UInt8) (H : Nat → List UInt8) : Prop where
  base : 1 < B
  zero : H 0 = []
  step : ∀ m, m ≠ 0 → m ≤ K → H m = H (m / B) ++ [E (m % B)]
  mono : ∀ a b, a < B → b < B → ((E a).toNat < (E b).toNat ↔ a < b)
def LessD (x y : List UInt8) : Prop := x.length < y.length ∨ (x.length = y.length ∧ Op.bytesLess x y = true)
section
variable {B K : Nat} {E : Nat → UInt8} {H : Nat → List UInt8}
theorem Digits.same (D : Digits B K E H) : ∀ m, m ≤ K → ∀ m', m' ≤ K → (H m = H m' ↔ m = m') := by
  intro m
  induction m using Nat.strongRecOn with
  | _ m ih =>
    intro hm m' hm'
    refine ⟨fun h => ?_, fun h => by rw [h]⟩
    have hB := D.base
    by_cases h0 : m = 0
    · subst h0
      by_cases h1 : m' = 0
      · exact h1.symm
      · rw [D.zero, D.step m' h1 hm'] at h
        simp at h
    · by_cases h1 : m' = 0
      · subst h1
        rw [D.zero, D.step m h0 hm] at h
        simp at h
      · rw [D.step m h0 hm, D.step m' h1 hm'] at h
        obtain ⟨e1, e2⟩ := List.append_inj' h rfl
        have hd := Nat.div_lt_self (by omega : 0 < m) hB
        have hdm := Nat.div_le_self m' B
        have hq := (ih (m / B) hd (by omega) (m' / B) (by omega)).1 e1
        have hE : E (m % B) = E (m' % B) := by simpa using e2
        have l1 := D.mono (m % B) (m' % B) (Nat.mod_lt _ (by omega)) (Nat.mod_lt _ (by omega))
        have l2 := D.mono (m' % B) (m % B) (Nat.mod_lt _ (by omega)) (Nat.mod_lt _ (by omega))
        rw [hE] at l1 l2
        have hr : m % B = m' % B := by omega
        have := Nat.div_add_mod m B
        have := Nat.div_add_mod m' B
        rw [hq, hr] at *
        omega
theorem div_lt_cases {B m m' : Nat} (hB : 0 < B) : m < m' ↔ (m / B < m' / B ∨ (m / B = m' / B ∧ m % B < m' % B)) := by
  have h1 := Nat.div_add_mod m B
  have h2 := Nat.div_add_mod m' B
  have r1 := Nat.mod_lt m hB
  have r2 := Nat.mod_lt m' hB
  constructor
  · intro h
    rcases Nat.lt_trichotomy (m / B) (m' / B) with hq | hq | hq
    · exact .inl hq
    · refine .inr ⟨hq, ?_⟩
      rw [hq] at h1
      omega
    · exfalso
      have : B * (m' / B + 1) ≤ B * (m / B) := Nat.mul_le_mul_left _ hq
      rw [Nat.mul_add] at this
      omega
  · rintro (hq | ⟨hq, hr⟩)
    · have : B * (m / B + 1) ≤ B * (m' / B) := Nat.mul_le_mul_left _ hq
      rw [Nat.mul_add] at this
      omega
    · rw [hq] at h1
      omega
theorem lessD_snoc {A A' : List UInt8} {a a' : UInt8} {P Q : Prop} (h1 : LessD A A' ↔ P) (h2 : A = A' ↔ Q) (hex : P → ¬ Q) : LessD (A ++ [a]) (A' ++ [a']) ↔ (P ∨ (Q ∧ a.toNat < a'.toNat)) := by
  unfold LessD at *
  rw [← h1, ← h2]
  simp only [List.length_append, List.length_singleton]
  constructor
  · rintro (h | ⟨hl, hb⟩)
    · exact .inl (.inl (by omega))
    · have hl' : A.length = A'.length := by omega
      rw [less_snoc a a' A A' hl', Bool.or_eq_true, Bool.and_eq_true, beq_iff_eq, decide_eq_true_eq] at hb
      rcases hb with hb | hb
      · exact .inl (.inr ⟨hl', hb⟩)
      · exact .inr hb
  · rintro ((h | ⟨hl, hb⟩) | ⟨he, hb⟩)
    · exact .inl (by omega)
    · refine .inr ⟨by omega, ?_⟩
      rw [less_snoc a a' A A' hl, hb]
      rfl
    · subst he
      refine .inr ⟨rfl, ?_⟩
      rw [less_snoc a a' A A rfl, beq_self_eq_true, decide_eq_true hb]
      simp
theorem Digits.order (D : Digits B K E H) : ∀ m, m ≤ K → ∀ m', m' ≤ K → (LessD (H m) (H m') ↔ m < m') := by
  intro m
  induction m using Nat.strongRecOn with
  | _ m ih =>
    intro hm m' hm'
    have hB := D.base
    by_cases h0 : m = 0
    · subst h0
      by_cases h1 : m' = 0
      · subst h1
        rw [D.zero]
        unfold LessD
        simp [Op.bytesLess]
      · rw [D.zero, D.step m' h1 hm']
        unfold LessD
        simp
        omega
    · by_cases h1 : m' = 0
      · subst h1
        rw [D.zero, D.step m h0 hm]
        unfold LessD
        simp
      · have hd := Nat.div_lt_self (by omega : 0 < m) hB
        have hdm := Nat.div_le_self m' B
        have i1 := ih (m / B) hd (by omega) (m' / B) (by omega)
        have i2 := D.same (m / B) (by omega) (m' / B) (by omega)
        rw [D.step m h0 hm, D.step m' h1 hm', lessD_snoc i1 i2 (fun h e => by omega), D.mono _ _ (Nat.mod_lt _ (by omega)) (Nat.mod_lt _ (by omega))]
        exact (div_lt_cases (by omega)).symm
/-- with the last digit written otherwise, and one at least -/
theorem Digits.order1 (D : Digits B K E H) {e : Nat → UInt8} (he : ∀ a b, a < B → b < B → ((e a).toNat < (e b).toNat ↔ a < b)) {m m' : Nat} (hm : m ≤ K) (hm' : m' ≤ K) :
    LessD (H (m / B) ++ [e (m % B)]) (H (m' / B) ++ [e (m' % B)]) ↔ m < m' := by
  have hB := D.base
  have q1 := Nat.div_le_self m B
  have q2 := Nat.div_le_self m' B
  rw [lessD_snoc (D.order (m / B) (by omega) (m' / B) (by omega)) (D.same (m / B) (by omega) (m' / B) (by omega)) (fun h e => by omega), he _ _ (Nat.mod_lt _ (by omega)) (Nat.mod_lt _ (by omega))]
  exact (div_lt_cases (by omega)).symm
end
theorem small_toNat {d : Nat} (h : d < 256) : (UInt8.ofNat d).toNat = d := by simp; omega
theorem digits128 : Digits 128 4398046511103 hi (fun m => (digs 6 m).map hi) where
  base := by omega
  zero := rfl
  step := by
    intro m h0 hm
    have e : digs 6 m = digs 5 (m / 128) ++ [m % 128] := digs_pos h0
    have h5 : (128 : Nat) ^ 5 = 34359738368 := by decide
    have e2 : digs 6 (m / 128) = digs 5 (m / 128) := digs_more 5 1 _ (by omega)
    rw [e, e2, List.map_append]
    rfl
  mono := by
    intro a b ha hb
    rw [hi_toNat ha, hi_toNat hb]
    omega
def decTail (v : Nat) : List UInt8 := if v = 0 then [] else decDigits v
theorem dec_tail (n : Nat) : decDigits n = decTail (n / 10) ++ [UInt8.ofNat (48 + n % 10)] := by
  unfold decTail
  by_cases hs : n < 10
  · rw [if_pos (by omega), dec_small hs, Nat.mod_eq_of_lt hs]
    rfl
  · rw [if_neg (by omega), dec_big hs]
theorem digits10 (K : Nat) : Digits 10 K (fun d => UInt8.ofNat (48 + d)) decTail where
  base := by omega
  zero := rfl
  step := by
    intro m h0 hm
    rw [← dec_tail m]
    unfold decTail
    rw [if_neg h0]
  mono := by
    intro a b ha hb
    rw [dig_toNat ha, dig_toNat hb]
    omega
/-- of two numbers the lesser one has fewer bytes, or as many that are less -/
theorem put_order {x y : Nat} (hx : x ≤ maxNum) (hy : y ≤ maxNum) : LessD (putN x) (putN y) ↔ x < y := by
  unfold maxNum at hx hy
  exact digits128.order1 (e := fun d => UInt8.ofNat d) (fun a b ha hb => by rw [small_toNat (by omega), small_toNat (by omega)]) (by omega) (by omega)
theorem dec_order (x y : Nat) : LessD (decDigits x) (decDigits y) ↔ x < y := by
  rw [dec_tail x, dec_tail y]
  exact (digits10 (x + y)).order1 (digits10 (x + y)).mono (by omega) (by omega)

/-- bytes that are cut are no number's -/
theorem get_cut (n : Nat) : getL ((putN n).take ((putN n).length - 1)) = none := by
  have e : (putN n).take ((putN n).length - 1) = (digs 6 (n / 128)).map hi := by
    rw [putN_parts]
    simp
  unfold getL low
  rw [e]
  have h : ((digs 6 (n / 128)).map hi |>.take 6).findIdx? (fun c => decide (c.toNat < 128)) = none := by
    rw [List.findIdx?_eq_none_iff]
    intro x hx
    obtain ⟨d, hd, rfl⟩ := List.mem_map.1 (List.mem_of_mem_take hx)
    have := hi_toNat (digs_lt _ _ d hd)
    simp [this]
  rw [h]
/-- bytes that are cut are no text's -/
theorem read_cut {s : List UInt8} (h : s.length ≤ 255) : readL ((textL s).take ((textL s).length - 1)) = none := by
  unfold textL
  rw [if_neg (by omega)]
  cases s with
  | nil => rfl
  | cons c r =>
    simp only [List.length_cons, Nat.add_sub_cancel, List.take_succ_cons]
    simp only [List.length_cons] at h
    show (if (List.take r.length (c :: r)).length < (UInt8.ofNat (r.length + 1)).toNat then none else _) = none
    rw [if_pos]
    rw [small_toNat (by omega), List.length_take, List.length_cons]
    omega
end Go.Proofs.YtfffjaijflbeaaaDoor
